/- Soundness: ranging over a text. -/
import Derived.Test.YtggppceiapjadaaFwS15
import Derived.Laws.RangeString
import Derived.Laws.BytesArg
import Derived.Laws.IdiomStrings
set_option linter.unusedVariables false
set_option linter.unusedSimpArgs false
namespace Go.Fw
open Go Go.RowKit

theorem u8_lt (b : UInt8) : b.toNat < 256 := b.toNat_lt

theorem decode_lt (s : ByteArray) (i : Nat) : (Utf8.decode s i).1 < 2097152 := by
  have h0 := u8_lt (s.get! (i + 0)); have h1 := u8_lt (s.get! (i + 1)); have h2 := u8_lt (s.get! (i + 2)); have h3 := u8_lt (s.get! (i + 3))
  unfold Utf8.decode
  simp only [Utf8.runeError]
  repeat' split
  all_goals (simp only; omega)

section
variable {P : Program} {B : Nat} {G0 : Nat → Nat → Prop} {W0 : World} {n : Nat} {env : Env} {a : Act} {w : World} {ob : Nat → OB} {tm : Array Value}
variable {R : Type} {K : Kont R} {r : R} {next : Act → World → Prop} {Q : Exit → Act → World → Prop} {o : Oper} {i : AI} {cl : Cal}

theorem run_next_some {b pos : Nat} {s : ByteArray} {ty : TypeId} (h : w.heap[b]? = some (.stringIter s pos)) (hp : pos < s.size) :
    (Instr.next (.pointer (some ⟨b, 0, none⟩)) true ty).run P w = .ok (.tuple #[.bool true, .int .i64 (pos : Int), .int .i32 ((Utf8.decode s pos).1 : Int)]) { w with heap := w.heap.setIfInBounds b (.stringIter s (pos + (Utf8.decode s pos).2)) } := by
  simp [Instr.next, getObj, setObj, Sem.run, h, hp, goInt]

theorem run_next_over {b pos : Nat} {s : ByteArray} {ty : TypeId} (h : w.heap[b]? = some (.stringIter s pos)) (hp : ¬ pos < s.size) :
    (Instr.next (.pointer (some ⟨b, 0, none⟩)) true ty).run P w = .ok (.tuple #[.bool false]) w := by
  simp [Instr.next, getObj, Sem.run, h, hp]

theorem st_rng {t : TypeId} {x : Operand} {y : Od} (hC : Conc P B G0 W0 n env a.tmps w ob) (hK : KOk P B G0 W0 n a K r next) (hd : ∀ k, o.dst = some k → k < n) (hdst : i.dst = o.dst)
    (ho : o.op = .range t x) (hi : i.op = .rng y) (ht : TyR P t .str) (hx : okOd x y = true) (h : step cl i env K = some r) : o.wp P a w next Q := by
  unfold step at h; rw [hi] at h; simp only [hdst, Option.bind_eq_some_iff] at h
  obtain ⟨s, hs, h⟩ := h
  obtain ⟨hv, hl⟩ := str_rep hC hx hs
  have hg : Grows w (w.alloc (.stringIter ⟨⟨s⟩⟩ 0)) := Grows.alloc w _
  refine wp_value (v := .pointer (some ⟨w.heap.size, 0, none⟩)) (w' := w.alloc (.stringIter ⟨⟨s⟩⟩ 0)) ?_ ?_
  · simp [execOp, ho, hv, Instr.range, run_underlying ht.str]
  · cases hod : o.dst with
    | none => rw [hod] at h; exact fin0 (d := none) (e := .dead) hC hK (fun k hk => by cases hk) hg (v := undef) rfl h
    | some k =>
      rw [hod] at h
      have h2 := Conc.putG (e := .it s 0) (v := .pointer (some ⟨w.heap.size, 0, none⟩)) (bk := [(w.heap.size, 0)]) hC (hd k hod) hg ?_ (by simp) (by simp)
      · exact hK _ _ _ _ h2 h
      · rw [if_neg (by simp [leads])]
        exact ⟨w.heap.size, rfl, hC.base, heap_alloc_new w _, hl, rfl⟩

/-- an iterator goes on -/
theorem Conc.goOn (hC : Conc P B G0 W0 n env tm w ob) {k b : Nat} {s : List UInt8} {pos pos' : Nat} (hk : look env k = .it s pos) (hb : tm.getD k undef = .pointer (some ⟨b, 0, none⟩)) :
    Conc P B G0 W0 n ((k, .it s pos') :: env) tm { w with heap := w.heap.setIfInBounds b (.stringIter ⟨⟨s⟩⟩ pos') } ob := by
  have hr := hC.rep k
  rw [hk] at hr
  obtain ⟨b', h1, h2, h3, h4, h5⟩ := hr
  rw [hb] at h1
  simp only [Value.pointer.injEq, Option.some.injEq, Addr.mk.injEq, and_true] at h1
  subst h1
  have hlow := hC.low k b (by rw [h5]; simp)
  have other : ∀ g, g ≠ b → (w.heap.setIfInBounds b (.stringIter ⟨⟨s⟩⟩ pos'))[g]? = w.heap[g]? := fun g hg => by
    rw [Array.getElem?_setIfInBounds_ne (Ne.symm hg)]
  have ncell : ∀ (b' i : Nat), b' ≠ b → ({ w with heap := w.heap.setIfInBounds b (.stringIter ⟨⟨s⟩⟩ pos') } : World).cell? ⟨b', i, none⟩ = w.cell? ⟨b', i, none⟩ := fun b' i hne => World.cell?_of_block (w := w) (other b' hne)
  refine Conc.step hC ⟨rfl, rfl, rfl, by simp, fun g hg => other g (by omega)⟩ (fun b' i _ h => ⟨h, ncell b' i ?_⟩) (fun j => ?_) hC.dist hC.nodup (fun j b' hb' => by have := hC.low j b' hb'; simpa using this) hC.size
  · rintro rfl
    rcases h with ⟨h, _⟩ | ⟨_, h⟩
    · exact absurd h (by omega)
    · exact absurd (h k 0 (by rw [h5]; simp)) (by omega)
  · by_cases hj : j = k
    · subst hj; right
      rw [look_cons, if_pos rfl]
      exact ⟨b, hb, h2, by rw [Array.getElem?_setIfInBounds_self_of_lt (by omega)], h4, h5⟩
    · left
      rw [look_cons, if_neg (Ne.symm hj)]
      refine ⟨rfl, rfl, rfl, fun g hg => other g ?_, fun t ht => ?_⟩
      · rintro rfl; exact hj (hC.dist j k _ hg (by rw [h5]; simp))
      · by_cases htk : t = k
        · subst htk
          have := (ERep.leads ht (hC.rep j)).1
          rw [hk] at this; simp [E.home] at this
        · refine HomeEq.same (P := P) (by rw [look_cons, if_neg (Ne.symm htk)]) rfl (hC.rep t) (fun g hg => other g ?_)
          rintro rfl; exact htk (hC.dist t k _ hg (by rw [h5]; simp))

theorem st_nxt {k : Nat} (hC : Conc P B G0 W0 n env a.tmps w ob) (hK : KOk P B G0 W0 n a K r next) (hd : ∀ k, o.dst = some k → k < n) (hdst : i.dst = o.dst)
    (ho : o.op = .next (.tmp k) true) (hi : i.op = .nxt k) (h : step cl i env K = some r) : o.wp P a w next Q := by
  unfold step at h; rw [hi] at h; simp only [hdst] at h
  have hr := hC.rep k
  split at h
  · rename_i s pos he
    rw [he] at hr
    obtain ⟨b, h1, h2, h3, h4, h5⟩ := hr
    have hev : a.eval (.tmp k) = .pointer (some ⟨b, 0, none⟩) := h1
    have hsz : (⟨⟨s⟩⟩ : ByteArray).size = s.length := rfl
    by_cases hp : pos < s.length
    · rw [show decide (pos < s.length) = true by simpa using hp] at h
      simp only [brB] at h
      have hrun := run_next_some (P := P) (ty := o.type) h3 (by rw [hsz]; exact hp)
      refine wp_value (v := .tuple #[.bool true, .int .i64 (pos : Int), .int .i32 ((Utf8.decode ⟨⟨s⟩⟩ pos).1 : Int)]) (w' := { w with heap := w.heap.setIfInBounds b (.stringIter ⟨⟨s⟩⟩ (pos + (Utf8.decode ⟨⟨s⟩⟩ pos).2)) }) ?_ ?_
      · simp [execOp, ho, hev, hrun]
      · have hC1 := Conc.goOn (pos' := pos + (Utf8.decode ⟨⟨s⟩⟩ pos).2) hC he h1
        have hdl := decode_lt ⟨⟨s⟩⟩ pos
        refine fin0 (e := .tup [.v .bool true, .v (.int .i64) (pos : Int), .v (.int .i32) ((Utf8.decode ⟨⟨s⟩⟩ pos).1 : Int)]) hC1 hK hd (Grows.refl _) ⟨by simp [leads], _, rfl, ?_⟩ h
        refine ⟨.bool true, [.int .i64 (pos : Int), .int .i32 ((Utf8.decode ⟨⟨s⟩⟩ pos).1 : Int)], [], [], rfl, rfl, ⟨rfl, [.bool true], by unfold Flat; exact ⟨rfl, rfl⟩, rfl⟩, .int .i64 (pos : Int), [.int .i32 ((Utf8.decode ⟨⟨s⟩⟩ pos).1 : Int)], [], [], rfl, rfl, ⟨rfl, [.int .i64 (pos : Int)], ?_, rfl⟩, .int .i32 ((Utf8.decode ⟨⟨s⟩⟩ pos).1 : Int), [], [], [], rfl, rfl, ⟨rfl, [.int .i32 ((Utf8.decode ⟨⟨s⟩⟩ pos).1 : Int)], ?_, rfl⟩, rfl, rfl⟩
        · unfold Flat
          refine ⟨rfl, ?_, rfl⟩
          have : (maxLen : Int) ≤ 9223372036854775807 := by decide
          constructor
          · show (-9223372036854775808 : Int) ≤ _; omega
          · show _ ≤ (9223372036854775807 : Int); omega
        · unfold Flat
          refine ⟨rfl, ?_, rfl⟩
          constructor
          · show (-2147483648 : Int) ≤ _; omega
          · show _ ≤ (2147483647 : Int); omega
    · rw [show decide (pos < s.length) = false by simpa using hp] at h
      simp only [brB] at h
      have hrun := run_next_over (P := P) (ty := o.type) h3 (by rw [hsz]; exact hp)
      refine wp_value (v := .tuple #[.bool false]) (w' := w) (by simp [execOp, ho, hev, hrun]) ?_
      exact fin0 (e := .tup [.v .bool false]) hC hK hd (Grows.refl _) ⟨by simp [leads], #[.bool false], rfl, .bool false, [], [], [], rfl, rfl, ⟨rfl, [.bool false], by unfold Flat; exact ⟨rfl, rfl⟩, rfl⟩, rfl, rfl⟩ h
  · simp at h

theorem st_nilck {x : Operand} {y : Od} (hC : Conc P B G0 W0 n env a.tmps w ob) (hK : KOk P B G0 W0 n a K r next) (hd : ∀ k, o.dst = some k → k < n) (hdst : i.dst = o.dst)
    (ho : o.op = .nilCheck x) (hi : i.op = .nilck y) (hx : okOd x y = true) (h : step cl i env K = some r) : o.wp P a w next Q := by
  unfold step at h; rw [hi] at h; simp only [hdst] at h
  have hr := ent_rep hC hx
  have fin : (∃ p, a.eval x = .pointer (some p)) → K (putO env o.dst (copyE y (ent env y))) = some r → o.wp P a w next Q := by
    rintro ⟨p, hp⟩ h
    exact wp_value (v := a.eval x) (by simp [execOp, ho, hp]) (fin_copy hC hK hx hd h)
  split at h
  · rename_i s p he
    rw [he] at hr
    obtain ⟨_, T, oo, z, b, _, _, _, h4⟩ := hr
    exact fin ⟨_, h4⟩ h
  · rename_i s p j q he
    rw [he] at hr
    obtain ⟨_, hh, g, m, c, _, _, _, _, h4⟩ := hr
    exact fin ⟨_, h4⟩ h
  · rename_i T z he
    rw [he] at hr
    obtain ⟨_, b, off, vs, h4, _⟩ := hr
    exact fin ⟨_, h4⟩ h
  · rename_i T oo z he
    rw [he] at hr
    obtain ⟨b, cur, e, ob', h4, _⟩ := hr
    exact fin ⟨_, h4⟩ h
  · simp at h

theorem elems_ints {P : Program} {w : World} {G : Nat → Nat → Prop} {B : Nat} {k : IntKind} : ∀ {xs : List Int} {cells : List Value} {ob : OB}, Elems (Flat P (.int k) w G B .no) xs cells ob → cells = xs.map (Value.int k)
  | [], _, _, h => h.1
  | x :: xs, _, _, ⟨v1, v2, b1, b2, e1, _, h1, h2⟩ => by
    unfold Flat at h1
    rw [e1, h1.1, elems_ints h2]; rfl

theorem ints_elems {P : Program} {w : World} {G : Nat → Nat → Prop} {B : Nat} {k : IntKind} : ∀ {xs : List Int}, (∀ x ∈ xs, inR k x) → Elems (Flat P (.int k) w G B .no) xs (xs.map (Value.int k)) []
  | [], _ => ⟨rfl, rfl⟩
  | x :: xs, h => ⟨[.int k x], xs.map (Value.int k), [], [], rfl, rfl, by unfold Flat; exact ⟨rfl, h x (by simp), rfl⟩, ints_elems (fun y hy => h y (by simp [hy]))⟩

theorem st_toStr {src dst e : TypeId} {x : Operand} {y : Od} (hC : Conc P B G0 W0 n env a.tmps w ob) (hK : KOk P B G0 W0 n a K r next) (hd : ∀ k, o.dst = some k → k < n) (hdst : i.dst = o.dst)
    (ho : o.op = .convert src dst x) (hi : i.op = .toStr y) (hs : P.underlying src = some (.slice e)) (he : P.underlying e = some (.int .u8)) (ht : P.underlying dst = some .string) (hx : okOd x y = true) (h : step cl i env K = some r) : o.wp P a w next Q := by
  unfold step at h; rw [hi] at h; simp only [hdst, Option.bind_eq_some_iff] at h
  obtain ⟨z, hz, xs, hxs, h⟩ := h
  have := cast?_some hxs; subst this
  obtain ⟨vs, e1, f1⟩ := imm_rep hC hx hz
  unfold Flat at f1
  obtain ⟨_, A, c, rfl, hle, hmx, hcells⟩ := f1
  have ev : a.eval x = .slice A xs.length c := e1
  have hrun : (convert src dst (.slice A xs.length c)).run P w = .ok (.string ⟨⟨xs.map fun n => UInt8.ofNat n.toNat⟩⟩) w := by
    have key : ∀ b off, A = some ⟨b, off, none⟩ → (∀ j, j < xs.length → w.cell? ⟨b, off + j, none⟩ = some (.int .u8 (xs.getD j 0))) → (convert src dst (.slice A xs.length c)).run P w = .ok (.string ⟨⟨xs.map fun n => UInt8.ofNat n.toNat⟩⟩) w := by
      rintro b off rfl hc
      rw [run_convert_bytes_arg w src e hs he b off xs.length c xs rfl hc dst ht]
      rfl
    rcases hcells with h0 | ⟨b, off, cells, hA, hel, hc⟩
    · subst h0
      cases A with
      | none => exact run_convert_bytes_nil w src e hs he _ _ dst ht
      | some p =>
        have e0 := run_bytesToString (P := P) w p 0 c [] (run_loadCells_list (P := P) w p [] (fun j v hj => by simp at hj))
        rw [run_convert_bytes_string w src dst e _ _ _ hs he ht]
        exact e0
    · refine key b off hA (fun j hj => ?_)
      have e2 := elems_ints hel
      subst e2
      refine (hc j (.int .u8 (xs.getD j 0)) ?_).1
      simp [List.getD, List.getElem?_eq_getElem hj]
  refine wp_value (v := .string ⟨⟨xs.map fun n => UInt8.ofNat n.toNat⟩⟩) (w' := w) ?_ (fin0 (e := .v .str (xs.map fun n => UInt8.ofNat n.toNat)) hC hK hd (Grows.refl w) ⟨rfl, [.string ⟨⟨xs.map fun n => UInt8.ofNat n.toNat⟩⟩], by unfold Flat; exact ⟨rfl, by rw [List.length_map]; exact Nat.le_trans hle hmx, rfl⟩, rfl⟩ h)
  simp [execOp, ho, ev, hrun]

theorem st_toSl {src dst e : TypeId} {x : Operand} {y : Od} (hC : Conc P B G0 W0 n env a.tmps w ob) (hK : KOk P B G0 W0 n a K r next) (hd : ∀ k, o.dst = some k → k < n) (hdst : i.dst = o.dst)
    (ho : o.op = .convert src dst x) (hi : i.op = .toSl y) (hs : P.underlying src = some .string) (ht : P.underlying dst = some (.slice e)) (he : P.underlying e = some (.int .u8)) (hx : okOd x y = true) (h : step cl i env K = some r) : o.wp P a w next Q := by
  unfold step at h; rw [hi] at h; simp only [hdst, Option.bind_eq_some_iff] at h
  obtain ⟨s, hss, h⟩ := h
  obtain ⟨hv, hl⟩ := str_rep hC hx hss
  have hrun := run_bytes_of_string w src dst e ⟨⟨s⟩⟩ hs ht he
  have hsz : (⟨⟨s⟩⟩ : ByteArray).size = s.length := rfl
  rw [hsz] at hrun
  generalize hcap : grownCap w s.length 0 e = cap at hrun
  have hge : s.length ≤ cap := by rw [← hcap]; exact grownCap_ge w _ _ _
  have hcm : cap ≤ maxLen := by rw [← hcap]; exact grownCap_le_maxLen w _ _ _ hl
  generalize hfz : ((bytesRow ⟨⟨s⟩⟩ cap).size, (bytesRow ⟨⟨s⟩⟩ cap).size + 1) = fz at hrun
  have hg : Grows w (w.drew.alloc (.cells (bytesRow ⟨⟨s⟩⟩ cap) e fz)) := (Grows.drew w).trans (Grows.alloc w.drew _)
  refine wp_value (v := .slice (some ⟨w.heap.size, 0, none⟩) s.length cap) (w' := w.drew.alloc (.cells (bytesRow ⟨⟨s⟩⟩ cap) e fz)) (by simp [execOp, ho, hv, hrun]) ?_
  cases hod : o.dst with
  | none => rw [hod] at h; exact fin0 (d := none) (e := .dead) hC hK (fun k hk => by cases hk) hg (v := undef) rfl h
  | some k =>
    rw [hod] at h
    have hxl : (s.map fun b => (b.toNat : Int)).length = s.length := by simp
    have hrow : cap - s.length + s.length = cap := by omega
    have hbs : (bytesRow ⟨⟨s⟩⟩ cap).size = cap := by
      unfold bytesRow
      simp only [Array.size_append, Array.size_map, Array.size_replicate, List.size_toArray, hsz]
      omega
    have h2 := Conc.putG (e := .own true BUF (.int .u8) .no (s.map fun b => (b.toNat : Int))) (v := .slice (some ⟨w.heap.size, 0, none⟩) s.length cap) (bk := [(w.heap.size, 0)]) hC (hd k hod) hg ?_ (by simp) (by simp)
    · exact hK _ _ _ _ h2 h
    · rw [if_neg (by simp [leads])]
      show Flat P (.sl (.int .u8)) _ _ B (.own true BUF .no) (s.map fun b => (b.toNat : Int)) [_] _
      unfold Flat
      refine ⟨_, (s.map fun b => (b.toNat : Int)).map (Value.int .u8), [], rfl, ⟨by simp [cellsN], .inr ⟨w.heap.size, cap, bytesRow ⟨⟨s⟩⟩ cap, e, fz, by rw [hxl], hC.base, heap_alloc_new w.drew _, by rw [hxl]; exact hge, hcm, by rw [hbs]; simp [cellsN], ?_, fun h => absurd rfl h, .inr (by rw [← hfz]; exact Nat.le_refl _)⟩⟩, ints_elems (fun y hy => ?_), by simp [obOf, Value.ownBlock]⟩
      · simp only [cellsN, Nat.mul_one, hxl]
        unfold bytesRow
        simp only [Array.toList_append, Array.toList_map]
        rw [List.take_left' (by simp)]
        simp [List.map_map, Function.comp_def]
      · obtain ⟨b, _, rfl⟩ := List.mem_map.1 hy
        have := u8_lt b
        constructor
        · show (0 : Int) ≤ _; omega
        · show _ ≤ (255 : Int); omega

end
end Go.Fw
