/- Soundness, part 14: slices that are made and that grow. -/
import Derived.Test.YtggppceiapjadaaFwS13
set_option linter.unusedVariables false
set_option linter.unusedSimpArgs false
namespace Go.Fw
open Go Go.RowKit

section
variable {P : Program} {B : Nat} {G0 : Nat → Nat → Prop} {W0 : World} {n : Nat} {env : Env} {a : Act} {w w' : World} {ob : Nat → OB}
variable {R : Type} {K : Kont R} {r : R} {next : Act → World → Prop} {Q : Exit → Act → World → Prop} {o : Oper} {i : AI} {cl : Cal}

/-- a slot gives a part of what it holds to another, in a world where that part may have grown -/
theorem Conc.partW {k d : Nat} {tm : Array Value} (hC : Conc P B G0 W0 n env tm w ob) (hkd : d ≠ k) (hd : d < n) {b1 b2 b3 bd : OB} (hob : ob k = b1 ++ b2 ++ b3) {ek ed : E} {v : Value} {env' : Env} {ob' : Nat → OB}
    (hob' : ob' = fun s => if s = d then bd else if s = k then b1 ++ b3 else ob s) (hbel : Below B w w') (hw : ∀ b, b < w.heap.size → b ∉ blocks b2 → w'.heap[b]? = w.heap[b]?)
    (hbd : ∀ b, b ∈ blocks bd → b ∈ blocks b2 ∨ (w.heap.size ≤ b ∧ b < w'.heap.size)) (hbdn : (blocks bd).Nodup)
    (hcell : ∀ b i, b < w.heap.size → b ∈ blocks b2 → Gd B G0 ob b i → (∀ lim, (b, lim) ∈ bd → i < lim) ∧ w'.cell? ⟨b, i, none⟩ = w.cell? ⟨b, i, none⟩)
    (hlk : look env' k = ek) (hld : look env' d = ed)
    (hls : ∀ s, s ≠ k → s ≠ d → look env' s = .dead ∨ (look env' s = look env s ∧ leads k (look env s) = false ∧ ¬ ((look env d).home = true ∧ leads d (look env s) = true)) ∨
      (∃ p T o x o' x', look env s = .ptr k p ∧ look env' s = .ptr k p ∧ look env k = .loc T o x ∧ ek = .loc T o' x'))
    (hsd : ∀ s, s ≠ k → s ≠ d → look env' s = .dead → ob s = [] ∧ (look env s).home = false)
    (hk : (∀ b i, b < w.heap.size → Gd B G0 ob b i → Gd B G0 ob' b i ∧ w'.cell? ⟨b, i, none⟩ = w.cell? ⟨b, i, none⟩) → ERep P w' (Gd B G0 ob') B (tm.setIfInBounds d v) env' ek (tm.getD k undef) (b1 ++ b3))
    (hdd : (∀ b i, b < w.heap.size → Gd B G0 ob b i → Gd B G0 ob' b i ∧ w'.cell? ⟨b, i, none⟩ = w.cell? ⟨b, i, none⟩) → ERep P w' (Gd B G0 ob') B (tm.setIfInBounds d v) env' ed v bd) : Conc P B G0 W0 n env' (tm.setIfInBounds d v) w' ob' := by
  have hdt : d < tm.size := by rw [hC.size]; exact hd
  have hd' : ob' d = bd := by rw [hob']; simp
  have hk' : ob' k = b1 ++ b3 := by rw [hob']; simp [Ne.symm hkd]
  have ho' : ∀ s, s ≠ d → s ≠ k → ob' s = ob s := fun s h1 h2 => by rw [hob']; simp [h1, h2]
  have hsub2 : ∀ q, q ∈ b2 → q ∈ ob k := fun q hq => by rw [hob]; simp [hq]
  have hsub13 : ∀ q, q ∈ b1 ++ b3 → q ∈ ob k := fun q hq => by rw [hob]; rcases List.mem_append.1 hq with hq | hq <;> simp [hq]
  have hfrom : ∀ s q, q ∈ ob' s → (s = d ∧ q ∈ bd) ∨ (s = k ∧ q ∈ b1 ++ b3) ∨ (s ≠ d ∧ s ≠ k ∧ q ∈ ob s) := by
    intro s q hq
    by_cases h1 : s = d
    · subst h1; rw [hd'] at hq; exact .inl ⟨rfl, hq⟩
    · by_cases h2 : s = k
      · subst h2; rw [hk'] at hq; exact .inr (.inl ⟨rfl, hq⟩)
      · rw [ho' s h1 h2] at hq; exact .inr (.inr ⟨h1, h2, hq⟩)
  have hnd := hC.nodup k
  rw [hob] at hnd
  simp only [blocks_append] at hnd
  rw [List.append_assoc, List.nodup_append] at hnd
  obtain ⟨n1, n2, n3⟩ := hnd
  rw [List.nodup_append] at n2
  obtain ⟨n21, n22, n23⟩ := n2
  have hap2 : ∀ b, b ∈ blocks b2 → b ∈ blocks (b1 ++ b3) → False := by
    intro b h1 h2
    rw [blocks_append, List.mem_append] at h2
    rcases h2 with h2 | h2
    · exact n3 b h2 b (List.mem_append_left _ h1) rfl
    · exact n23 b h1 b h2 rfl
  have hlowk : ∀ b, b ∈ blocks (b1 ++ b3) → b < w.heap.size := fun b hb => by
    obtain ⟨l, hl⟩ := mem_blocks.1 hb
    exact (hC.low k b (mem_blocks.2 ⟨l, hsub13 _ hl⟩)).2
  have hap : ∀ b, b ∈ blocks bd → b ∈ blocks (b1 ++ b3) → False := by
    intro b h1 h2
    rcases hbd b h1 with h | h
    · exact hap2 b h h2
    · have := hlowk b h2; omega
  have hap' : ∀ s b, s ≠ k → b ∈ blocks bd → b ∈ blocks (ob s) → False := by
    intro s b hs h1 h2
    rcases hbd b h1 with h | h
    · obtain ⟨l, hl⟩ := mem_blocks.1 h
      exact hs (hC.dist _ _ b h2 (mem_blocks.2 ⟨l, hsub2 _ hl⟩))
    · have := (hC.low s b h2).2; omega
  have hG : ∀ b i, b < w.heap.size → Gd B G0 ob b i → Gd B G0 ob' b i ∧ w'.cell? ⟨b, i, none⟩ = w.cell? ⟨b, i, none⟩ := by
    intro b i hb hg
    by_cases hb2 : b ∈ blocks b2
    · obtain ⟨hc1, hc2⟩ := hcell b i hb hb2 hg
      refine ⟨?_, hc2⟩
      rcases hg with hg | ⟨g1, g2⟩
      · exact .inl hg
      · refine .inr ⟨g1, fun s lim hs => ?_⟩
        rcases hfrom s _ hs with ⟨_, hq⟩ | ⟨_, hq⟩ | ⟨_, _, hq⟩
        · exact hc1 lim hq
        · exact g2 k lim (hsub13 _ hq)
        · exact g2 s lim hq
    · refine ⟨?_, World.cell?_of_block (w := w) (hw b hb hb2)⟩
      rcases hg with hg | ⟨g1, g2⟩
      · exact .inl hg
      · refine .inr ⟨g1, fun s lim hs => ?_⟩
        rcases hfrom s _ hs with ⟨_, hq⟩ | ⟨_, hq⟩ | ⟨_, _, hq⟩
        · rcases hbd b (mem_blocks.2 ⟨lim, hq⟩) with h | h
          · exact absurd h hb2
          · omega
        · exact g2 k lim (hsub13 _ hq)
        · exact g2 s lim hq
  have hheap : ∀ s, s ≠ k → ∀ g ∈ blocks (ob s), w'.heap[g]? = w.heap[g]? := by
    intro s hs g hg
    refine hw g (hC.low s g hg).2 (fun h => ?_)
    obtain ⟨l, hl⟩ := mem_blocks.1 h
    exact hs (hC.dist _ _ g hg (mem_blocks.2 ⟨l, hsub2 _ hl⟩))
  refine Conc.step hC hbel hG (fun s => ?_) ?_ ?_ ?_ (by rw [Array.size_setIfInBounds]; exact hC.size)
  · by_cases h1 : s = d
    · subst h1; right
      rw [hld, getD_set_same _ _ _ hdt, hd']
      exact hdd hG
    · by_cases h2 : s = k
      · subst h2; right
        rw [hlk, getD_set_other _ _ h1, hk']
        exact hk hG
      · rw [getD_set_other _ _ h1, ho' s h1 h2]
        rcases hls s h2 h1 with hdead | ⟨h3, h4, h5⟩ | ⟨p, T, oa, x, oa', x', e1, e2, e3, e4⟩
        · right; rw [hdead]; exact (hsd s h2 h1 hdead).1
        · left
          refine ⟨h3, rfl, rfl, hheap s h2, fun s' hs' => ?_⟩
          have hh := ERep.leads hs' (hC.rep s)
          have f1 : s' ≠ d := by rintro rfl; exact h5 ⟨hh.1, hs'⟩
          have f2 : s' ≠ k := by rintro rfl; rw [h4] at hs'; exact absurd hs' (by simp)
          have f3 : look env' s' = look env s' := by
            rcases hls s' f2 f1 with q | ⟨q, _⟩ | ⟨p, _, _, _, _, _, q, _⟩
            · exfalso
              have := (hsd s' f2 f1 q).2
              rw [this] at hh; exact absurd hh.1 (by simp)
            · exact q
            · rw [q] at hh; exact absurd hh.1 (by simp [E.home])
          exact HomeEq.same (P := P) f3 (getD_set_other _ _ f1) (hC.rep s') (hheap s' f2)
        · right
          rw [e2]
          have hr := hC.rep s
          rw [e1] at hr
          obtain ⟨h6, T1, o1, x1, b, h7, h8, h9, h10⟩ := hr
          rw [e3] at h7; cases h7
          exact ⟨h6, T, oa', x', b, by rw [hlk, e4], by rw [getD_set_other _ _ (Ne.symm hkd)]; exact h8, h9, h10⟩
  · intro x y b hx hy
    obtain ⟨l1, hx⟩ := mem_blocks.1 hx
    obtain ⟨l2, hy⟩ := mem_blocks.1 hy
    rcases hfrom x _ hx with ⟨e1, q1⟩ | ⟨e1, q1⟩ | ⟨e1, f1, q1⟩ <;> rcases hfrom y _ hy with ⟨e2, q2⟩ | ⟨e2, q2⟩ | ⟨e2, f2, q2⟩
    · rw [e1, e2]
    · exact (hap b (mem_blocks.2 ⟨_, q1⟩) (mem_blocks.2 ⟨_, q2⟩)).elim
    · exact (hap' y b f2 (mem_blocks.2 ⟨_, q1⟩) (mem_blocks.2 ⟨_, q2⟩)).elim
    · exact (hap b (mem_blocks.2 ⟨_, q2⟩) (mem_blocks.2 ⟨_, q1⟩)).elim
    · rw [e1, e2]
    · exact absurd (hC.dist _ _ b (mem_blocks.2 ⟨_, q2⟩) (mem_blocks.2 ⟨_, hsub13 _ q1⟩)) f2
    · exact (hap' x b f1 (mem_blocks.2 ⟨_, q2⟩) (mem_blocks.2 ⟨_, q1⟩)).elim
    · exact absurd (hC.dist _ _ b (mem_blocks.2 ⟨_, q1⟩) (mem_blocks.2 ⟨_, hsub13 _ q2⟩)) f1
    · exact hC.dist _ _ b (mem_blocks.2 ⟨_, q1⟩) (mem_blocks.2 ⟨_, q2⟩)
  · intro s
    by_cases h1 : s = d
    · subst h1; rw [hd']; exact hbdn
    · by_cases h2 : s = k
      · subst h2; rw [hk', blocks_append, List.nodup_append]
        exact ⟨n1, n22, fun x hx y hy => n3 x hx y (List.mem_append_right _ hy)⟩
      · rw [ho' s h1 h2]; exact hC.nodup s
  · intro s b hb
    obtain ⟨l, hb⟩ := mem_blocks.1 hb
    rcases hfrom s _ hb with ⟨_, hq⟩ | ⟨_, hq⟩ | ⟨_, _, hq⟩
    · rcases hbd b (mem_blocks.2 ⟨_, hq⟩) with h | h
      · obtain ⟨l', hl'⟩ := mem_blocks.1 h
        have := hC.low k b (mem_blocks.2 ⟨_, hsub2 _ hl'⟩)
        exact ⟨this.1, Nat.lt_of_lt_of_le this.2 hbel.size⟩
      · exact ⟨Nat.le_trans hC.base h.1, h.2⟩
    · have := hC.low k b (mem_blocks.2 ⟨_, hsub13 _ hq⟩)
      exact ⟨this.1, Nat.lt_of_lt_of_le this.2 hbel.size⟩
    · have := hC.low s b (mem_blocks.2 ⟨_, hq⟩)
      exact ⟨this.1, Nat.lt_of_lt_of_le this.2 hbel.size⟩

/-- a new row -/
theorem own_new {e : TypeId} {T : Ty} {xs : List (den T)} {css : List Value} {cur : Array Value} {cap : Nat} {d : Option Nat} (hC : Conc P B G0 W0 n env a.tmps w ob) (hK : KOk P B G0 W0 n a K r next) (hd : ∀ k, d = some k → k < n)
    (hE : Elems (Flat P T w (Gd B G0 ob) B .no) xs css []) (hcur : cur.toList.take (xs.length * cellsN T) = css) (hcap : cur.size = cap * cellsN T) (hle : xs.length ≤ cap) (hmax : cap ≤ maxLen)
    (hk : K (putO env d (.own true e T .no xs)) = some r) : next (a.put d (.slice (some ⟨w.heap.size, 0, none⟩) xs.length cap)) (w.alloc (.cells cur e)) := by
  have hg : Grows w (w.alloc (.cells cur e)) := Grows.alloc w _
  cases d with
  | none => exact fin0 (e := .dead) hC hK hd hg (v := undef) rfl hk
  | some k =>
    have h := Conc.putG (e := .own true e T .no xs) (v := .slice (some ⟨w.heap.size, 0, none⟩) xs.length cap) (bk := [(w.heap.size, 0)]) hC (hd k rfl) hg ?_ (by simp) (by simp)
    · exact hK _ _ _ _ h hk
    · rw [if_neg (by simp [leads])]
      show Flat P (.sl T) _ _ B (.own true e .no) xs [_] _
      unfold Flat
      refine ⟨_, css, [], rfl, rowX_of ⟨Elems.length (fun x v b hx => Flat.len P T hx) hE, .inr ⟨w.heap.size, cap, cur, rfl, hC.base, heap_alloc_new w _, hle, hmax, hcap, hcur⟩⟩, ?_, by simp [obOf, Value.ownBlock]⟩
      exact Elems.imp (fun x v b hb hx => by
        have : b = [] := by cases b with | nil => rfl | cons q r => exact absurd (hb q (by simp)) (by simp)
        subst this
        exact Flat.mono P T (fun b i hb h => ⟨Gd_upd (fun lim hl => by simp at hl; omega) h, hg.cell hb⟩) ⟨hg.size, fun b hb => hg.block b (Nat.lt_of_lt_of_le hb hC.base)⟩ (by simp) hx) hE

def okIdx : List (Nat × Operand) → Nat → Bool
  | [], _ => true
  | (i, _) :: r, k => i == k && okIdx r (k + 1)

theorem fill_row (size : Nat) : ∀ (parts : List (Nat × Value)) (k : Nat) (done : List Value) (vss : List (List Value)) (cells : Array Value), parts.length = vss.length → (∀ j q, parts[j]? = some q → q.1 = k + j ∧ ∃ vs, vss[j]? = some vs ∧ q.2.cells = vs.toArray ∧ vs.length = size) →
    (∃ rest, cells.toList = done ++ rest ∧ rest.length = parts.length * size) → done.length = k * size → Instr.fill (fun i => some (i * size, size)) cells parts = some (done ++ vss.flatten).toArray
  | [], k, done, vss, cells, hl, _, ⟨rest, hc, hr⟩, _ => by
    have hv : vss = [] := List.eq_nil_of_length_eq_zero (by simpa using hl.symm)
    have hr' : rest = [] := List.eq_nil_of_length_eq_zero (by simpa using hr)
    subst hv; subst hr'
    simp only [Instr.fill, Option.some.injEq]
    apply Array.ext'
    simpa using hc
  | (f, v) :: parts, k, done, vss, cells, hl, hp, ⟨rest, hc, hr⟩, hd => by
    cases vss with
    | nil => simp at hl
    | cons vs vss =>
      obtain ⟨h1, vs', h2, h3, h4⟩ := hp 0 (f, v) rfl
      simp only [List.getElem?_cons_zero, Option.some.injEq] at h2
      subst h2
      simp only [Nat.add_zero] at h1
      subst h1
      simp only [List.length_cons, Nat.succ_mul] at hr
      have hsplit : cells.toList = done ++ rest.take size ++ rest.drop size := by rw [hc, List.append_assoc, List.take_append_drop]
      rw [fill_step (rest := parts) rfl h3 h4 hsplit hd (by rw [List.length_take]; omega)]
      rw [fill_row size parts (f + 1) (done ++ vs) vss _ (by simpa using hl) (fun j q hq => ?_) ⟨rest.drop size, by simp, by rw [List.length_drop]; omega⟩ (by rw [List.length_append, hd, h4, Nat.succ_mul])]
      · simp
      · obtain ⟨g1, vs2, g2, g3⟩ := hp (j + 1) q (by simpa using hq)
        exact ⟨by omega, vs2, by simpa using g2, g3⟩

theorem buildL_sound {T : Ty} : ∀ {us : List Operand} {ys : List Od} {env env' : Env} {ob : Nat → OB} {xs : List (den T)}, Conc P B G0 W0 n env a.tmps w ob → okOds us ys = true → buildL T env ys = some (env', xs) →
    ∃ (ob' : Nat → OB) (vss : List (List Value)), Frz ob ob' ∧ Conc P B G0 W0 n env' a.tmps w ob' ∧ Elems (Flat P T w (Gd B G0 ob') B .no) xs vss.flatten [] ∧ vss.length = us.length ∧ (∀ (j : Nat) (u : Operand), us[j]? = some u → ∃ vs : List Value, vss[j]? = some vs ∧ (a.eval u).cells = vs.toArray ∧ vs.length = cellsN T) ∧ xs.length = us.length
  | [], [], env, env', ob, xs, hC, _, h => by
    simp only [buildL, Option.some.injEq, Prod.mk.injEq] at h
    obtain ⟨rfl, rfl⟩ := h
    exact ⟨ob, [], Frz.refl _, hC, ⟨rfl, rfl⟩, rfl, fun j u hu => by simp at hu, rfl⟩
  | u :: us, y :: ys, env, env', ob, xs, hC, hok, h => by
    simp only [okOds, Bool.and_eq_true] at hok
    simp only [buildL, Option.bind_eq_some_iff, Option.some.injEq, Prod.mk.injEq] at h
    obtain ⟨⟨env1, z⟩, hz, x, hx, ⟨env2, xs2⟩, h2, rfl, rfl⟩ := h
    obtain ⟨ob1, hf1, hC1, vs, hv, hFz⟩ := pub_rep hC hok.1 hz
    have hzz := cast?_some hx
    simp only at hzz; subst hzz
    replace hFz : Flat P T w (Gd B G0 ob1) B .no x vs [] := hFz
    replace hv : a.eval u = asVal T vs := hv
    obtain ⟨ob2, vss, hf2, hC2, hE, hl, hcs, hxl⟩ := buildL_sound hC1 hok.2 h2
    refine ⟨ob2, vs :: vss, hf1.trans hf2, hC2, ⟨vs, vss.flatten, [], [], rfl, rfl, Flat.mono P T (fun b i _ hg => ⟨hf2.Gd hg, rfl⟩) (Later.refl _ _) (fun _ _ => rfl) hFz, hE⟩, by simp [hl], fun j w' hj => ?_, by simp [hxl]⟩
    cases j with
    | zero =>
      simp only [List.getElem?_cons_zero, Option.some.injEq] at hj; subst hj
      exact ⟨vs, rfl, by rw [hv]; exact cells_asVal (Flat.len P T hFz) (Flat.one P T rfl hFz), Flat.len P T hFz⟩
    | succ j => simpa using hcs j w' (by simpa using hj)
  | [], _ :: _, _, _, _, _, _, hok, _ => by simp [okOds] at hok
  | _ :: _, [], _, _, _, _, _, hok, _ => by simp [okOds] at hok

theorem okIdx_get : ∀ (l : List (Nat × Operand)) (k j : Nat) (q : Nat × Operand), okIdx l k = true → l[j]? = some q → q.1 = k + j
  | [], _, _, _, _, h => by simp at h
  | (i, u) :: r, k, 0, q, h, hq => by
    simp only [okIdx, Bool.and_eq_true, beq_iff_eq] at h
    simp only [List.getElem?_cons_zero, Option.some.injEq] at hq
    subst hq; exact h.1
  | (i, u) :: r, k, j + 1, q, h, hq => by
    simp only [okIdx, Bool.and_eq_true, beq_iff_eq] at h
    have := okIdx_get r (k + 1) j q h.2 (by simpa using hq)
    omega

theorem st_buildSlice {t e : TypeId} {T : Ty} {m : Nat} {us : Array (Nat × Operand)} {ys : List Od} (hC : Conc P B G0 W0 n env a.tmps w ob) (hK : KOk P B G0 W0 n a K r next) (hd : ∀ k, o.dst = some k → k < n) (hdst : i.dst = o.dst)
    (ho : o.op = .buildSlice t m us) (hi : i.op = .buildSlice e T ys) (hu : P.underlying t = some (.slice e)) (hT : TyR P e T) (hz : ZeroOk P e T) (hm : us.size = m) (hidx : okIdx us.toList 0 = true) (hok : okOds (us.toList.map (·.2)) ys = true)
    (hlim : m * cellsN T ≤ 2 ^ 24) (hm24 : m ≤ 2 ^ 24) (h : step cl i env K = some r) : o.wp P a w next Q := by
  unfold step at h; rw [hi] at h; simp only [hdst, Option.bind_eq_some_iff] at h
  obtain ⟨⟨env', xs⟩, hx, h⟩ := h
  obtain ⟨ob', vss, hf, hC', hE, hl, hcs, hxl⟩ := buildL_sound hC hok hx
  obtain ⟨it, z, zs, h1, h2, h3, h4⟩ := hz.ok
  have hml : xs.length = m := by rw [hxl, List.length_map, Array.length_toList, hm]
  have hfl : vss.flatten.length = m * cellsN T := by rw [Elems.length (fun x v b hx => Flat.len P T hx) hE, hml]
  have hfill : ∀ cells : Array Value, cells.size = m * cellsN T → Instr.fill (fun i => some (i * cellsN T, cellsN T)) cells (us.map fun x => (x.1, a.eval x.2)).toList = some vss.flatten.toArray := by
    intro cells hsz
    have := fill_row (cellsN T) (us.map fun x => (x.1, a.eval x.2)).toList 0 [] vss cells (by simp [hl]) (fun j q hq => ?_) ⟨cells.toList, by simp, by simp [hm, hsz]⟩ (by simp)
    · simpa using this
    · simp only [Array.toList_map, List.getElem?_map, Option.map_eq_some_iff] at hq
      obtain ⟨p, hp, rfl⟩ := hq
      obtain ⟨vs, k1, k2, k3⟩ := hcs j p.2 (by simp only [List.getElem?_map, hp]; rfl)
      exact ⟨okIdx_get _ _ _ _ hidx hp, vs, k1, k2, k3⟩
  refine wp_value (v := .slice (some ⟨w.heap.size, 0, none⟩) m m) (w' := w.alloc (.cells vss.flatten.toArray e)) ?_ ?_
  · have hlim' : ¬ (2 ^ 24 < m * cellsN T) := by omega
    simp only [execOp, ho, Instr.buildSlice, Sem.run_bind, run_underlying hu, Result.andThen_ok, run_sizeT hT, gt_iff_lt, hlim', if_false]
    by_cases hmz : m * cellsN T = 0
    · rw [if_pos hmz]
      simp only [Sem.run_bind, Sem.run_pure, Result.andThen_ok]
      rw [hfill _ (by simp)]
      simp [newRow]
    · rw [if_neg hmz]
      simp only [Sem.run_bind, zeroValue, typeInfo, run_program, h1, h2, Sem.run_pure, Result.andThen_ok]
      rw [hfill _ (by simp)]
      simp [newRow]
  · rw [← hml]
    refine own_new hC' hK hd hE (by rw [hml, ← hfl]; exact List.take_length) (by simp only [List.size_toArray]; rw [hfl, hml]) (Nat.le_refl _) ?_ h
    rw [hml]; unfold maxLen; omega

end
end Go.Fw
