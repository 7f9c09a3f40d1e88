/- Laws: lists of sectors opened, with the bound on their bytes. -/
import Derived.Test.YthephcghglldaaaLp
import Derived.Test.YthephcghglldaaaS19
import Derived.SizedLaws
set_option linter.unusedVariables false
set_option linter.unusedSimpArgs false
namespace Go.Proofs.Ythephcghglldaaa.Sx
open Go.ChangeShapes Go.WideShapes Go.ChangeAt Go.RowKit
section
variable {H : Type} {enc : TypeId × Value → H} {P : Program}
/-- The length of a slice of bytes that was read is no more than its weight. -/
theorem trod_bytes_w {w : World} {hd : Bool} {fuel : Nat} {t e : TypeId} {v : Value} {x : DataW H × List MemPlace} {B : Nat} (ht : P.underlying t = some (.slice e)) (he : P.underlying e = some (.int .u8)) (hc : P.cellsOf e = 1) (hb : P.bytesOf e = 1)
    (h : DataW.trod enc P w 0 (fun _ => true) hd fuel t [v] = some x) (hw : (DataW.weights P t x.1).all (· ≤ B) = true) : ∃ r : Bs, v = r.v ∧ r.ch.ok w ∧ r.s.length ≤ B := by
  obtain ⟨r, hr, hok⟩ := trod_bytes ht he hc h
  refine ⟨r, hr, hok, ?_⟩
  rcases Deep.open_slice1 ht hc h with ⟨h1, _⟩ | ⟨a, len, cap, m, n, V, D, Pl, h1, _, hl, hm, hmm, hx, _⟩
  · rw [hr] at h1
    simp only [List.cons.injEq, Bs.v, Value.slice.injEq, and_true] at h1
    omega
  · rw [hr] at h1
    simp only [List.cons.injEq, Bs.v, Value.slice.injEq, and_true] at h1
    subst hx
    simp only [DataW.weights, ht, List.all_cons, Bool.and_eq_true, decide_eq_true_eq, List.length_map, List.length_range, hb, Nat.mul_one] at hw
    simp only [if_true] at hmm
    omega
theorem weights_at {B : Nat} : ∀ {ts : List TypeId} {ds : List (DataW H)}, (DataW.weightsEach P ts ds).all (· ≤ B) = true → ∀ (j : Nat) (t : TypeId) (d : DataW H), ts[j]? = some t → ds[j]? = some d → (DataW.weights P t d).all (· ≤ B) = true := by
  intro ts
  induction ts with
  | nil => intro ds _ j t d ht; cases ht
  | cons t0 ts ih =>
    intro ds h j t d ht hd
    cases ds with
    | nil => cases hd
    | cons d0 ds =>
      simp only [DataW.weightsEach, List.all_append, Bool.and_eq_true] at h
      cases j with
      | zero =>
        simp only [List.getElem?_cons_zero, Option.some.injEq] at ht hd
        subst ht; subst hd
        exact h.1
      | succ j => exact ih h.2 j t d (by simpa using ht) (by simpa using hd)
/-- One cell of a struct's cells. -/
theorem struct_at1 {w : World} {base : Nat} {sp : Nat → Bool} {hd : Bool} {n t o i : Nat} {fs : Array Field} {cs : List Value} {xs : List (DataW H × List MemPlace)} {v : Value} {f : Field} (hg : ∀ (i : Nat) (f : Field), fs[i]? = some f → DataW.trod enc P w base sp hd n f.type ((cs.drop f.offset).take (P.cellsOf f.type)) = xs[i]?) (hl : xs.length = fs.size)
    (hf : fs[i]? = some f) (ht : f.type = t) (hc : P.cellsOf t = 1) (ho : f.offset = o) (hv : cs[o]? = some v) : ∃ x, DataW.trod enc P w base sp hd n t [v] = some x ∧ xs[i]? = some x := by
  have hi : i < xs.length := by rw [hl]; exact (Array.getElem?_eq_some_iff.1 hf).1
  have h := (hg i f hf).trans (List.getElem?_eq_getElem hi)
  obtain ⟨x, hx⟩ := trod_at1 ⟨_, h⟩ ht hc ho hv
  refine ⟨xs[i], ?_, List.getElem?_eq_getElem hi⟩
  subst ht
  subst ho
  rw [hc] at h
  have hlt := (List.getElem?_eq_some_iff.1 hv).1
  have e : (cs.drop f.offset).take 1 = [v] := by
    rw [List.drop_eq_getElem_cons hlt, List.take_succ_cons, List.take_zero, (List.getElem?_eq_some_iff.1 hv).2]
  rwa [e] at h
set_option maxRecDepth 100000 in
/-- A part of the reference among the cells. -/
theorem trod_part {w : World} {hd : Bool} {n : Nat} {cs : List Value} {x : DataW H × List MemPlace} (h : DataW.trod enc Try.prog w 0 (fun _ => true) hd n 24 cs = some x) :
    ∃ (k g n i c : Int) (r : Bs), cs = pcells k g n i c r.v ∧ r.ch.ok w := by
  obtain ⟨xs, m, _, _, hl, hlen, hg⟩ := DataW.trod_struct Try.underlying24 h
  have e3 : Try.prog.cellsOf 3 = 1 := by kernel_rfl
  have e22 : Try.prog.cellsOf 22 = 1 := by kernel_rfl
  rw [show Try.prog.cellsOf 24 = 6 by kernel_rfl] at hl
  match cs, hl with
  | [v0, v1, v2, v3, v4, v5], _ =>
    obtain ⟨_, h0, _⟩ := struct_at1 hg hlen (i := 0) rfl rfl e3 rfl rfl
    obtain ⟨_, h1, _⟩ := struct_at1 hg hlen (i := 1) rfl rfl e3 rfl rfl
    obtain ⟨_, h2, _⟩ := struct_at1 hg hlen (i := 2) rfl rfl e3 rfl rfl
    obtain ⟨_, h3, _⟩ := struct_at1 hg hlen (i := 3) rfl rfl e3 rfl rfl
    obtain ⟨_, h4, _⟩ := struct_at1 hg hlen (i := 4) rfl rfl e3 rfl rfl
    obtain ⟨_, h5, _⟩ := struct_at1 hg hlen (i := 5) rfl rfl e22 rfl rfl
    obtain ⟨k, rfl, _⟩ := trod_num Try.underlying3 h0
    obtain ⟨g, rfl, _⟩ := trod_num Try.underlying3 h1
    obtain ⟨n, rfl, _⟩ := trod_num Try.underlying3 h2
    obtain ⟨i, rfl, _⟩ := trod_num Try.underlying3 h3
    obtain ⟨c, rfl, _⟩ := trod_num Try.underlying3 h4
    obtain ⟨r, rfl, hr⟩ := trod_bytes Try.underlying22 Try.underlying5 (by kernel_rfl) h5
    exact ⟨k, g, n, i, c, r, rfl, hr⟩
set_option maxRecDepth 100000 in
/-- A described sector among the cells. -/
theorem trod_sector {w : World} {hd : Bool} {n B : Nat} {cs : List Value} {x : DataW H × List MemPlace} (h : DataW.trod enc Try.prog w 0 (fun _ => true) hd n 40 cs = some x) (hw : (DataW.weights Try.prog 40 x.1).all (· ≤ B) = true) :
    ∃ s : Sc, cs = s.cells ∧ (∀ r ∈ s.rows, r.ch.ok w) ∧ s.y.s.length ≤ B := by
  obtain ⟨xs, m, _, hx, hl, hlen, hg⟩ := DataW.trod_struct Try.underlying40 h
  have e5 : Try.prog.cellsOf 5 = 1 := by kernel_rfl
  have e24 : Try.prog.cellsOf 24 = 6 := by kernel_rfl
  have e22 : Try.prog.cellsOf 22 = 1 := by kernel_rfl
  rw [show Try.prog.cellsOf 40 = 16 by kernel_rfl] at hl
  match cs, hl with
  | [v0, v1, v2, v3, v4, v5, v6, v7, v8, v9, v10, v11, v12, v13, v14, v15], _ =>
    obtain ⟨_, h0, _⟩ := struct_at1 hg hlen (i := 0) rfl rfl e5 rfl rfl
    obtain ⟨_, h3, _⟩ := struct_at1 hg hlen (i := 3) rfl rfl e5 rfl rfl
    obtain ⟨_, h4, _⟩ := struct_at1 hg hlen (i := 4) rfl rfl e5 rfl rfl
    obtain ⟨y5, h5, hx5⟩ := struct_at1 hg hlen (i := 5) rfl rfl e22 rfl rfl
    have g1 := hg 1 _ rfl
    have g2 := hg 2 _ rfl
    rw [show xs[1]? = some (xs[1]'(by rw [hlen]; decide)) from List.getElem?_eq_getElem _] at g1
    rw [show xs[2]? = some (xs[2]'(by rw [hlen]; decide)) from List.getElem?_eq_getElem _] at g2
    obtain ⟨k, g, nn, i, c, p, hp, hpo⟩ := trod_part (cs := [v1, v2, v3, v4, v5, v6]) (by
      have : DataW.trod enc Try.prog w 0 (fun _ => true) hd m 24 (([v0, v1, v2, v3, v4, v5, v6, v7, v8, v9, v10, v11, v12, v13, v14, v15].drop 1).take (Try.prog.cellsOf 24)) = _ := g1
      rw [e24] at this
      exact this)
    obtain ⟨k2, g2', n2, i2, c2, o, ho, hoo⟩ := trod_part (cs := [v7, v8, v9, v10, v11, v12]) (by
      have : DataW.trod enc Try.prog w 0 (fun _ => true) hd m 24 (([v0, v1, v2, v3, v4, v5, v6, v7, v8, v9, v10, v11, v12, v13, v14, v15].drop 7).take (Try.prog.cellsOf 24)) = _ := g2
      rw [e24] at this
      exact this)
    obtain ⟨kd, rfl⟩ := trod_byte Try.underlying5 h0
    obtain ⟨a, rfl⟩ := trod_byte Try.underlying5 h3
    obtain ⟨b, rfl⟩ := trod_byte Try.underlying5 h4
    have hw5 : (DataW.weights Try.prog 22 y5.1).all (· ≤ B) = true := by
      rw [hx] at hw
      simp only [DataW.weights, Try.underlying40] at hw
      exact weights_at hw 5 22 y5.1 rfl (by rw [List.getElem?_map, hx5]; rfl)
    obtain ⟨y, rfl, hy, hyb⟩ := trod_bytes_w Try.underlying22 Try.underlying5 (by kernel_rfl) (by kernel_rfl) h5 hw5
    simp only [pcells, List.cons.injEq, and_true] at hp ho
    obtain ⟨rfl, rfl, rfl, rfl, rfl, rfl⟩ := hp
    obtain ⟨rfl, rfl, rfl, rfl, rfl, rfl⟩ := ho
    refine ⟨⟨kd, a, b, k, g, nn, i, c, k2, g2', n2, i2, c2, p, o, y⟩, rfl, fun r hr => ?_, hyb⟩
    simp only [Sc.rows, List.mem_cons, List.not_mem_nil, or_false] at hr
    rcases hr with rfl | rfl | rfl
    · exact hpo
    · exact hoo
    · exact hy
theorem weightsAll_at {B : Nat} {e : TypeId} : ∀ {ds : List (DataW H)}, (DataW.weightsAll P e ds).all (· ≤ B) = true → ∀ d ∈ ds, (DataW.weights P e d).all (· ≤ B) = true := by
  intro ds
  induction ds with
  | nil => intro _ d hd; cases hd
  | cons d0 ds ih =>
    intro h d hd
    simp only [DataW.weightsAll, List.all_append, Bool.and_eq_true] at h
    rcases List.mem_cons.1 hd with rfl | hd
    · exact h.1
    · exact ih h.2 d hd
theorem slice_cells {w : World} {r : Reach} {b0 t e : Nat} {v : Value} (ht : P.underlying t = some (.slice e)) (hv : Value.okWide P w r b0 t v) : v.cells.toList = [v] := by
  cases v <;> simp [Value.okWide, Cell.okWide, Cell.ok, ht] at hv <;> rfl
set_option maxRecDepth 100000 in
/-- A list of described sectors. -/
theorem sectors_trod {w : World} {B : Nat} {v : Value} {d : DataW H} {p : List MemPlace} (hv : v.cells.toList = [v]) (h : DataW.Trod enc Try.prog w 0 (fun _ => true) true 67 v d p) (hw : (DataW.weights Try.prog 67 d).all (· ≤ B) = true) :
    ∃ (A : Option Addr) (M c : Nat) (l : List Sc), v = .slice A M c ∧ l.length = M ∧ (rd (.slice A M c) 16 M (l.flatMap Sc.cells)).ok w ∧ (rowsC false (l.flatMap Sc.rows)).ok w ∧ ∀ s ∈ l, s.y.s.length ≤ B := by
  obtain ⟨fuel, hf⟩ := h
  rw [hv] at hf
  have e40 : Try.prog.cellsOf 40 = 16 := by kernel_rfl
  rcases Deep.open_slice Try.underlying67 hf with ⟨h1, _⟩ | ⟨a, len, cap, m, n, D, Pl, h1, _, hl, hm, hmm, hx, hV⟩
  · simp only [List.cons.injEq, and_true] at h1
    subst h1
    exact ⟨none, 0, 0, [], rfl, rfl, ⟨rfl, by simp [maxLen], none, 0, rfl, Nat.le_refl _, fun hp => absurd hp (by simp)⟩, (by intro x hx; cases hx), (by intro x hx; cases hx)⟩
  · simp only [List.cons.injEq, and_true] at h1
    subst h1
    simp only [if_true] at hmm
    simp only [Prod.mk.injEq] at hx
    rw [hx.1] at hw
    simp only [DataW.weights, Try.underlying67, List.all_cons, List.all_append, Bool.and_eq_true] at hw
    have hB : ∀ i, i < len → ∃ s : Sc, w.cells? 0 (a.add (i * 16)) 16 = some s.cells ∧ (∀ r ∈ s.rows, r.ch.ok w) ∧ s.y.s.length ≤ B := fun i hi => by
      obtain ⟨cs, g1, g2⟩ := hV i (by omega)
      rw [e40] at g1
      obtain ⟨s, rfl, hs1, hs2⟩ := trod_sector g2 (weightsAll_at hw.2.1 (D i) (List.mem_map.2 ⟨i, List.mem_range.2 hi, rfl⟩))
      exact ⟨s, g1, hs1, hs2⟩
    obtain ⟨y, hy⟩ : ∃ y : Nat → Sc, ∀ i, i < len → w.cells? 0 (a.add (i * 16)) 16 = some (y i).cells ∧ (∀ r ∈ (y i).rows, r.ch.ok w) ∧ (y i).y.s.length ≤ B := by
      refine ⟨fun i => if hi : i < len then (hB i hi).choose else ⟨0, 0, 0, 0, 0, 0, 0, 0, 0, 0, 0, 0, 0, ⟨none, 0, []⟩, ⟨none, 0, []⟩, ⟨none, 0, []⟩⟩, fun i hi => ?_⟩
      have := (hB i hi).choose_spec
      simpa [hi] using this
    have hfl := flat_len (f := Sc.cells) (sz := 16) (fun _ => rfl) ((List.range len).map y)
    refine ⟨some a, len, cap, (List.range len).map y, rfl, by simp, ⟨by rw [hfl]; simp, by omega, some a, cap, rfl, hl, fun hp => ?_⟩, fun r hr => ?_, fun s hs => ?_⟩
    · have hp' : 0 < len := by rw [hfl] at hp; simp at hp; omega
      have hc0 := (World.cells?_some (hy 0 hp').1).2.2 0 (by decide)
      have hs0 : (y 0).cells[0]? = some (bv (y 0).kd) := rfl
      rw [hs0] at hc0
      have hs := World.cell?_spot hc0
      obtain ⟨ab, ao, asp⟩ := a
      have hs' : asp = none := by simpa [Addr.add] using hs
      subst hs'
      refine ⟨ab, ao, rfl, fun j u hu => ?_⟩
      have hj : j < len * 16 := by
        have := (List.getElem?_eq_some_iff.1 hu).1
        rw [hfl] at this
        simpa using this
      have hi : j / 16 < len := by omega
      have hfa := flat_at (f := Sc.cells) (sz := 16) (fun _ => rfl) ((List.range len).map y) (j / 16) (y (j / 16)) (by simp [hi])
      have hc := (World.cells?_some (hy (j / 16) hi).1).2.2 (j % 16) (by omega)
      rw [add_at, add_at, ← hfa, List.getElem?_take, if_pos (by omega), List.getElem?_drop] at hc
      have e1 : j / 16 * 16 + j % 16 = j := by omega
      rw [e1, Nat.add_assoc, e1] at hc
      exact hc.trans hu
    · obtain ⟨s, hs, hr⟩ := List.mem_flatMap.1 hr
      obtain ⟨i, hi, rfl⟩ := List.mem_map.1 hs
      exact (hy i (List.mem_range.1 hi)).2.1 r hr
    · obtain ⟨i, hi, rfl⟩ := List.mem_map.1 hs
      exact (hy i (List.mem_range.1 hi)).2.2
set_option maxRecDepth 100000 in
/-- A list of described sectors, as an argument. -/
theorem sectors_open {w : World} {r : Reach} {b0 B : Nat} {v : Value} {d : DataW H} {p : List MemPlace} (hv : Value.okWide Try.prog w r b0 67 v) (h : DataW.Trod enc Try.prog w 0 (fun _ => true) true 67 v d p) (hw : (DataW.weights Try.prog 67 d).all (· ≤ B) = true) :
    ∃ (A : Option Addr) (M c : Nat) (l : List Sc), v = .slice A M c ∧ l.length = M ∧ (rd (.slice A M c) 16 M (l.flatMap Sc.cells)).ok w ∧ (rowsC false (l.flatMap Sc.rows)).ok w ∧ ∀ s ∈ l, s.y.s.length ≤ B := sectors_trod (slice_cells Try.underlying67 hv) h hw
end
end Go.Proofs.Ythephcghglldaaa.Sx
