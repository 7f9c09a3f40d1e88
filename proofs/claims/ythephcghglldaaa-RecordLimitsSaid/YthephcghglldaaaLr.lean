/- Laws: lists of byte slices and runs opened. -/
import Derived.Test.YthephcghglldaaaLq
set_option linter.unusedVariables false
set_option linter.unusedSimpArgs false
namespace Go.Proofs.Ythephcghglldaaa.Sx
open Go.ChangeShapes Go.WideShapes Go.ChangeAt Go.RowKit
/-- Chunks that are only read. -/
structure RO (w : World) (H : List Ch) : Prop where
  ok : ∀ c ∈ H, c.ok w
  ro : ∀ c ∈ H, c.ex = false
theorem RO.nil {w : World} : RO w [] := ⟨fun c h => (by cases h), fun c h => (by cases h)⟩
theorem RO.cons {w : World} {c : Ch} {H : List Ch} (h : c.ok w) (e : c.ex = false) (k : RO w H) : RO w (c :: H) :=
  ⟨fun d hd => by rcases List.mem_cons.1 hd with rfl | hd; exact h; exact k.ok d hd, fun d hd => by rcases List.mem_cons.1 hd with rfl | hd; exact e; exact k.ro d hd⟩
theorem RO.sat {w : World} {H : List Ch} (h : RO w H) : Sat w ([] ++ H) :=
  ⟨h.ok, List.Pairwise.imp_of_mem (R := fun _ _ => True) (fun ha hb _ hm => by rw [h.ro _ ha, h.ro _ hb] at hm; simp at hm) (List.pairwise_of_forall (fun _ _ => trivial))⟩
section
variable {H : Type} {enc : TypeId × Value → H}
/-- A list of byte slices among the cells. -/
theorem trod_rows {P : Program} {w : World} {fuel : Nat} {t b e : TypeId} {v : Value} {x : DataW H × List MemPlace} (ht : P.underlying t = some (.slice b)) (hb : P.underlying b = some (.slice e)) (he : P.underlying e = some (.int .u8)) (hc : P.cellsOf b = 1) (hc1 : P.cellsOf e = 1)
    (h : DataW.trod enc P w 0 (fun _ => true) true fuel t [v] = some x) : ∃ (A : Option Addr) (M c : Nat) (rs : List Bs), v = .slice A M c ∧ rs.length = M ∧ (rd (.slice A M c) 1 M (rs.map Bs.v)).ok w ∧ (rowsC false rs).ok w := by
  rcases Deep.open_slice1 ht hc h with ⟨h1, _⟩ | ⟨a, len, cap, m, n, V, D, Pl, h1, _, hl, hm, hmm, _, hV⟩
  · simp only [List.cons.injEq, and_true] at h1
    subst h1
    exact ⟨none, 0, 0, [], rfl, rfl, ⟨rfl, by simp [maxLen], none, 0, rfl, Nat.le_refl _, fun hp => absurd hp (by simp)⟩, (by intro x hx; cases hx)⟩
  · simp only [List.cons.injEq, and_true] at h1
    subst h1
    simp only [if_true] at hmm
    have hB : ∀ i, i < len → ∃ r : Bs, w.cell? (a.add i) = some r.v ∧ r.ch.ok w := fun i hi => by
      obtain ⟨g1, g2⟩ := hV i (by omega)
      obtain ⟨r, hr, hok⟩ := trod_bytes hb he hc1 g2
      exact ⟨r, hr ▸ g1, hok⟩
    obtain ⟨y, hy⟩ : ∃ y : Nat → Bs, ∀ i, i < len → w.cell? (a.add i) = some (y i).v ∧ (y i).ch.ok w := by
      refine ⟨fun i => if hi : i < len then (hB i hi).choose else ⟨none, 0, []⟩, fun i hi => ?_⟩
      have := (hB i hi).choose_spec
      simpa [hi] using this
    refine ⟨some a, len, cap, (List.range len).map y, rfl, by simp, ⟨by simp, by omega, some a, cap, rfl, by omega, fun hp => ?_⟩, fun r hr => ?_⟩
    · have hp' : 0 < len := by simpa using hp
      have hs := World.cell?_spot (hy 0 hp').1
      obtain ⟨ab, ao, asp⟩ := a
      have hs' : asp = none := by simpa [Addr.add] using hs
      subst hs'
      refine ⟨ab, ao, rfl, fun j u hu => ?_⟩
      have hj : j < len := by
        have := (List.getElem?_eq_some_iff.1 hu).1
        simpa using this
      have := (hy j hj).1
      rw [add_at] at this
      rw [this]
      simpa [hj] using hu
    · obtain ⟨i, hi, rfl⟩ := List.mem_map.1 hr
      exact (hy i (List.mem_range.1 hi)).2
set_option maxRecDepth 100000 in
theorem trod_sectors {w : World} {fuel B : Nat} {v : Value} {x : DataW H × List MemPlace} (h : DataW.trod enc Try.prog w 0 (fun _ => true) true fuel 67 [v] = some x) (hw : (DataW.weights Try.prog 67 x.1).all (· ≤ B) = true) :
    ∃ (A : Option Addr) (M c : Nat) (l : List Sc), v = .slice A M c ∧ l.length = M ∧ (rd (.slice A M c) 16 M (l.flatMap Sc.cells)).ok w ∧ (rowsC false (l.flatMap Sc.rows)).ok w ∧ ∀ s ∈ l, s.y.s.length ≤ B := by
  have hv : v.cells.toList = [v] := by
    rcases Deep.open_slice Try.underlying67 h with ⟨h1, _⟩ | ⟨a, len, cap, m, n, D, Pl, h1, _⟩
    · simp only [List.cons.injEq, and_true] at h1
      subst h1
      rfl
    · simp only [List.cons.injEq, and_true] at h1
      subst h1
      rfl
  have h' : DataW.Trod enc Try.prog w 0 (fun _ => true) true 67 v x.1 x.2 := ⟨fuel, by rw [hv]; exact h⟩
  rcases Deep.open_slice Try.underlying67 h with ⟨h1, _⟩ | ⟨a, len, cap, m, n, D, Pl, h1, _⟩
  · simp only [List.cons.injEq, and_true] at h1
    subst h1
    exact ⟨none, 0, 0, [], rfl, rfl, ⟨rfl, by simp [maxLen], none, 0, rfl, Nat.le_refl _, fun hp => absurd hp (by simp)⟩, (by intro x hx; cases hx), (by intro x hx; cases hx)⟩
  · exact sectors_trod hv h' hw
set_option maxRecDepth 100000 in
theorem rows_open {w : World} {r : Reach} {b0 : Nat} {v : Value} {d : DataW H} {p : List MemPlace} (hv : Value.okWide Try.prog w r b0 52 v) (h : DataW.Trod enc Try.prog w 0 (fun _ => true) true 52 v d p) :
    ∃ (A : Option Addr) (M c : Nat) (rs : List Bs), v = .slice A M c ∧ rs.length = M ∧ (rd (.slice A M c) 1 M (rs.map Bs.v)).ok w ∧ (rowsC false rs).ok w := by
  obtain ⟨fuel, hf⟩ := h
  rw [slice_cells Try.underlying52 hv] at hf
  exact trod_rows Try.underlying52 Try.underlying22 Try.underlying5 (by kernel_rfl) (by kernel_rfl) hf
set_option maxRecDepth 100000 in
/-- A described sector. -/
theorem sector_open {w : World} {r : Reach} {b0 B : Nat} {v : Value} {d : DataW H} {p : List MemPlace} (hv : Value.okWide Try.prog w r b0 40 v) (h : DataW.Trod enc Try.prog w 0 (fun _ => true) true 40 v d p) (hw : (DataW.weights Try.prog 40 d).all (· ≤ B) = true) :
    ∃ s : Sc, v = .agg s.cells.toArray ∧ (rowsC false s.rows).ok w ∧ s.y.s.length ≤ B := by
  obtain ⟨cs, rfl, hsz⟩ := okWide_struct Try.underlying40 hv
  obtain ⟨fuel, hf⟩ := h
  obtain ⟨s, hs, hr, hb⟩ := trod_sector hf hw
  have hs' : cs.toList = s.cells := hs
  exact ⟨s, by rw [← hs'], hr, hb⟩
set_option maxRecDepth 100000 in
/-- A run. -/
theorem run_open {w : World} {r : Reach} {b0 B : Nat} {v : Value} {d : DataW H} {p : List MemPlace} (hv : Value.okWide Try.prog w r b0 75 v) (h : DataW.Trod enc Try.prog w 0 (fun _ => true) true 75 v d p) (hw : (DataW.weights Try.prog 75 d).all (· ≤ B) = true) :
    ∃ (g n : Int) (AP AO AL : Option Addr) (MP cP MO cO ML cL : Nat) (ps : List Bs) (l : List Sc) (pl : List UInt8) (cut : UInt8), v = .agg #[.int .i64 g, .int .i64 n, .slice AP MP cP, .slice AO MO cO, .slice AL ML cL, bv cut] ∧ ps.length = MP ∧ l.length = MO ∧ pl.length = ML ∧
      (rd (.slice AP MP cP) 1 MP (ps.map Bs.v)).ok w ∧ (rowsC false ps).ok w ∧ (rd (.slice AO MO cO) 16 MO (l.flatMap Sc.cells)).ok w ∧ (rowsC false (l.flatMap Sc.rows)).ok w ∧ (rd (.slice AL ML cL) 1 ML (bvs pl)).ok w ∧ ∀ s ∈ l, s.y.s.length ≤ B := by
  obtain ⟨cs, rfl, hsz⟩ := okWide_struct Try.underlying75 hv
  obtain ⟨fuel, hf⟩ := h
  obtain ⟨xs, m, _, hx, hl, hlen, hg⟩ := DataW.trod_struct Try.underlying75 hf
  have e3 : Try.prog.cellsOf 3 = 1 := by kernel_rfl
  have e5 : Try.prog.cellsOf 5 = 1 := by kernel_rfl
  have e22 : Try.prog.cellsOf 22 = 1 := by kernel_rfl
  have e52 : Try.prog.cellsOf 52 = 1 := by kernel_rfl
  have e67 : Try.prog.cellsOf 67 = 1 := by kernel_rfl
  rw [show Try.prog.cellsOf 75 = 6 by kernel_rfl] at hsz
  obtain ⟨cs⟩ := cs
  match cs, hsz with
  | [v0, v1, v2, v3, v4, v5], _ =>
    obtain ⟨_, h0, _⟩ := struct_at1 hg hlen (i := 0) rfl rfl e3 rfl rfl
    obtain ⟨_, h1, _⟩ := struct_at1 hg hlen (i := 1) rfl rfl e3 rfl rfl
    obtain ⟨_, h2, _⟩ := struct_at1 hg hlen (i := 2) rfl rfl e52 rfl rfl
    obtain ⟨y3, h3, hx3⟩ := struct_at1 hg hlen (i := 3) rfl rfl e67 rfl rfl
    obtain ⟨_, h4, _⟩ := struct_at1 hg hlen (i := 4) rfl rfl e22 rfl rfl
    obtain ⟨_, h5, _⟩ := struct_at1 hg hlen (i := 5) rfl rfl e5 rfl rfl
    have hw3 : (DataW.weights Try.prog 67 y3.1).all (· ≤ B) = true := by
      simp only [Prod.mk.injEq] at hx
      rw [hx.1] at hw
      simp only [DataW.weights, Try.underlying75] at hw
      exact weights_at hw 3 67 y3.1 rfl (by rw [List.getElem?_map, hx3]; rfl)
    obtain ⟨g, rfl, _⟩ := trod_num Try.underlying3 h0
    obtain ⟨n, rfl, _⟩ := trod_num Try.underlying3 h1
    obtain ⟨AP, MP, cP, ps, rfl, hMP, hp1, hp2⟩ := trod_rows Try.underlying52 Try.underlying22 Try.underlying5 (by kernel_rfl) (by kernel_rfl) h2
    obtain ⟨AO, MO, cO, l, rfl, hMO, ho1, ho2, hob⟩ := trod_sectors h3 hw3
    obtain ⟨y, rfl, hy⟩ := trod_bytes Try.underlying22 Try.underlying5 (by kernel_rfl) h4
    obtain ⟨cut, rfl⟩ := trod_byte Try.underlying5 h5
    exact ⟨g, n, AP, AO, y.A, MP, cP, MO, cO, y.s.length, y.c, ps, l, y.s, cut, rfl, hMP, hMO, rfl, hp1, hp2, ho1, ho2, hy, hob⟩
end
end Go.Proofs.Ythephcghglldaaa.Sx
