import Derived.Test.YtkjlbedebmffgaaMh
import Derived.Test.YtkjlbedebmffgaaMn
/- Plain laws: opening after a failure. -/
set_option linter.unusedVariables false
set_option linter.unusedSimpArgs false
namespace Go.Proofs.Ytkjlbedebmffgaa.Sx
theorem meant_alike {D : Dk} {a : Int} {m : Nat} {g : Int} {S : List Sec} (hm : S.length ≤ m) (h : ∀ (i : Nat) s, i < m → Cand D (a + i) s → S[i]? = some s ∨ ¬ gof s = some g) : Alike g (D.seen a m) (S ++ (D.seen a m).drop S.length) ∧ ∀ s, ((D.seen a m).drop S.length)[0]? = some s → ¬ gof s = some g := by
  refine ⟨⟨by rw [List.length_append, List.length_drop, seen_length]; omega, fun i s hs hg => ?_⟩, fun s hs => ?_⟩
  · have hi := (List.getElem?_eq_some_iff.1 hs).1
    rw [seen_length] at hi
    rw [seen_at hi] at hs
    simp only [Option.some.injEq] at hs
    rcases h i s hi (hs ▸ cand_vis D _) with h1 | h1
    · rw [List.getElem?_append_left (List.getElem?_eq_some_iff.1 h1).1]
      exact h1
    · exact absurd hg h1
  · rw [List.getElem?_drop, Nat.add_zero] at hs
    have hi := (List.getElem?_eq_some_iff.1 hs).1
    rw [seen_length] at hi
    rw [seen_at hi] at hs
    simp only [Option.some.injEq] at hs
    rcases h S.length s hi (hs ▸ cand_vis D _) with h1 | h1
    · have := (List.getElem?_eq_some_iff.1 h1).1
      omega
    · exact h1
/-- What is found after a failure: the entries from the durable ones on, or those of an interrupted Truncate. -/
theorem Weak'.found {k : Nat} {N : Int} {D : Dk} {J : Jn} {es : List Sec} {c0 k0 : Nat} {alt : Ara} (h : Weak' k N D J es c0 k0 alt) (hN : 0 ≤ N ∧ N ≤ 800000) (hd : D.down = false) :
    D.check J.fi k = 0 ∧ ∃ g f es', pkM D J.fi k 2 = some (g, f, es') ∧ (0 ≤ g ∧ g ≤ N + 2) ∧ (0 ≤ f ∧ f ≤ N + 1000) ∧ 1 + needs es' ≤ k / 2 ∧ (∀ p ∈ es', p.length ≤ 100000) ∧
      ((∃ j, k0 ≤ j ∧ j ≤ es.length ∧ f = J.first ∧ es' = es.take j) ∨ ∃ g2, alt = some (g2, f, es')) := by
  have hk := h.geo.k
  have h8 := h.geo.k8
  have hgb := h.geo.gb
  have hfb := h.geo.fb
  have hfit := h.fit
  have hck := h.ck
  have hle := needs_le es
  have hf : Fine J.gen es := fine_pl (by omega) hfit hk h.pl
  have hal := areaC_length J.gen J.first c0 es
  obtain ⟨m1, m2⟩ := meant_alike (D := D) (a := J.base k) (m := k / 2) (g := J.gen) (S := areaC J.gen J.first c0 es) (by omega) h.A
  have hY := seen_split (D := D) (a := J.base k) (m := k / 2) (S := areaC J.gen J.first c0 (es.take k0)) (by
    rw [areaC_length]
    have := needs_append (es.take k0) (es.drop k0)
    rw [List.take_append_drop] at this
    omega) fun i s hs => h.Y i s hs _ (cand_vis D _)
  obtain ⟨j, j1, j2, j3⟩ := areaM_meant_ge (n := J.cur) (g := J.gen) (f := J.first) (c0 := c0) (k0 := k0) (es := es) hf (by omega) h.par m1 m2 hck hY
  refine ⟨check_zero h8 h.geo.fi h.geo.top hd, ?_⟩
  have htk : needs (es.take j) ≤ needs es := by
    have := needs_append (es.take j) (es.drop j)
    rw [List.take_append_drop] at this
    omega
  have hmain : (∀ g' f' es', areaM (1 - J.cur) (D.seen (J.fi + (1 - J.cur) * ((k / 2 : Nat) : Int)) (k / 2)) = some (g', f', es') → g' < J.gen) → ∃ g f es', pkM D J.fi k 2 = some (g, f, es') ∧ (0 ≤ g ∧ g ≤ N + 2) ∧ (0 ≤ f ∧ f ≤ N + 1000) ∧ 1 + needs es' ≤ k / 2 ∧ (∀ p ∈ es', p.length ≤ 100000) ∧
      ((∃ j, k0 ≤ j ∧ j ≤ es.length ∧ f = J.first ∧ es' = es.take j) ∨ ∃ g2, alt = some (g2, f, es')) := fun hlow =>
    ⟨J.gen, J.first, es.take j, pk_pick h.geo.cur j3 hlow, by omega, by omega, by omega, fun p hp => h.pl p (List.mem_of_mem_take hp), .inl ⟨j, j1, j2, rfl, rfl⟩⟩
  have hob : ∀ i : Nat, i < k / 2 → J.fi ≤ J.fi + (1 - J.cur) * ((k / 2 : Nat) : Int) + i ∧ J.fi + (1 - J.cur) * ((k / 2 : Nat) : Int) + i < J.fi + k ∧ ¬ (J.base k ≤ J.fi + (1 - J.cur) * ((k / 2 : Nat) : Int) + i ∧ J.fi + (1 - J.cur) * ((k / 2 : Nat) : Int) + i < J.base k + ((k / 2 : Nat) : Int)) := fun i hi => by
    unfold Jn.base
    rcases h.geo.cur with e | e <;> rw [e] <;> omega
  cases ho : areaM (1 - J.cur) (D.seen (J.fi + (1 - J.cur) * ((k / 2 : Nat) : Int)) (k / 2)) with
  | none => exact hmain fun g' f' es' h1 => by rw [ho] at h1; cases h1
  | some y =>
    obtain ⟨g', f', es'⟩ := y
    have hg0 := (areaM_gen ho).1
    rw [getD_of (seen_at (by omega))] at hg0
    obtain ⟨o1, o2, o3⟩ := hob 0 (by omega)
    rcases h.O _ _ g' o1 o2 o3 (cand_vis D _) hg0 with h1 | ⟨g2, f2, es2, i, ha, hi, hb⟩
    · exact hmain fun g'' f'' es'' h2 => by rw [ho] at h2; cases h2; exact h1
    · obtain ⟨a1, a2, a3, a4, a5, a6⟩ := h.al g2 f2 es2 ha
      have hf2 : Fine g2 es2 := fine_pl (by omega) a5 hk a6
      have hgg : g' = g2 := by
        have := areaC_gof (f := f2) (c0 := es2.length) hf2 _ (List.mem_of_getElem? hi)
        rw [hg0] at this
        exact Option.some.inj this
      have hle2 := needs_le es2
      obtain ⟨n1, n2⟩ := meant_alike (D := D) (a := J.fi + (1 - J.cur) * ((k / 2 : Nat) : Int)) (m := k / 2) (g := g2) (S := areaC g2 f2 es2.length es2) (by rw [areaC_length]; omega) (fun i s hi hs => by
        by_cases hgs : gof s = some g2
        · obtain ⟨p1, p2, p3⟩ := hob i hi
          rcases h.O _ s g2 p1 p2 p3 hs hgs with q1 | ⟨g3, f3, es3, i3, q1, q2, q3⟩
          · omega
          · rw [ha] at q1
            simp only [Option.some.injEq, Prod.mk.injEq] at q1
            obtain ⟨rfl, rfl, rfl⟩ := q1
            left
            rw [show i = i3 by omega]
            exact q2
        · exact .inr hgs)
      rcases areaM_meant (n := 1 - J.cur) (g := g2) (f := f2) (c0 := es2.length) (k0 := 0) (es := es2) hf2 (by omega) a1 n1 n2 (by rw [getD_of (seen_at (by omega)), hg0, hgg]) (by omega) with q | ⟨kk, q1, q2, q3⟩
      · rw [ho] at q; cases q
      · rw [List.take_of_length_le (by omega)] at q3
        have hoc : 1 - J.cur = 0 ∨ 1 - J.cur = 1 := by rcases h.geo.cur with e | e <;> rw [e] <;> decide
        have h11 : 1 - (1 - J.cur) = J.cur := by omega
        refine ⟨g2, f2, es2, pk_pick hoc q3 (fun g'' f'' es'' h2 => ?_), by omega, a4, a5, a6, .inr ⟨g2, ha⟩⟩
        rw [h11] at h2
        have : (J.gen, J.first, es.take j) = (g'', f'', es'') := Option.some.inj (j3.symm.trans h2)
        simp only [Prod.mk.injEq] at this
        omega
end Go.Proofs.Ytkjlbedebmffgaa.Sx

/- Plain laws: restart; opening again after an opening that failed. -/
set_option linter.unusedVariables false
set_option linter.unusedSimpArgs false
namespace Go.Proofs.Ytkjlbedebmffgaa.Sx
theorem Weak'.restart {k : Nat} {N : Int} {D : Dk} {J : Jn} {es : List Sec} {c0 k0 : Nat} {alt : Ara} (h : Weak' k N D J es c0 k0 alt) (cs : List UInt8) : Weak' k N (D.restart cs) J es c0 k0 alt := h.mono rfl fun _ _ => cand_restart
/-- The device's power fails, or is seen to have failed. -/
theorem Weak'.fail {k : Nat} {N : Int} {D : Dk} {J : Jn} {es : List Sec} {c0 k0 : Nat} {alt : Ara} (h : Weak' k N D J es c0 k0 alt) : Weak' k N { D with down := true } J es c0 k0 alt := h.mono rfl fun _ _ h => h
theorem Weak'.limit {k : Nat} {N : Int} {D : Dk} {J : Jn} {es : List Sec} {c0 k0 : Nat} {alt : Ara} (h : Weak' k N D J es c0 k0 alt) (a : Bool) (b : Int) : Weak' k N { D with lim := a, limit := b } J es c0 k0 alt := h.mono rfl fun _ _ h => h
/-- All generations that are seen are bounded. -/
theorem Weak'.seenB {k : Nat} {N : Int} {D : Dk} {J : Jn} {es : List Sec} {c0 k0 : Nat} {alt : Ara} (h : Weak' k N D J es c0 k0 alt) : ∀ a g', J.fi ≤ a → a < J.fi + k → gof (D.vis a).s = some g' → g' ≤ N + 2 := fun a g' h1 h2 h3 => h.B a _ g' h1 h2 (cand_vis D a) h3
/-- What the best area is, and the other one's is less. -/
theorem pk_best {D : Dk} {fi : Int} {k : Nat} {g f : Int} {es : List Sec} (h : pkM D fi k 2 = some (g, f, es)) : (g % 2 = 0 ∨ g % 2 = 1) ∧ areaM (g % 2) (D.seen (fi + g % 2 * ((k / 2 : Nat) : Int)) (k / 2)) = some (g, f, es) ∧
    ∀ g' f' es', areaM (1 - g % 2) (D.seen (fi + (1 - g % 2) * ((k / 2 : Nat) : Int)) (k / 2)) = some (g', f', es') → g' < g := by
  have h2 : g % 2 = 0 ∨ g % 2 = 1 := by omega
  refine ⟨h2, ?_⟩
  have hu : pkM D fi k 2 = pickM (pickM none (arM D fi k 0)) (arM D fi k 1) := rfl
  rw [hu] at h
  have e0 : arM D fi k 0 = areaM 0 (D.seen (fi + 0 * ((k / 2 : Nat) : Int)) (k / 2)) := rfl
  have e1 : arM D fi k 1 = areaM 1 (D.seen (fi + 1 * ((k / 2 : Nat) : Int)) (k / 2)) := rfl
  cases h0 : arM D fi k 0 with
  | none =>
    cases h1 : arM D fi k 1 with
    | none => rw [h0, h1] at h; cases h
    | some y =>
      rw [h0, h1] at h
      have hy : y = (g, f, es) := Option.some.inj h
      subst hy
      have hp := (areaM_gen (e1.symm.trans h1)).2.1
      rw [hp]
      exact ⟨e1.symm.trans h1, fun g' f' es' h3 => by rw [show (1 : Int) - 1 = 0 from rfl, ← e0, h0] at h3; cases h3⟩
  | some x =>
    have hpx := (areaM_gen (es := x.2.2) (f := x.2.1) (γ := x.1) (e0.symm.trans h0)).2.1
    cases h1 : arM D fi k 1 with
    | none =>
      rw [h0, h1] at h
      have hx : x = (g, f, es) := Option.some.inj h
      subst hx
      rw [hpx]
      exact ⟨e0.symm.trans h0, fun g' f' es' h3 => by rw [show (1 : Int) - 0 = 1 from rfl, ← e1, h1] at h3; cases h3⟩
    | some y =>
      have hpy := (areaM_gen (es := y.2.2) (f := y.2.1) (γ := y.1) (e1.symm.trans h1)).2.1
      rw [h0, h1] at h
      simp only [pickM] at h
      split at h
      · rename_i hgt
        have hy : y = (g, f, es) := Option.some.inj h
        subst hy
        rw [hpy]
        refine ⟨e1.symm.trans h1, fun g' f' es' h3 => ?_⟩
        rw [show (1 : Int) - 1 = 0 from rfl, ← e0, h0] at h3
        have := Option.some.inj h3
        subst this
        exact hgt
      · rename_i hgt
        have hx : x = (g, f, es) := Option.some.inj h
        subst hx
        rw [hpx]
        refine ⟨e0.symm.trans h0, fun g' f' es' h3 => ?_⟩
        rw [show (1 : Int) - 0 = 1 from rfl, ← e1, h1] at h3
        have := Option.some.inj h3
        subst this
        simp only [] at hgt hpx hpy ⊢
        omega
/-- An opening fails while it writes the other area: then the same entries are found again. -/
theorem found_again {k : Nat} {D D3 : Dk} {fi g f g3 : Int} {es : List Sec} (h8 : 8 ≤ k) (hk : k ≤ 1000) (hp : D.pend = []) (hpk : pkM D fi k 2 = some (g, f, es)) (hg3 : g3 % 2 = 1 - g % 2) (hg3b : 0 ≤ g3 ∧ g3 ≤ 2000000) (hf : 0 ≤ f ∧ f ≤ 2147483647) (hfit : 1 + needs es ≤ k / 2) (hpl : ∀ p ∈ es, p.length ≤ 100000)
    (hlow : ∀ a g', fi ≤ a → a < fi + k → gof (D.vis a).s = some g' → g' < g3)
    (hc : ∀ b s, Cand D3 b s → Cand D b s ∨ ∃ i : Nat, (areaS g3 f es)[i]? = some s ∧ b = fi + (1 - g % 2) * ((k / 2 : Nat) : Int) + i) :
    pkM D3 fi k 2 = some (g, f, es) ∨ pkM D3 fi k 2 = some (g3, f, es) := by
  obtain ⟨h2, hb, hlt⟩ := pk_best hpk
  have hfine : Fine g3 es := fine_pl (by omega) hfit hk hpl
  have hl3 := areaS_length g3 f es
  have hcd : ∀ b s, Cand D b s → s = (D.vis b).s := fun b s h => by rw [vis_nil hp]; exact cand_nil hp h
  -- the best area is zs it was
  have hsame : D3.seen (fi + g % 2 * ((k / 2 : Nat) : Int)) (k / 2) = D.seen (fi + g % 2 * ((k / 2 : Nat) : Int)) (k / 2) := by
    apply List.ext_getElem?
    intro i
    by_cases hi : i < k / 2
    · rw [seen_at hi, seen_at hi]
      congr 1
      rcases hc _ _ (cand_vis D3 (fi + g % 2 * ((k / 2 : Nat) : Int) + i)) with h | ⟨j, hj, hbj⟩
      · exact hcd _ _ h
      · exfalso
        have := (List.getElem?_eq_some_iff.1 hj).1
        rcases h2 with e | e <;> rw [e] at hbj <;> omega
    · rw [List.getElem?_eq_none (by rw [seen_length]; omega), List.getElem?_eq_none (by rw [seen_length]; omega)]
  have hb3 := hb
  rw [← hsame] at hb3
  have hrange : ∀ i : Nat, i < k / 2 → fi ≤ fi + (1 - g % 2) * ((k / 2 : Nat) : Int) + i ∧ fi + (1 - g % 2) * ((k / 2 : Nat) : Int) + i < fi + k := fun i hi => by
    rcases h2 with e | e <;> rw [e] <;> omega
  -- a sector of the other area
  have hoth : ∀ i : Nat, i < k / 2 → (D3.vis (fi + (1 - g % 2) * ((k / 2 : Nat) : Int) + i)).s = (D.vis (fi + (1 - g % 2) * ((k / 2 : Nat) : Int) + i)).s ∨ (areaS g3 f es)[i]? = some (D3.vis (fi + (1 - g % 2) * ((k / 2 : Nat) : Int) + i)).s := fun i hi => by
    rcases hc _ _ (cand_vis D3 (fi + (1 - g % 2) * ((k / 2 : Nat) : Int) + i)) with h | ⟨j, hj, hbj⟩
    · exact .inl (hcd _ _ h)
    · right
      rw [show i = j by omega] at hj ⊢
      exact hj
  cases ho : areaM (1 - g % 2) (D3.seen (fi + (1 - g % 2) * ((k / 2 : Nat) : Int)) (k / 2)) with
  | none => exact .inl (pk_pick h2 hb3 fun g' f' es' h3 => by rw [ho] at h3; cases h3)
  | some y =>
    obtain ⟨g', f', es'⟩ := y
    have hg0 := (areaM_gen ho).1
    rw [getD_of (seen_at (by omega))] at hg0
    rcases hoth 0 (by omega) with h0 | h0
    · -- the old head: the area was complete before
      left
      refine pk_pick h2 hb3 fun g'' f'' es'' h3 => ?_
      have hgl : g' < g3 := hlow _ g' (hrange 0 (by omega)).1 (hrange 0 (by omega)).2 (by rw [← h0]; exact hg0)
      have hal : Alike g' (D3.seen (fi + (1 - g % 2) * ((k / 2 : Nat) : Int)) (k / 2)) (D.seen (fi + (1 - g % 2) * ((k / 2 : Nat) : Int)) (k / 2)) := by
        refine ⟨by rw [seen_length, seen_length], fun i s hs hgs => ?_⟩
        have hi := (List.getElem?_eq_some_iff.1 hs).1
        rw [seen_length] at hi
        rw [seen_at hi] at hs ⊢
        simp only [Option.some.injEq] at hs
        subst hs
        rcases hoth i hi with h1 | h1
        · rw [h1]
        · have := areaC_gof (f := f) (c0 := es.length) hfine _ (List.mem_of_getElem? h1)
          rw [hgs] at this
          have := Option.some.inj this
          omega
      obtain ⟨es2, h4⟩ := areaM_stale hal ho
      rw [ho] at h3
      have := Option.some.inj h3
      simp only [Prod.mk.injEq] at this
      have h5 := hlt _ _ _ h4
      omega
    · -- the new head
      right
      have hgg : g' = g3 := by
        have := areaC_gof (f := f) (c0 := es.length) hfine _ (List.mem_of_getElem? h0)
        rw [hg0] at this
        exact Option.some.inj this
      obtain ⟨n1, n2⟩ := meant_alike (D := D3) (a := fi + (1 - g % 2) * ((k / 2 : Nat) : Int)) (m := k / 2) (g := g3) (S := areaC g3 f es.length es) (by rw [areaC_length]; omega) (fun i s hi hs => by
        rcases hc _ _ hs with h | ⟨j, hj, hbj⟩
        · right
          intro hgs
          have h1 := hcd _ _ h
          have := hlow _ g3 (hrange i hi).1 (hrange i hi).2 (by rw [← h1]; exact hgs)
          omega
        · left
          rw [show i = j by omega]
          exact hj)
      have hle := needs_le es
      rcases areaM_meant (n := 1 - g % 2) (g := g3) (f := f) (c0 := es.length) (k0 := 0) (es := es) hfine hf hg3 n1 n2 (by rw [getD_of (seen_at (by omega)), hg0, hgg]) (by omega) with q | ⟨kk, q1, q2, q3⟩
      · rw [ho] at q; cases q
      · rw [List.take_of_length_le (by omega)] at q3
        have hoc : 1 - g % 2 = 0 ∨ 1 - g % 2 = 1 := by omega
        refine pk_pick hoc q3 fun g'' f'' es'' h3 => ?_
        rw [show 1 - (1 - g % 2) = g % 2 by omega] at h3
        have := Option.some.inj (hb3.symm.trans h3)
        simp only [Prod.mk.injEq] at this
        -- the best area's head was seen
        have hgb := (areaM_gen hb).1
        rw [getD_of (seen_at (by omega))] at hgb
        have := hlow _ g (by rcases h2 with e | e <;> rw [e] <;> omega) (by rcases h2 with e | e <;> rw [e] <;> omega) hgb
        omega
end Go.Proofs.Ytkjlbedebmffgaa.Sx

/- Plain laws: what was found is opened. -/
set_option linter.unusedVariables false
set_option linter.unusedSimpArgs false
namespace Go.Proofs.Ytkjlbedebmffgaa.Sx
theorem best_open {k : Nat} {N B : Int} {D : Dk} {fi g f : Int} {es : List Sec} (h8 : 8 ≤ k) (hfi : 0 ≤ fi) (htop : fi + k ≤ D.n) (hn : D.n ≤ 1000) (hd : D.down = false) (hB : 0 ≤ B ∧ B ≤ 900000) (hv : ∀ a g', fi ≤ a → a < fi + k → gof (D.vis a).s = some g' → g' ≤ B)
    (hf : 0 ≤ f ∧ f ≤ 900000) (hfit : 1 + needs es ≤ k / 2) (hpl : ∀ p ∈ es, p.length ≤ 100000) (hN : B + 2 ≤ N ∧ f ≤ N) :
    ∃ g3, g3 % 2 = 1 - g % 2 ∧ 0 ≤ g3 ∧ g3 ≤ B + 2 ∧ (∀ a g', fi ≤ a → a < fi + k → gof (D.vis a).s = some g' → g' < g3) ∧ (changeM D (jn0 fi (k : Int) g f) f es).1.n = D.n ∧
      (((changeM D (jn0 fi (k : Int) g f) f es).2.2 = 0 ∧ (changeM D (jn0 fi (k : Int) g f) f es).2.1.first = f ∧ (changeM D (jn0 fi (k : Int) g f) f es).2.1.fi = fi ∧ (changeM D (jn0 fi (k : Int) g f) f es).1.lim = D.lim ∧ (changeM D (jn0 fi (k : Int) g f) f es).1.pend = [] ∧
          Strong k N (changeM D (jn0 fi (k : Int) g f) f es).1 (changeM D (jn0 fi (k : Int) g f) f es).2.1 es es.length es.length) ∨
       ((changeM D (jn0 fi (k : Int) g f) f es).2.2 = 28 ∧ (changeM D (jn0 fi (k : Int) g f) f es).1.down = true ∧ D.lim = true ∧
          ∀ b s, Cand (changeM D (jn0 fi (k : Int) g f) f es).1 b s → Cand D b s ∨ ∃ i : Nat, (areaS g3 f es)[i]? = some s ∧ b = fi + (1 - g % 2) * ((k / 2 : Nat) : Int) + i)) := by
  have hgeo : Geo k 900000 D (jn0 fi (k : Int) g f) := jn0_geo h8 hfi htop hn (by decide) hf
  obtain ⟨g3, g1, g2, g3b, g4, gn, gc⟩ := change_cases (k := k) (N := 900000) (B := B) hgeo hd rfl (by omega) (by omega) hv (f := f) (es := es) (by omega) hfit hpl (N' := N) hN
  refine ⟨g3, g1, g2, g3b, g4, gn, ?_⟩
  rcases gc with ⟨c1, c2, c3, c4, c5, c6, c7, c8, c9⟩ | ⟨c1, c2, c3, c4, c5⟩
  · exact .inl ⟨c1, c3, c5, c6, c7, c8⟩
  · exact .inr ⟨c1, c3, c4, c5⟩
end Go.Proofs.Ytkjlbedebmffgaa.Sx

set_option linter.unusedVariables false
set_option linter.unusedSimpArgs false
namespace Go.Proofs.Ytkjlbedebmffgaa.Sx
open Go.RowKit Go.Proofs.Ytkjlbedebmffgaa.Ty
attribute [local irreducible] blk own rd rx frameC

/-- A journal is opened after a failure. -/
theorem f14_weak (bd bm : Nat) (A : Option Addr) (c : Nat) (D : Dk) (J : Jn) {k : Nat} {N : Int} {es : List Sec} {c0 k0 : Nat} {alt : Ara} (h : Weak' k N D J es c0 k0 alt) (hN : 0 ≤ N ∧ N ≤ 800000) (hp : D.pend = []) (hd : D.down = false) (hl : D.lim = false) (fi : Int) (hfi : J.fi = fi) :
    Spec Try.prog 14 [.pointer (some ⟨bd, 0, none⟩), .int .i64 fi, .int .i64 (k : Int)] [blk bd (dcells D bm A c) 66, mapC bm (dmap D.dur), own (.slice A D.pend.length c) 84 257 D.pend.length (D.pend.flatMap wcs)] [] (R := JP × Nat × (Option Addr × Nat) × List Bs)
      (fun r => r.2.2.2.map Bs.s = r.1.rs.map Bs.s ∧ r.1.D.n = D.n ∧ r.1.D.lim = false ∧ r.1.D.pend = [] ∧ r.1.J.fi = J.fi ∧ Strong k (N + 5000) r.1.D r.1.J (r.1.rs.map Bs.s) r.1.rs.length r.1.rs.length ∧
        ((∃ j, k0 ≤ j ∧ j ≤ es.length ∧ r.1.J.first = J.first ∧ r.1.rs.map Bs.s = es.take j) ∨ ∃ g2, alt = some (g2, r.1.J.first, r.1.rs.map Bs.s)))
      (fun r => .tuple #[.pointer (some ⟨r.2.1, 0, none⟩), .slice r.2.2.1.1 r.2.2.2.length r.2.2.1.2, .int .i64 0])
      (fun r => [blk bd (dcells r.1.D bm r.1.A r.1.c) 66, mapC bm (dmap r.1.D.dur), own (.slice r.1.A r.1.D.pend.length r.1.c) 84 257 r.1.D.pend.length (r.1.D.pend.flatMap wcs), blk r.2.1 (jcells r.1.J bd r.1.Aj r.1.rs.length r.1.cj) 76, own (.slice r.1.Aj r.1.rs.length r.1.cj) 23 1 r.1.rs.length (r.1.rs.map Bs.v), rowsC true r.1.rs, own (.slice r.2.2.1.1 r.2.2.2.length r.2.2.1.2) 49 2 r.2.2.2.length (entC r.1.J.first r.2.2.2), rowsC true r.2.2.2]) := by
  subst hfi
  have hk := h.geo.k
  have hnn := h.geo.n
  obtain ⟨h1, g, f, es', h2, h3, h4, h5, h6, h7⟩ := h.found hN hd
  obtain ⟨g3, g1, g2, g3b, g4, gn, gc⟩ := best_open (k := k) (N := N + 5000) (B := N + 2) (g := g) (f := f) (es := es') h.geo.k8 h.geo.fi h.geo.top hnn hd (by omega) h.seenB (by omega) h5 h6 (by omega)
  rcases gc with ⟨c1, c2, c3, c4, c5, c6⟩ | ⟨c1, c2, c3, c4⟩
  · refine (f14_ok bd bm A c D J.fi k g f es' h1 h2 (by omega) (by omega) (fun p hp => Nat.le_trans (h6 p hp) (by decide)) (by omega) (by rw [hp]; simp only [List.length_nil]; omega) c1).conseq ?_
    rintro ⟨⟨A9, c9⟩, bj, ⟨Ae, ce⟩, rs, ⟨Ax, cx⟩, xs⟩ ⟨hq1, hq2⟩
    dsimp only at hq1 hq2
    have hlen : rs.length = es'.length := by rw [← hq1, List.length_map]
    refine ⟨(⟨(changeM D (jn0 J.fi k g f) f es').1, A9, c9, (changeM D (jn0 J.fi k g f) f es').2.1, Ae, ce, rs⟩, bj, (Ax, cx), xs), ⟨by rw [hq2, hq1], gn, by rw [c4, hl], c5, c3, ?_, ?_⟩, rfl, by rw [show (changeM D (jn0 J.fi k g f) f es').2.1.first = f from c2]; exact weak_refl _⟩
    · show Strong k (N + 5000) _ _ (rs.map Bs.s) rs.length rs.length
      rw [hq1, hlen]
      exact c6
    · show (∃ j, k0 ≤ j ∧ j ≤ es.length ∧ (changeM D (jn0 J.fi k g f) f es').2.1.first = J.first ∧ rs.map Bs.s = es.take j) ∨ ∃ g2, alt = some (g2, (changeM D (jn0 J.fi k g f) f es').2.1.first, rs.map Bs.s)
      rw [c2, hq1]
      exact h7
  · rw [hl] at c3; cases c3
end Go.Proofs.Ytkjlbedebmffgaa.Sx

/- Plain laws: what is told of a journal while it works and when its device fails; opening with a limit, and once more. -/
set_option linter.unusedVariables false
set_option linter.unusedSimpArgs false
namespace Go.Proofs.Ytkjlbedebmffgaa.Sx
/-- A journal whose device may have failed, and what the map tells of its entries. -/
def DurW (k : Nat) (N : Int) (D : Dk) (J : Jn) (f : Int → Option Sec) (first cut : Int) : Prop :=
  ∃ es c0 k0 alt, Weak' k N D J es c0 k0 alt ∧ first = J.first ∧ Told f J.first es ∧ ∀ g2 f2 es2, alt = some (g2, f2, es2) → f2 = cut ∧ Told f f2 es2 ∧ J.synced ≤ f2 + es2.length
/-- A journal at work, or failed. -/
def Dur (k : Nat) (N : Int) (D : Dk) (J : Jn) (rs : List Sec) (f : Int → Option Sec) (first cut : Int) : Prop :=
  (∃ c0 k0, Strong k N D J rs c0 k0 ∧ first = J.first ∧ cut = J.first ∧ Told f J.first rs) ∨ (J.failed = 28 ∧ DurW k N D J f first cut)
theorem Weak'.up {k : Nat} {N N' : Int} {D : Dk} {J : Jn} {es : List Sec} {c0 k0 : Nat} {alt : Ara} (h : Weak' k N D J es c0 k0 alt) (hN : N ≤ N') : Weak' k N' D J es c0 k0 alt :=
  { h with geo := h.geo.mono hN rfl, B := fun a s g' h1 h2 h3 h4 => (by have := h.B a s g' h1 h2 h3 h4; omega), al := fun g2 f2 es2 h1 => (have a := h.al g2 f2 es2 h1; ⟨a.1, a.2.1, (by have := a.2.2.1; omega), (by have := a.2.2.2.1; omega), a.2.2.2.2.1, a.2.2.2.2.2⟩) }
theorem Dur.weak {k : Nat} {N N' : Int} {D : Dk} {J : Jn} {rs : List Sec} {f : Int → Option Sec} {first cut : Int} (h : Dur k N D J rs f first cut) (hN : N ≤ N') : DurW k N' D J f first cut := by
  rcases h with ⟨c0, k0, h1, h2, h3, h4⟩ | ⟨_, es, c0, k0, alt, h1, h2⟩
  · exact ⟨rs, c0, k0, none, h1.weak.up hN, h2, h4, fun _ _ _ h => by cases h⟩
  · exact ⟨es, c0, k0, alt, h1.up hN, h2⟩
theorem Dur.live {k : Nat} {N : Int} {D : Dk} {J : Jn} {rs : List Sec} {f : Int → Option Sec} {first cut : Int} (h : Dur k N D J rs f first cut) (hf : J.failed = 0) : ∃ c0 k0, Strong k N D J rs c0 k0 ∧ first = J.first ∧ cut = J.first ∧ Told f J.first rs := by
  rcases h with h | ⟨h, _⟩
  · exact h
  · omega
/-- What a step gives, with a limit. -/
def StepR (k : Nat) (N : Int) (J J' : Jn) (D' : Dk) (es es' : List Sec) (c0 k0 : Nat) (o : OpR) (e : Int) : Prop :=
  ((∃ c1 k1, Strong k (N + 1000) D' J' es' c1 k1) ∧ Eff k J J' es es' o e) ∨
  (e = 28 ∧ J'.failed = 28 ∧ J'.first = J.first ∧ J'.synced = J.synced ∧ es' = es ∧ ∃ alt, Weak' k N D' J' (if o.k.toNat % 3 = 0 then es ++ [bytesM o.n o.b] else es) c0 k0 alt ∧
    (alt = none ∨ o.k.toNat % 3 = 2 ∧ ∃ g, ∃ m : Nat, m ≤ es.length ∧ (m : Int) = ((o.n % 12 : Nat) : Int) - 2 ∧ alt = some (g, J.first + m, es.drop m)))
def fdel (f : Int → Option Sec) (a : Int) (i : Int) : Option Sec := if i = a then none else f i
theorem fdel_map (f : Int → Option Sec) (a : Int) : (fun x => if x = a then none else (f x).map sv) = fun x => (fdel f a x).map sv := by
  funext x
  unfold fdel
  split <;> rfl
theorem mapC_del {b : Nat} (f : Int → Option Sec) (a : Int) : mapC b (fun x => if x = a then none else (f x).map sv) = mapC b (fun x => (fdel f a x).map sv) := by rw [fdel_map]
/-- An entry that is not the journal's does not matter. -/
theorem Told.del {f : Int → Option Sec} {n : Int} {es : List Sec} (h : Told f n es) (a : Int) (ha : a = n + es.length) : Told (fdel f a) n es := by
  intro j p hp
  have hlt := (List.getElem?_eq_some_iff.1 hp).1
  unfold fdel
  rw [if_neg (by omega)]
  exact h j p hp
theorem Told.put' {f : Int → Option Sec} {n : Int} {es : List Sec} (h : Told f n es) (p : Sec) (a : Int) (ha : a = n + es.length) : Told (fput f a p) n es := by
  intro j q hq
  have hlt := (List.getElem?_eq_some_iff.1 hq).1
  unfold fput
  rw [if_neg (by omega)]
  exact h j q hq
/-- The step is done. -/
theorem StepR.done {k : Nat} {N : Int} {J J' : Jn} {D' : Dk} {es es' : List Sec} {c0 k0 : Nat} {o : OpR} {e : Int} (h : StepR k N J J' D' es es' c0 k0 o e) (he : e = 0) {f f' : Int → Option Sec} (ht : Told f J.first es)
    (hf : o.k.toNat % 3 = 0 ∧ f' = fput f (J.first + es.length) (bytesM o.n o.b) ∨ ¬ o.k.toNat % 3 = 0 ∧ f' = f) : Dur k (N + 1000) D' J' es' f' J'.first J'.first := by
  rcases h with ⟨⟨c1, k1, h1⟩, h2⟩ | ⟨h1, _⟩
  · refine .inl ⟨c1, k1, h1, rfl, rfl, ?_⟩
    rcases hf with ⟨h3, rfl⟩ | ⟨h3, rfl⟩
    · obtain ⟨h4, h5⟩ := h2.app he h3
      rw [h4, h5]
      exact ht.put _
    · obtain ⟨m, _, h4, h5⟩ := h2.rest (fun h => h3 h.2)
      rw [h4, h5]
      exact ht.drop m
  · omega
/-- The step is refused. -/
theorem StepR.refused {k : Nat} {N : Int} {J J' : Jn} {D' : Dk} {es es' : List Sec} {c0 k0 : Nat} {o : OpR} {e : Int} (h : StepR k N J J' D' es es' c0 k0 o e) (he : ¬ e = 0) (hfl : J'.failed = 0) {f f' : Int → Option Sec} (ht : Told f J.first es)
    (hf : o.k.toNat % 3 = 0 ∧ f' = fdel (fput f (J.first + es.length) (bytesM o.n o.b)) (J.first + es.length) ∨ ¬ o.k.toNat % 3 = 0 ∧ f' = f) : Dur k (N + 1000) D' J' es' f' J.first J.first := by
  rcases h with ⟨⟨c1, k1, h1⟩, h2⟩ | ⟨_, h1, _⟩
  · have hkeep : es' = es ∧ J' = J := by
      by_cases h0 : o.k.toNat % 3 = 0
      · rcases h2.a h0 with ⟨h3, _⟩ | ⟨_, h3, h4, _⟩
        · exact absurd h3 he
        · exact ⟨h3, h4⟩
      · by_cases h5 : o.k.toNat % 3 = 1
        · exact absurd (h2.s h5).1 he
        · rcases h2.t (by omega) with ⟨_, h3, h4⟩ | ⟨m, h3, _⟩
          · exact ⟨h3, h4⟩
          · exact absurd h3 he
    obtain ⟨rfl, rfl⟩ := hkeep
    refine .inl ⟨c1, k1, h1, rfl, rfl, ?_⟩
    rcases hf with ⟨h3, rfl⟩ | ⟨h3, rfl⟩
    · exact (ht.put' _ _ rfl).del _ rfl
    · exact ht
  · omega
/-- The power fails during the step. -/
theorem StepR.fails {k : Nat} {N : Int} {J J' : Jn} {D' : Dk} {es es' : List Sec} {c0 k0 : Nat} {o : OpR} {e : Int} (h : StepR k N J J' D' es es' c0 k0 o e) (hfl : ¬ J'.failed = 0) {f f' : Int → Option Sec} {cut : Int} (ht : Told f J.first es) (hs : J.synced ≤ J.first + es.length)
    (hf : o.k.toNat % 3 = 0 ∧ f' = fput f (J.first + es.length) (bytesM o.n o.b) ∨ ¬ o.k.toNat % 3 = 0 ∧ f' = f) (hc : o.k.toNat % 3 = 2 → cut = J.first + ((o.n % 12 : Nat) : Int) - 2) : Dur k (N + 1000) D' J' es' f' J.first cut := by
  rcases h with ⟨⟨c1, k1, h1⟩, h2⟩ | ⟨_, h1, h2, h2s, _, alt, h3, h4⟩
  · exact absurd h1.fl hfl
  · refine .inr ⟨h1, _, c0, k0, alt, h3.up (by omega), h2.symm, ?_, fun g2 f2 es2 ha => ?_⟩
    · rw [h2]
      rcases hf with ⟨h5, rfl⟩ | ⟨h5, rfl⟩
      · rw [if_pos h5]; exact ht.put _
      · rw [if_neg h5]; exact ht
    · rcases h4 with h4 | ⟨h5, g, m, h6, h7, h8⟩
      · rw [h4] at ha; cases ha
      · rw [h8] at ha
        simp only [Option.some.injEq, Prod.mk.injEq] at ha
        obtain ⟨rfl, rfl, rfl⟩ := ha
        rcases hf with ⟨h9, _⟩ | ⟨_, rfl⟩
        · omega
        · refine ⟨by rw [hc h5]; omega, ht.drop m, ?_⟩
          rw [h2s, List.length_drop]
          omega
/-- What is found is told. -/
def Found (f : Int → Option Sec) (first cut synced F : Int) (E : List Sec) : Prop := (F = first ∨ F = cut) ∧ synced ≤ F + E.length ∧ Told f F E
/-- The same is found again, and opened. -/
structure Ready (k : Nat) (D : Dk) (fi g F : Int) (E : List Sec) : Prop where
  check : D.check fi k = 0
  pk : pkM D fi k 2 = some (g, F, E)
  g : 0 ≤ g ∧ g ≤ 1000000
  f : 0 ≤ F ∧ F ≤ 900000
  fit : 1 + needs E ≤ k / 2
  pl : ∀ p ∈ E, p.length ≤ 100000
  k : k ≤ 1000
  n : D.n ≤ 1000
theorem Told.take {f : Int → Option Sec} {n : Int} {es : List Sec} (h : Told f n es) (j : Nat) : Told f n (es.take j) := by
  intro i p hp
  rw [List.getElem?_take] at hp
  split at hp
  · exact h i p hp
  · cases hp
/-- After a failure: what is found, and what becomes of opening it. -/
theorem DurW.found {k : Nat} {N : Int} {D : Dk} {J : Jn} {f : Int → Option Sec} {first cut : Int} (h : DurW k N D J f first cut) (hN : 0 ≤ N ∧ N ≤ 500000) (hd : D.down = false) (hp : D.pend = []) :
    ∃ g F E, Ready k D J.fi g F E ∧ Found f first cut J.synced F E ∧
      (((changeM D (jn0 J.fi (k : Int) g F) F E).2.2 = 0 ∧ (changeM D (jn0 J.fi (k : Int) g F) F E).2.1.first = F) ∨
       ((changeM D (jn0 J.fi (k : Int) g F) F E).2.2 = 28 ∧ (changeM D (jn0 J.fi (k : Int) g F) F E).1.n = D.n ∧ (changeM D (jn0 J.fi (k : Int) g F) F E).1.down = true ∧ ∀ D3 : Dk, D3.n = D.n → D3.down = false → D3.lim = false → D3.pend = [] → (∀ b s, Cand D3 b s → Cand (changeM D (jn0 J.fi (k : Int) g F) F E).1 b s) →
          ∃ g', Ready k D3 J.fi g' F E ∧ (changeM D3 (jn0 J.fi (k : Int) g' F) F E).2.2 = 0 ∧ (changeM D3 (jn0 J.fi (k : Int) g' F) F E).2.1.first = F)) := by
  obtain ⟨es, c0, k0, alt, hw, h2, h3, h4⟩ := h
  have hk := hw.geo.k
  have h8 := hw.geo.k8
  have hn := hw.geo.n
  have hfi := hw.geo.fi
  have htop := hw.geo.top
  have hsy := hw.sy
  have hck := hw.ck
  obtain ⟨p1, g, F, E, p2, p3, p4, p5, p6, p7⟩ := hw.found (by omega) hd
  have hr : Ready k D J.fi g F E := ⟨p1, p2, by omega, by omega, p5, p6, hk, hn⟩
  refine ⟨g, F, E, hr, ?_, ?_⟩
  · rcases p7 with ⟨j, j1, j2, rfl, rfl⟩ | ⟨g2, ha⟩
    · refine ⟨.inl h2.symm, ?_, h3.take j⟩
      rw [List.length_take]
      omega
    · obtain ⟨a1, a2, a3⟩ := h4 g2 F E ha
      exact ⟨.inr a1, a3, a2⟩
  · obtain ⟨g3, q1, q2, q3, q4, q5, q6⟩ := best_open (k := k) (N := 600000) (B := N + 2) (g := g) (f := F) (es := E) h8 hfi htop hn hd (by omega) hw.seenB (by omega) p5 p6 (by omega)
    rcases q6 with ⟨o1, o2, o3, o4, o5, o6⟩ | ⟨o1, o2, o3, o4⟩
    · exact .inl ⟨o1, o2⟩
    · refine .inr ⟨o1, q5, o2, fun D3 d1 d2 d3 d4 d5 => ?_⟩
      have hc : ∀ b s, Cand D3 b s → Cand D b s ∨ ∃ i : Nat, (areaS g3 F E)[i]? = some s ∧ b = J.fi + (1 - g % 2) * ((k / 2 : Nat) : Int) + i := fun b s h => o4 b s (d5 b s h)
      have hfine : Fine g3 E := fine_pl (by omega) p5 hk p6
      have hB : ∀ a g', J.fi ≤ a → a < J.fi + k → gof (D3.vis a).s = some g' → g' ≤ N + 4 := fun a g' h1 h2 h3 => by
        rcases hc a _ (cand_vis D3 a) with h | ⟨i, hi, _⟩
        · have := hw.B a _ g' h1 h2 h h3
          omega
        · have := areaC_gof (f := F) (c0 := E.length) hfine _ (List.mem_of_getElem? hi)
          rw [h3] at this
          have := Option.some.inj this
          omega
      have hch3 : D3.check J.fi k = 0 := check_zero h8 hfi (by rw [d1]; exact htop) d2
      have go : ∀ g', pkM D3 J.fi k 2 = some (g', F, E) → 0 ≤ g' ∧ g' ≤ 1000000 → ∃ g', Ready k D3 J.fi g' F E ∧ (changeM D3 (jn0 J.fi (k : Int) g' F) F E).2.2 = 0 ∧ (changeM D3 (jn0 J.fi (k : Int) g' F) F E).2.1.first = F := fun g' hg hgb => by
        obtain ⟨_, _, _, _, _, _, r6⟩ := best_open (k := k) (N := 700000) (B := N + 4) (g := g') (f := F) (es := E) h8 hfi (by rw [d1]; exact htop) (by rw [d1]; exact hn) d2 (by omega) hB (by omega) p5 p6 (by omega)
        rcases r6 with ⟨s1, s2, _⟩ | ⟨_, _, s3, _⟩
        · exact ⟨g', ⟨hch3, hg, hgb, by omega, p5, p6, hk, by rw [d1]; exact hn⟩, s1, s2⟩
        · rw [d3] at s3; cases s3
      rcases found_again (D3 := D3) h8 hk hp p2 q1 (by omega) (by omega) p5 p6 q4 hc with h | h
      · exact go g h (by omega)
      · exact go g3 h (by omega)
end Go.Proofs.Ytkjlbedebmffgaa.Sx

set_option linter.unusedVariables false
set_option linter.unusedSimpArgs false
namespace Go.Proofs.Ytkjlbedebmffgaa.Sx
open Go.RowKit Go.Proofs.Ytkjlbedebmffgaa.Ty
attribute [local irreducible] blk own rd rx frameC

/-- A step, with a limit. -/
theorem f20_lim (bd bm bj : Nat) (A : Option Addr) (c : Nat) (D : Dk) (J : Jn) (Aj : Option Addr) (cj : Nat) (rs : List Bs) {k : Nat} {N : Int} {es : List Sec} {c0 k0 : Nat} (h : Strong k N D J es c0 k0) (hrs : rs.map Bs.s = es) (hN : 0 ≤ N ∧ N ≤ 900000) (hpd : D.pend.length ≤ 800000) (o : OpR) (ho : o.n < 65536) :
    Spec Try.prog 20 [.pointer (some ⟨bj, 0, none⟩), .agg o.cells.toArray] [blk bd (dcells D bm A c) 66, mapC bm (dmap D.dur), own (.slice A D.pend.length c) 84 257 D.pend.length (D.pend.flatMap wcs), blk bj (jcells J bd Aj rs.length cj) 76, own (.slice Aj rs.length cj) 23 1 rs.length (rs.map Bs.v), rowsC true rs] [] (R := JP × Int)
      (fun r => r.1.D.n = D.n ∧ r.1.D.pend.length ≤ D.pend.length + 500 ∧ r.1.J.fi = J.fi ∧ StepR k N J r.1.J r.1.D es (r.1.rs.map Bs.s) c0 k0 o r.2) (fun r => .int .i64 r.2)
      (fun r => [blk bd (dcells r.1.D bm r.1.A r.1.c) 66, mapC bm (dmap r.1.D.dur), own (.slice r.1.A r.1.D.pend.length r.1.c) 84 257 r.1.D.pend.length (r.1.D.pend.flatMap wcs), blk bj (jcells r.1.J bd r.1.Aj r.1.rs.length r.1.cj) 76, own (.slice r.1.Aj r.1.rs.length r.1.cj) 23 1 r.1.rs.length (r.1.rs.map Bs.v), rowsC true r.1.rs]) := by
  have hj := h.jok hN hpd
  subst hrs
  obtain ⟨a2, a3, a4⟩ := step_cases h hN o
  refine (f20_spec bd bm A c D bj J Aj cj rs o ho hj).conseq ?_
  rintro ⟨⟨A9, c9⟩, ⟨Aj9, cj9⟩, rs9⟩ hq
  dsimp only at hq
  refine ⟨(⟨(stepM D J (rs.map Bs.s) o).1, A9, c9, (stepM D J (rs.map Bs.s) o).2.1, Aj9, cj9, rs9⟩, (stepM D J (rs.map Bs.s) o).2.2.2), ⟨a2, a3, ?_, ?_⟩, rfl, weak_refl _⟩
  · rcases a4 with ⟨b1, b2, b3, ⟨c1, k1, b4, _⟩, b5⟩ | ⟨b1, b2, b3, b4⟩
    · exact b3
    · show (stepM D J (rs.map Bs.s) o).2.1.fi = J.fi
      rw [b1]
  · show StepR k N J (stepM D J (rs.map Bs.s) o).2.1 (stepM D J (rs.map Bs.s) o).1 (rs.map Bs.s) (rs9.map Bs.s) c0 k0 o (stepM D J (rs.map Bs.s) o).2.2.2
    rw [hq]
    rcases a4 with ⟨b1, b2, b3, ⟨c1, k1, b4, _⟩, b5⟩ | ⟨b1, b2, b3, b4⟩
    · exact .inl ⟨⟨c1, k1, b4⟩, b5⟩
    · rw [b1] at b4 ⊢
      exact .inr ⟨rfl, rfl, rfl, rfl, rfl, b4⟩
/-- What was found is opened. -/
theorem f14_lok (bd bm : Nat) (A : Option Addr) (c : Nat) (D : Dk) (fi : Int) (k : Nat) (g f : Int) (es : List Sec) (hr : Ready k D fi g f es) (hp : D.pend = []) (hch : (changeM D (jn0 fi (k : Int) g f) f es).2.2 = 0) (hfr : (changeM D (jn0 fi (k : Int) g f) f es).2.1.first = f) :
    Spec Try.prog 14 [.pointer (some ⟨bd, 0, none⟩), .int .i64 fi, .int .i64 (k : Int)] [blk bd (dcells D bm A c) 66, mapC bm (dmap D.dur), own (.slice A D.pend.length c) 84 257 D.pend.length (D.pend.flatMap wcs)] [] (R := JP × Nat × (Option Addr × Nat) × List Bs)
      (fun r => r.1.rs.map Bs.s = es ∧ r.2.2.2.map Bs.s = es ∧ r.1.J.first = f)
      (fun r => .tuple #[.pointer (some ⟨r.2.1, 0, none⟩), .slice r.2.2.1.1 r.2.2.2.length r.2.2.1.2, .int .i64 0])
      (fun r => [blk bd (dcells r.1.D bm r.1.A r.1.c) 66, mapC bm (dmap r.1.D.dur), own (.slice r.1.A r.1.D.pend.length r.1.c) 84 257 r.1.D.pend.length (r.1.D.pend.flatMap wcs), blk r.2.1 (jcells r.1.J bd r.1.Aj r.1.rs.length r.1.cj) 76, own (.slice r.1.Aj r.1.rs.length r.1.cj) 23 1 r.1.rs.length (r.1.rs.map Bs.v), rowsC true r.1.rs, own (.slice r.2.2.1.1 r.2.2.2.length r.2.2.1.2) 49 2 r.2.2.2.length (entC f r.2.2.2), rowsC true r.2.2.2]) := by
  have h1 := hr.g
  have h2 := hr.f
  have h3 := hr.fit
  have h4 := hr.k
  have h5 := hr.n
  refine (f14_ok bd bm A c D fi k g f es hr.check hr.pk (by omega) (by omega) (fun p hp => Nat.le_trans (hr.pl p hp) (by decide)) (by omega) (by rw [hp]; simp only [List.length_nil]; omega) hch).conseq ?_
  rintro ⟨⟨A9, c9⟩, bj, ⟨Ae, ce⟩, rs, ⟨Ax, cx⟩, xs⟩ ⟨hq1, hq2⟩
  dsimp only at hq1 hq2
  exact ⟨(⟨(changeM D (jn0 fi k g f) f es).1, A9, c9, (changeM D (jn0 fi k g f) f es).2.1, Ae, ce, rs⟩, bj, (Ax, cx), xs), ⟨hq1, hq2, hfr⟩, rfl, weak_refl _⟩
/-- The power fails while what was found is opened. -/
theorem f14_lerr (bd bm : Nat) (A : Option Addr) (c : Nat) (D : Dk) (fi : Int) (k : Nat) (g f : Int) (es : List Sec) (hr : Ready k D fi g f es) (hp : D.pend = []) (hch : (changeM D (jn0 fi (k : Int) g f) f es).2.2 = 28) :
    Spec Try.prog 14 [.pointer (some ⟨bd, 0, none⟩), .int .i64 fi, .int .i64 (k : Int)] [blk bd (dcells D bm A c) 66, mapC bm (dmap D.dur), own (.slice A D.pend.length c) 84 257 D.pend.length (D.pend.flatMap wcs)] [] (R := Dk × Option Addr × Nat)
      (fun q => q.1 = (changeM D (jn0 fi (k : Int) g f) f es).1 ∧ q.1.pend.length ≤ 1000) (fun _ => .tuple #[.pointer none, .slice none 0 0, .int .i64 28])
      (fun q => [blk bd (dcells q.1 bm q.2.1 q.2.2) 66, mapC bm (dmap q.1.dur), own (.slice q.2.1 q.1.pend.length q.2.2) 84 257 q.1.pend.length (q.1.pend.flatMap wcs)]) := by
  have h1 := hr.g
  have h2 := hr.f
  have h3 := hr.fit
  have h4 := hr.k
  have h5 := hr.n
  have h6 := changeM_pend (D := D) (J := jn0 fi (k : Int) g f) (f := f) (es := es)
  rw [hp, List.length_nil] at h6
  refine (f14_err bd bm A c D fi k g f es hr.check hr.pk (by omega) (by omega) (fun p hp => Nat.le_trans (hr.pl p hp) (by decide)) (by omega) (by rw [hp]; simp only [List.length_nil]; omega) (by rw [hch]; decide)).conseq ?_
  rintro ⟨A9, c9⟩ _
  exact ⟨((changeM D (jn0 fi k g f) f es).1, A9, c9), ⟨rfl, by simp only []; omega⟩, by rw [hch], weak_refl _⟩
/-- Restart, and what may be there then. -/
theorem f23_down (bd bm : Nat) (A : Option Addr) (c : Nat) (D : Dk) (hd : D.down = true) (hpd : D.pend.length ≤ 800000) (Ac : Option Addr) (m cc : Nat) (cs : List UInt8) (hm : (fatesM cs).length = m) :
    Spec Try.prog 23 [.pointer (some ⟨bd, 0, none⟩), .slice Ac m cc] [blk bd (dcells D bm A c) 66, mapC bm (dmap D.dur), own (.slice A D.pend.length c) 84 257 D.pend.length (D.pend.flatMap wcs)] [rd (.slice Ac m cc) 1 m (bvs (fatesM cs))] (R := Dk × Option Addr × Nat)
      (fun q => q.1.pend = [] ∧ q.1.down = false ∧ q.1.lim = false ∧ q.1.n = D.n ∧ ∀ b s, Cand q.1 b s → Cand D b s) (fun _ => .int .i64 0) (fun q => [blk bd (dcells q.1 bm q.2.1 q.2.2) 66, mapC bm (dmap q.1.dur), own (.slice q.2.1 q.1.pend.length q.2.2) 84 257 q.1.pend.length (q.1.pend.flatMap wcs)]) := by
  refine (f23_spec bd bm A c D Ac m cc (fatesM cs) hm (fatesM_ok cs) hd (by omega)).conseq ?_
  rintro _ _
  exact ⟨(D.restart (fatesM cs), none, 0), ⟨rfl, rfl, rfl, rfl, fun b s h => cand_restart h⟩, rfl, weak_refl _⟩
theorem DurW.fail {k : Nat} {N : Int} {D : Dk} {J : Jn} {f : Int → Option Sec} {first cut : Int} (h : DurW k N D J f first cut) : DurW k N { D with down := true } J f first cut := by
  obtain ⟨es, c0, k0, alt, h1, h2⟩ := h
  exact ⟨es, c0, k0, alt, h1.fail, h2⟩
theorem DurW.limit {k : Nat} {N : Int} {D : Dk} {J : Jn} {f : Int → Option Sec} {first cut : Int} (h : DurW k N D J f first cut) (a : Bool) (b : Int) : DurW k N { D with lim := a, limit := b } J f first cut := by
  obtain ⟨es, c0, k0, alt, h1, h2⟩ := h
  exact ⟨es, c0, k0, alt, h1.limit a b, h2⟩
theorem DurW.cand {k : Nat} {N : Int} {D D' : Dk} {J : Jn} {f : Int → Option Sec} {first cut : Int} (h : DurW k N D J f first cut) (hn : D'.n = D.n) (hc : ∀ a s, Cand D' a s → Cand D a s) : DurW k N D' J f first cut := by
  obtain ⟨es, c0, k0, alt, h1, h2⟩ := h
  exact ⟨es, c0, k0, alt, h1.mono hn hc, h2⟩
theorem DurW.n {k : Nat} {N : Int} {D : Dk} {J : Jn} {f : Int → Option Sec} {first cut : Int} (h : DurW k N D J f first cut) : D.n ≤ 1000 := by
  obtain ⟨es, c0, k0, alt, h1, h2⟩ := h
  exact h1.geo.n
theorem Dur.up {k : Nat} {N N' : Int} {D : Dk} {J : Jn} {rs : List Sec} {f : Int → Option Sec} {first cut : Int} (h : Dur k N D J rs f first cut) (hN : N ≤ N') : Dur k N' D J rs f first cut := by
  rcases h with ⟨c0, k0, h1, h2⟩ | ⟨h0, es, c0, k0, alt, h1, h2⟩
  · exact .inl ⟨c0, k0, h1.up hN, h2⟩
  · exact .inr ⟨h0, es, c0, k0, alt, h1.up hN, h2⟩
theorem Strong.limit {k : Nat} {N : Int} {D : Dk} {J : Jn} {es : List Sec} {c0 k0 : Nat} (h : Strong k N D J es c0 k0) (a : Bool) (b : Int) : Strong k N { D with lim := a, limit := b } J es c0 k0 := { h with geo := h.geo.mono (Int.le_refl _) rfl }
set_option maxHeartbeats 400000 in
set_option maxRecDepth 10000 in
theorem f15_lim (bd bm : Nat) (A : Option Addr) (c : Nat) (D : Dk) (i : Int) :
    Spec Try.prog 15 [.pointer (some ⟨bd, 0, none⟩), .int .i64 i] [blk bd (dcells D bm A c) 66, mapC bm (dmap D.dur), own (.slice A D.pend.length c) 84 257 D.pend.length (D.pend.flatMap wcs)] [] (R := Dk) (fun q => q = { D with lim := decide (0 ≤ i), limit := max i 0 }) (fun _ => .tuple #[]) (fun q => [blk bd (dcells q bm A c) 66, mapC bm (dmap q.dur), own (.slice A q.pend.length c) 84 257 q.pend.length (q.pend.flatMap wcs)]) := by
  refine Spec.intro Try.func15 Try.ntmps15 rfl (by simp) (by simp) fun w0 => ?_
  refine WC.seq ?_
  refine WC.region ?_
  refine wlv (op_move (lt_ rfl) rfl) rfl ?_
  refine wlv (op_neqnil Try.underlying26 (lt_ rfl) rfl rfl) rfl ?_
  refine WL.nil ?_
  refine WX.regs (L' := [(0, _), (1, _), (5, _)]) ?_
  refine WX.next ?_
  refine WC.condT rfl ?_
  refine WC.region ?_
  refine wlv (op_move (lt_ rfl) rfl) rfl ?_
  refine wlv (op_move (lt_ rfl) rfl) rfl ?_
  refine wlv (op_move (lt_ rfl) rfl) rfl ?_
  refine wlv (op_geq (lt_ rfl) rfl rfl) rfl ?_
  refine wlv (op_move (lt_ rfl) rfl) rfl ?_
  refine wlv (op_max (t := 0) (lt_ rfl) rfl rfl) rfl ?_
  refine wlv (op_nilCheck (lt_ rfl) rfl) rfl ?_
  refine wlv (op_fieldAddr fo66_4 (lt_ rfl) rfl) rfl ?_
  refine wl (op_store sz4 rfl rfl xK xL xO (by first | exact Nat.le_of_ble_eq_true rfl | (simp; omega))) rfl ?_
  change WL _ _ _ _ _ _ _
  refine wlv (op_nilCheck (lt_ rfl) rfl) rfl ?_
  refine wlv (op_fieldAddr fo66_5 (lt_ rfl) rfl) rfl ?_
  refine wl (op_store sz3 rfl rfl xK xL xO (by first | exact Nat.le_of_ble_eq_true rfl | (simp; omega))) rfl ?_
  change WL _ _ _ _ _ _ _
  refine WL.nil ?_
  refine WX.blkEq (b := bd) (dcells { D with lim := decide (0 ≤ i), limit := max i 0 } bm A c) xK (by rfl) ?_
  refine WX.regs (L' := []) ?_
  exact Fin.ret0 xI ({ D with lim := decide (0 ≤ i), limit := max i 0 }) (rfl) Try.results15 rfl  xT (by simp)
set_option maxHeartbeats 400000 in
set_option maxRecDepth 10000 in
theorem f3_spec (s : UInt8) (lm ag : UInt8) (A AC AL : Option Addr) (M c mC cC mL cL : Nat) (l : List OpR) (cs ls : List UInt8) (hM : l.length = M) (hmC : cs.length = mC) (hmL : ls.length = mL) (hln : ∀ o ∈ l, o.n < 65536) :
    Spec Try.prog 3 [bv s, .slice A M c, bv lm, .slice AC mC cC, bv ag, .slice AL mL cL] [] [rd (.slice A M c) 4 M (l.flatMap OpR.cells), rd (.slice AC mC cC) 1 mC (bvs cs), rd (.slice AL mL cL) 1 mL (bvs ls)] (R := Bool) (fun b => b = true) (fun b => .bool b) (fun _ => []) := by
  have hk := sizeM_le s
  refine Spec.intro Try.func3 Try.ntmps3 rfl (by simp) (by simp) fun w0 => ?_
  refine WC.seq ?_
  refine WC.region ?_
  refine wlv (op_assign (lt_ rfl) rfl) rfl ?_
  refine WL.nil ?_
  refine WX.regs (L' := [(0, _), (1, _), (2, _), (3, _), (4, _), (5, _)]) ?_
  refine WX.next ?_
  refine WC.seq ?_
  refine WC.seq ?_
  refine WC.region ?_
  refine wlx (op_call (f9_spec) ca9 (lt_ rfl) rfl) rfl ?_
  rintro _ _
  refine wlv (op_not (lt_ rfl) rfl) rfl ?_
  refine wlv (op_move (lt_ rfl) rfl) rfl ?_
  refine wlgv (op_move (lt_ rfl) rfl) rfl rfl rfl ?_
  refine wlgx (op_call (f10_spec A M c l hM) ca10 (lt_ rfl) rfl) rfl rfl rfl ?_
  rintro f1 hf1
  refine wlgv (op_not (lt_ rfl) rfl) rfl rfl rfl ?_
  refine wlv (op_pickF (lt_ rfl) rfl rfl) rfl ?_
  refine wlv (op_move (lt_ rfl) rfl) rfl ?_
  refine WL.splitb (t := 36) rfl (fun g36 => ?_) (fun g36 => ?_)
  ·
    refine wlg_no rfl rfl rfl rfl rfl (by decide) ?_
    refine wlg_no rfl rfl rfl rfl rfl (by decide) ?_
    refine wlg_no rfl rfl rfl rfl rfl (by decide) ?_
    refine wlv (op_pickT (lt_ rfl) rfl rfl) rfl ?_
    refine wlv (op_move (lt_ rfl) rfl) rfl ?_
    refine wlg_no rfl rfl rfl rfl rfl (by decide) ?_
    refine wlg_no rfl rfl rfl rfl rfl (by decide) ?_
    refine wlg_no rfl rfl rfl rfl rfl (by decide) ?_
    refine wlv (op_pickT (lt_ rfl) rfl rfl) rfl ?_
    refine WL.nil ?_
    refine WX.regs (L' := [(0, _), (1, _), (2, _), (3, _), (4, _), (5, _), (45, _)]) ?_
    refine WX.next ?_
    refine WC.condT rfl ?_
    refine WC.seq ?_
    refine WC.region ?_
    refine wlx (op_call (f9_spec) ca9 (lt_ rfl) rfl) rfl ?_
    rintro _ _
    refine wlv (op_assign (lt_ rfl) rfl) rfl ?_
    refine WL.nil ?_
    refine WX.regs (L' := [(12, _)]) ?_
    refine WX.next ?_
    refine WC.ret ?_
    refine WX.then_ret ?_
    exact Fin.ret1 xI (_) (rfl) Try.results3 (.tmp rfl) xT (by simp)
  ·
    refine wlgv (op_move (lt_ rfl) rfl) rfl rfl rfl ?_
    refine wlgv (op_len Try.underlying23 (lt_ rfl) rfl) rfl rfl rfl ?_
    refine wlgv (op_gtr (lt_ rfl) rfl rfl) rfl rfl rfl ?_
    refine wlv (op_pickF (lt_ rfl) rfl rfl) rfl ?_
    refine wlv (op_move (lt_ rfl) rfl) rfl ?_
    refine WL.split (t := 41) rfl (fun g41 => ?_) (fun g41 => ?_)
    ·
      refine wlg_no rfl rfl rfl rfl rfl (by decide) ?_
      refine wlg_no rfl rfl rfl rfl rfl (by decide) ?_
      refine wlg_no rfl rfl rfl rfl rfl (by decide) ?_
      refine wlv (op_pickT (lt_ rfl) rfl rfl) rfl ?_
      refine WL.nil ?_
      refine WX.regs (L' := [(0, _), (1, _), (2, _), (3, _), (4, _), (5, _), (45, _)]) ?_
      refine WX.next ?_
      refine WC.condT rfl ?_
      refine WC.seq ?_
      refine WC.region ?_
      refine wlx (op_call (f9_spec) ca9 (lt_ rfl) rfl) rfl ?_
      rintro _ _
      refine wlv (op_assign (lt_ rfl) rfl) rfl ?_
      refine WL.nil ?_
      refine WX.regs (L' := [(12, _)]) ?_
      refine WX.next ?_
      refine WC.ret ?_
      refine WX.then_ret ?_
      exact Fin.ret1 xI (_) (rfl) Try.results3 (.tmp rfl) xT (by simp)
    ·
      refine wlgv (op_move (lt_ rfl) rfl) rfl rfl rfl ?_
      refine wlgv (op_len Try.underlying23 (lt_ rfl) rfl) rfl rfl rfl ?_
      refine wlgv (op_gtr (lt_ rfl) rfl rfl) rfl rfl rfl ?_
      refine wlv (op_pickF (lt_ rfl) rfl rfl) rfl ?_
      refine WL.nil ?_
      refine WX.regs (L' := [(0, _), (1, _), (2, _), (3, _), (4, _), (5, _), (45, _)]) ?_
      refine WX.next ?_
      refine WC.cond rfl (fun h1 => ?_) (fun h1 => ?_)
      ·
        refine WC.seq ?_
        refine WC.region ?_
        refine wlx (op_call (f9_spec) ca9 (lt_ rfl) rfl) rfl ?_
        rintro _ _
        refine wlv (op_assign (lt_ rfl) rfl) rfl ?_
        refine WL.nil ?_
        refine WX.regs (L' := [(12, _)]) ?_
        refine WX.next ?_
        refine WC.ret ?_
        refine WX.then_ret ?_
        exact Fin.ret1 xI (_) (rfl) Try.results3 (.tmp rfl) xT (by simp)
      ·
        have hfit1 := hf1.1 (by cases f1 <;> simp_all)
        have hM30 := hfit1.1
        refine WC.skip ?_
        refine WX.next ?_
        refine WC.seq ?_
        refine WC.region ?_
        refine wlx (op_call (f11_spec 48 (by omega)) ca11 (lt_ rfl) rfl) rfl ?_
        rintro ⟨bd, bm⟩ _
        refine wlv (op_move (lt_ rfl) rfl) rfl ?_
        refine wlv (op_extract (lt_ rfl) rfl rfl) rfl ?_
        refine wlv (op_extract (lt_ rfl) rfl rfl) rfl ?_
        refine wlv (op_assign (lt_ rfl) rfl) rfl ?_
        refine wlv (op_assign (lt_ rfl) rfl) rfl ?_
        refine WL.nil ?_
        refine WX.regs (L' := [(0, _), (1, _), (2, _), (3, _), (4, _), (5, _), (13, _), (14, _)]) ?_
        refine WX.next ?_
        refine WC.seq ?_
        refine WC.seq ?_
        refine WC.region ?_
        refine wlv (op_move (lt_ rfl) rfl) rfl ?_
        refine wlv (op_neq (lt_ rfl) rfl rfl) rfl ?_
        refine wlv (op_move (lt_ rfl) rfl) rfl ?_
        refine wlgv (op_move (lt_ rfl) rfl) rfl rfl rfl ?_
        refine wlgv (op_move (lt_ rfl) rfl) rfl rfl rfl ?_
        refine wlgx (op_call (f13_spec s) ca13 (lt_ rfl) rfl) rfl rfl rfl ?_
        rintro _ _
        refine wlgx (op_call (f12_new bd bm none 0 (Dk.new 48) 3 (sizeM s) (by omega) (by omega) (by show (3 : Int) + (sizeM s : Int) ≤ 48; omega) (by decide) rfl rfl (fun a _ _ => gof_zero) (by decide)) ca12 (lt_ rfl) rfl) rfl rfl rfl ?_
        rintro ⟨D1, A1, c1⟩ ⟨hn1, hl1, hp1, ho1, J0, hj1, hj2, hj3, hs1⟩
        refine wlgv (op_neq (lt_ rfl) rfl rfl) rfl rfl rfl ?_
        refine wlv (op_pickF (lt_ rfl) rfl rfl) rfl ?_
        refine WL.nil ?_
        refine WX.regs (L' := [(0, _), (1, _), (2, _), (3, _), (4, _), (5, _), (13, _), (59, _)]) ?_
        refine WX.next ?_
        refine WC.condF rfl ?_
        refine WC.skip ?_
        refine WX.next ?_
        refine WC.seq ?_
        refine WC.region ?_
        refine wlv (op_move (lt_ rfl) rfl) rfl ?_
        refine wlv (op_move (lt_ rfl) rfl) rfl ?_
        refine wlx (op_call (f13_spec s) ca13 (lt_ rfl) rfl) rfl ?_
        rintro _ _
        refine wlx (op_call (f14_live bd bm A1 c1 D1 J0 hs1 (by omega) (by rw [hp1]; decide) hl1 3 hj1) ca14 (lt_ rfl) rfl) rfl ?_
        rintro ⟨⟨D2, A2, c2, J2, Aj2, cj2, rs2⟩, bj, ⟨Ax, cx⟩, xs⟩ ⟨hr2, hx2, hn2, hl2, hp2, hf2, hfi2, hg2, ho2, hs2⟩
        dsimp only at hr2 hx2 hn2 hl2 hp2 hf2 hfi2 hg2 ho2 hs2 ⊢
        refine wlv (op_move (lt_ rfl) rfl) rfl ?_
        refine wlv (op_extract (lt_ rfl) rfl rfl) rfl ?_
        refine wlv (op_extract (lt_ rfl) rfl rfl) rfl ?_
        refine wlv (op_extract (lt_ rfl) rfl rfl) rfl ?_
        refine wlv (op_assign (lt_ rfl) rfl) rfl ?_
        refine wlv (op_assign (lt_ rfl) rfl) rfl ?_
        refine wlv (op_assign (lt_ rfl) rfl) rfl ?_
        refine WL.nil ?_
        refine WX.regs (L' := [(0, _), (1, _), (2, _), (3, _), (4, _), (5, _), (13, _), (14, _), (15, _)]) ?_
        refine WX.next ?_
        refine WC.seq ?_
        refine WC.seq ?_
        refine WC.region ?_
        refine wlv (op_move (lt_ rfl) rfl) rfl ?_
        refine wlv (op_neq (lt_ rfl) rfl rfl) rfl ?_
        refine WL.nil ?_
        refine WX.regs (L' := [(0, _), (1, _), (2, _), (3, _), (4, _), (5, _), (13, _), (15, _), (69, _)]) ?_
        refine WX.next ?_
        refine WC.condF rfl ?_
        refine WC.skip ?_
        refine WX.next ?_
        refine WC.seq ?_
        refine WC.region ?_
        refine wlv (op_move (lt_ rfl) rfl) rfl ?_
        refine wlv (op_move (lt_ rfl) rfl) rfl ?_
        refine wlv (op_conv8i (by kernel_rfl) Try.underlying3 (lt_ rfl) rfl) rfl ?_
        refine wlx (op_call (f15_lim bd bm A2 c2 D2 _) ca15 (lt_ rfl) rfl) rfl ?_
        rintro Dl hDl
        refine WL.nil ?_
        refine WX.regs (L' := [(0, _), (1, _), (3, _), (4, _), (5, _), (13, _), (15, _)]) ?_
        refine WX.next ?_
        refine WC.seq ?_
        refine WC.region ?_
        refine wl1 (op_makeMap (lt_ rfl)) rfl fun b1 => ?_
        refine wlv (op_assign (lt_ rfl) rfl) rfl ?_
        refine WL.nil ?_
        refine WX.chEq (c := mapC b1 (fun _ => none)) (mapC b1 (fun x => ((fun _ => none : Int → Option Sec) x).map sv)) xK rfl ?_
        refine WX.regs (L' := [(0, _), (1, _), (3, _), (4, _), (5, _), (13, _), (15, _), (17, _)]) ?_
        refine WX.next ?_
        refine WC.seq ?_
        refine WC.region ?_
        refine wlv (op_assign (lt_ rfl) rfl) rfl ?_
        refine wlv (op_assign (lt_ rfl) rfl) rfl ?_
        refine WL.nil ?_
        refine WX.regs (L' := [(0, _), (1, _), (3, _), (4, _), (5, _), (13, _), (15, _), (17, _), (18, _), (19, _)]) ?_
        refine WX.next ?_
        refine WC.cut (X := JP × (Nat × Nat × Nat × Nat) × (Int → Option Sec) × Int × Int) (fun q => DurW (sizeM s) 40000 q.1.D q.1.J q.2.2.1 q.2.2.2.1 q.2.2.2.2 ∧ q.1.J.fi = 3 ∧ q.1.D.pend.length ≤ 15000 ∧ mC ≤ 200 ∧ mL ≤ 200) (fun q => [(0, bv s), (3, .slice AC mC cC), (4, bv ag), (5, .slice AL mL cL), (13, .pointer (some ⟨q.2.1.1, 0, none⟩)), (15, .pointer (some ⟨q.2.1.2.2.1, 0, none⟩)), (17, .map (some q.2.1.2.2.2)), (18, .int .i64 q.2.2.2.1), (19, .int .i64 q.2.2.2.2)]) (fun q => [blk q.2.1.1 (dcells q.1.D q.2.1.2.1 q.1.A q.1.c) 66, mapC q.2.1.2.1 (dmap q.1.D.dur), own (.slice q.1.A q.1.D.pend.length q.1.c) 84 257 q.1.D.pend.length (q.1.D.pend.flatMap wcs), blk q.2.1.2.2.1 (jcells q.1.J q.2.1.1 q.1.Aj q.1.rs.length q.1.cj) 76, own (.slice q.1.Aj q.1.rs.length q.1.cj) 23 1 q.1.rs.length (q.1.rs.map Bs.v), rowsC true q.1.rs, mapC q.2.1.2.2.2 (fun x => (q.2.2.1 x).map sv), rd (.slice A M c) 4 M (l.flatMap OpR.cells), rd (.slice AC mC cC) 1 mC (bvs cs), rd (.slice AL mL cL) 1 mL (bvs ls), frameC w0 (MutF [])]) ?_ ?_
        ·
          refine WC.seq ?_
          refine WC.region ?_
          refine wlv (op_assign (lt_ rfl) rfl) rfl ?_
          refine WL.nil ?_
          refine WX.regs (L' := [(0, _), (1, _), (3, _), (4, _), (5, _), (13, _), (15, _), (17, _), (18, _), (19, _), (20, _)]) ?_
          refine WX.next ?_
          refine WC.block ?_
          refine WC.loop (X := JP × Nat × (Int → Option Sec) × Int × Int) (fun q => M - q.2.1) (fun q => Dur (sizeM s) (1010 + 1000 * q.2.1) q.1.D q.1.J (q.1.rs.map Bs.s) q.2.2.1 q.2.2.2.1 q.2.2.2.2 ∧ q.1.J.fi = 3 ∧ q.1.D.pend.length ≤ 500 * q.2.1 ∧ q.2.1 ≤ M) (fun q => [(0, bv s), (1, .slice A M c), (3, .slice AC mC cC), (4, bv ag), (5, .slice AL mL cL), (13, .pointer (some ⟨bd, 0, none⟩)), (15, .pointer (some ⟨bj, 0, none⟩)), (17, .map (some b1)), (18, .int .i64 q.2.2.2.1), (19, .int .i64 q.2.2.2.2), (20, .int .i64 (q.2.1 : Int))]) (fun q => [blk bd (dcells q.1.D bm q.1.A q.1.c) 66, mapC bm (dmap q.1.D.dur), own (.slice q.1.A q.1.D.pend.length q.1.c) 84 257 q.1.D.pend.length (q.1.D.pend.flatMap wcs), blk bj (jcells q.1.J bd q.1.Aj q.1.rs.length q.1.cj) 76, own (.slice q.1.Aj q.1.rs.length q.1.cj) 23 1 q.1.rs.length (q.1.rs.map Bs.v), rowsC true q.1.rs, mapC b1 (fun x => (q.2.2.1 x).map sv), rd (.slice A M c) 4 M (l.flatMap OpR.cells), rd (.slice AC mC cC) 1 mC (bvs cs), rd (.slice AL mL cL) 1 mL (bvs ls), frameC w0 (MutF [])]) ((⟨Dl, A2, c2, J2, Aj2, cj2, rs2⟩, 0, fun _ => none, 0, 0)) (⟨.inl ⟨_, _, by rw [hr2, hDl]; exact (hs2.limit _ _).up (by simp only []; omega), by show (0 : Int) = J2.first; rw [hf2, hj2], by show (0 : Int) = J2.first; rw [hf2, hj2], by rw [hr2]; intro j p h; simp at h⟩, by rw [hfi2, hj1], by rw [hDl]; simp only []; rw [hp2]; exact Nat.zero_le _, Nat.zero_le _⟩) (fun a w hs => hs.sub xY xT) ?_
          rintro ⟨⟨D3, A3, c3, J3, Aj3, cj3, rs3⟩, i, f, fs, ct⟩ ⟨hdu, hfi3, hp3, hi⟩
          try dsimp only at hdu hfi3 hp3 hi ⊢
          refine WC.seq ?_
          refine WC.seq ?_
          refine WC.region ?_
          refine wlv (op_move (lt_ rfl) rfl) rfl ?_
          refine wlv (op_move (lt_ rfl) rfl) rfl ?_
          refine wlv (op_len Try.underlying22 (lt_ rfl) rfl) rfl ?_
          refine wlv (op_lss (lt_ rfl) rfl rfl) rfl ?_
          refine wlv (op_move (lt_ rfl) rfl) rfl ?_
          refine WL.split (t := 79) rfl (fun g79 => ?_) (fun g79 => ?_)
          ·
            refine wlgv (op_move (lt_ rfl) rfl) rfl rfl rfl ?_
            refine wlgx (op_call (f16_spec bj bd J3 Aj3 rs3.length cj3) ca16 (lt_ rfl) rfl) rfl rfl rfl ?_
            rintro _ _
            refine wlgv (op_eql (lt_ rfl) rfl rfl) rfl rfl rfl ?_
            refine wlv (op_pickT (lt_ rfl) rfl rfl) rfl ?_
            refine WL.nil ?_
            refine WX.regs (L' := [(0, _), (1, _), (3, _), (4, _), (5, _), (13, _), (15, _), (17, _), (18, _), (19, _), (20, _), (83, _)]) ?_
            refine WX.next ?_
            refine WC.cond rfl (fun h4 => ?_) (fun h4 => ?_)
            ·
              obtain ⟨c0, k0, hs3, rfl, rfl, ht3⟩ := hdu.live h4
              have hfb3 := hs3.geo.fb
              have hfit3 := hs3.fit
              have hsy3 := hs3.sy
              have hck3 := hs3.ck
              have hle3 := needs_le (rs3.map Bs.s)
              have hlm3 : (rs3.map Bs.s).length = rs3.length := List.length_map ..
              obtain ⟨o, hoo⟩ : ∃ r, l[i]? = some r := ⟨l[i]'(by omega), List.getElem?_eq_getElem _⟩
              have ho := hln o (List.mem_of_getElem? hoo)
              have hk8 := o.k.toNat_lt
              have hx : ∀ j, j = i * 4 → ((l.flatMap OpR.cells).drop j).take 4 = o.cells := fun j hj => by rw [hj]; exact flat_at (f := OpR.cells) (sz := 4) (fun _ => rfl) l i o hoo
              refine WC.skip ?_
              refine WX.next ?_
              refine WC.seq ?_
              refine WC.block ?_
              refine WC.seq ?_
              refine WC.region ?_
              refine wlv (op_move (lt_ rfl) rfl) rfl ?_
              refine wlx (op_call (f17_spec bj bd J3 Aj3 rs3.length cj3 (by omega)) ca17 (lt_ rfl) rfl) rfl ?_
              rintro _ _
              refine wlv (op_assign (lt_ rfl) rfl) rfl ?_
              refine WL.nil ?_
              refine WX.regs (L' := [(0, _), (1, _), (3, _), (4, _), (5, _), (13, _), (15, _), (17, _), (20, _), (21, _)]) ?_
              refine WX.next ?_
              refine WC.seq ?_
              refine WC.region ?_
              refine wlv (op_move (lt_ rfl) rfl) rfl ?_
              refine wlx (op_call (f18_spec bj bd J3 Aj3 rs3.length cj3) ca18 (lt_ rfl) rfl) rfl ?_
              rintro _ _
              refine wlv (op_assign (lt_ rfl) rfl) rfl ?_
              refine WL.nil ?_
              refine WX.regs (L' := [(0, _), (1, _), (3, _), (4, _), (5, _), (13, _), (15, _), (17, _), (18, _), (20, _), (21, _)]) ?_
              refine WX.next ?_
              refine WC.seq ?_
              refine WC.region ?_
              refine wlv (op_move (lt_ rfl) rfl) rfl ?_
              refine wlv (op_assign (lt_ rfl) rfl) rfl ?_
              refine WL.nil ?_
              refine WX.regs (L' := [(0, _), (1, _), (3, _), (4, _), (5, _), (13, _), (15, _), (17, _), (18, _), (19, _), (20, _), (21, _)]) ?_
              refine WX.next ?_
              refine WC.seq ?_
              refine WC.seq ?_
              refine WC.region ?_
              refine wlv (op_move (lt_ rfl) rfl) rfl ?_
              refine wlv (op_move (lt_ rfl) rfl) rfl ?_
              refine wlv (op_index Try.underlying22 sz42 (lt_ rfl) rfl rfl (by omega) (by omega) (by decide) xS) rfl ?_
              refine wlv (op_fieldAddrS fo42_0 (lt_ rfl) rfl xS (by rw [flat_len (f := OpR.cells) (sz := 4) (fun _ => rfl)]; omega)) rfl ?_
              refine wlv (op_loadS fl5 (lt_ rfl) rfl xS ((row_get (k := 0) (hx _ (by omega)) (by decide)).trans rfl)) rfl ?_
              refine wlv (op_rem (k := .u8) (a := (o.k.toNat : Int)) (lt_ rfl) rfl rfl (by omega) (by omega)) rfl ?_
              refine wlv (op_eql (lt_ rfl) rfl rfl) rfl ?_
              refine WL.nil ?_
              refine WX.regs (L' := [(0, _), (1, _), (3, _), (4, _), (5, _), (13, _), (15, _), (17, _), (18, _), (19, _), (20, _), (21, _), (97, _)]) ?_
              refine WX.next ?_
              refine WC.cond rfl (fun h5 => ?_) (fun h5 => ?_)
              ·
                refine WC.drawnH mo 14 ?_
                refine WA.take (i := 0) rfl (by kernel_rfl) (fun _ _ _ h => h) rfl (op_move (lt_ rfl) rfl) xT ?_
                refine WA.take (i := 1) rfl (by kernel_rfl) (fun _ _ _ h => h) rfl (op_move (lt_ rfl) rfl) xT ?_
                refine WA.take (i := 2) rfl (by kernel_rfl) (fun _ _ _ h => h) rfl (op_move (lt_ rfl) rfl) xT ?_
                refine WA.take (i := 3) rfl (by kernel_rfl) (fun _ _ _ h => h) rfl (op_move (lt_ rfl) rfl) xT ?_
                refine WA.take (i := 4) rfl (by kernel_rfl) (fun _ _ _ h => h) rfl (op_index Try.underlying22 sz42 (lt_ rfl) rfl rfl (by omega) (by omega) (by decide) xS) xT ?_
                refine WA.take (i := 5) rfl (by kernel_rfl) (fun _ _ _ h => h) rfl (op_fieldAddrS fo42_1 (lt_ rfl) rfl xS (by rw [flat_len (f := OpR.cells) (sz := 4) (fun _ => rfl)]; omega)) xT ?_
                refine WA.take (i := 6) rfl (by kernel_rfl) (fun _ _ _ h => h) rfl (op_loadS fl40 (lt_ rfl) rfl xS ((row_get (k := 1) (hx _ (by omega)) (by decide)).trans rfl)) xT ?_
                refine WA.take (i := 7) rfl (by kernel_rfl) (fun _ _ _ h => h) rfl (op_move (lt_ rfl) rfl) xT ?_
                refine WA.take (i := 8) rfl (by kernel_rfl) (fun _ _ _ h => h) rfl (op_move (lt_ rfl) rfl) xT ?_
                refine WA.take (i := 9) rfl (by kernel_rfl) (fun _ _ _ h => h) rfl (op_index Try.underlying22 sz42 (lt_ rfl) rfl rfl (by omega) (by omega) (by decide) xS) xT ?_
                refine WA.take (i := 10) rfl (by kernel_rfl) (fun _ _ _ h => h) rfl (op_fieldAddrS fo42_2 (lt_ rfl) rfl xS (by rw [flat_len (f := OpR.cells) (sz := 4) (fun _ => rfl)]; omega)) xT ?_
                refine WA.take (i := 11) rfl (by kernel_rfl) (fun _ _ _ h => h) rfl (op_loadS fl5 (lt_ rfl) rfl xS ((row_get (k := 2) (hx _ (by omega)) (by decide)).trans rfl)) xT ?_
                refine WA.stepx (i := 12) (by kernel_rfl) rfl rfl (op_call (f19_spec o.n ho o.b) ca19 (lt_ rfl) rfl) (fun _ r => xT) ?_
                rintro bc _
                refine WA.stepv (i := 13) (by kernel_rfl) rfl rfl (op_bytesStr (bs := bytesM o.n o.b) Try.underlying23 Try.underlying5 Try.underlying9 (lt_ rfl) rfl (Src.own xM)) (fun _ => xT) ?_
                refine WA.stepo (G := []) (i := 14) (by kernel_rfl) rfl rfl (op_mapUpdate Try.underlying37 Try.underlying3 rfl rfl rfl xK) (fun h => absurd rfl h) ?_
                refine WA.done (by kernel_rfl) ?_
                refine WX.chEq (c := mapC b1 (fun x => if x = J3.first + (rs3.length : Nat) then some (sv (bytesM o.n o.b)) else (f x).map sv)) (mapC b1 (fun x => (fput f (J3.first + (rs3.length : Nat)) (bytesM o.n o.b) x).map sv)) xK (mapC_put ..) ?_
                refine WX.regs (L' := [(0, _), (1, _), (3, _), (4, _), (5, _), (13, _), (15, _), (17, _), (18, _), (19, _), (20, _), (21, _)]) ?_
                refine WX.next ?_
                refine WC.seq ?_
                refine WC.seq ?_
                refine WC.region ?_
                refine wlv (op_move (lt_ rfl) rfl) rfl ?_
                refine wlv (op_move (lt_ rfl) rfl) rfl ?_
                refine wlv (op_index Try.underlying22 sz42 (lt_ rfl) rfl rfl (by omega) (by omega) (by decide) xS) rfl ?_
                refine wlv (op_fieldAddrS fo42_0 (lt_ rfl) rfl xS (by rw [flat_len (f := OpR.cells) (sz := 4) (fun _ => rfl)]; omega)) rfl ?_
                refine wlv (op_loadS fl5 (lt_ rfl) rfl xS ((row_get (k := 0) (hx _ (by omega)) (by decide)).trans rfl)) rfl ?_
                refine wlv (op_rem (k := .u8) (a := (o.k.toNat : Int)) (lt_ rfl) rfl rfl (by omega) (by omega)) rfl ?_
                refine wlv (op_eql (lt_ rfl) rfl rfl) rfl ?_
                refine WL.nil ?_
                refine WX.regs (L' := [(0, _), (1, _), (3, _), (4, _), (5, _), (13, _), (15, _), (17, _), (18, _), (19, _), (20, _), (21, _), (118, _)]) ?_
                refine WX.next ?_
                refine WC.cond rfl (fun h6 => ?_) (fun h6 => ?_)
                ·
                  exfalso; omega
                ·
                  refine WC.skip ?_
                  refine WX.next ?_
                  refine WC.seq ?_
                  refine WC.region ?_
                  refine wlv (op_move (lt_ rfl) rfl) rfl ?_
                  refine wlv (op_move (lt_ rfl) rfl) rfl ?_
                  refine wlv (op_move (lt_ rfl) rfl) rfl ?_
                  refine wlv (op_index Try.underlying22 sz42 (lt_ rfl) rfl rfl (by omega) (by omega) (by decide) xS) rfl ?_
                  refine wlv (op_loadSN ag42 (lt_ rfl) rfl xS (by rw [hx _ (by omega)]; rfl) (by decide)) rfl ?_
                  rw [hx _ (by omega)]
                  refine wlx (op_call (f20_lim bd bm bj A3 c3 D3 J3 Aj3 cj3 rs3 hs3 rfl (by omega) (by omega) o ho) ca20 (lt_ rfl) rfl) rfl ?_
                  rintro ⟨⟨D4, A4, c4, J4, Aj4, cj4, rs4⟩, e⟩ ⟨hn4, hp4, hfi4, hst⟩
                  dsimp only at hn4 hp4 hfi4 hst ⊢
                  refine wlv (op_eql (lt_ rfl) rfl rfl) rfl ?_
                  refine WL.nil ?_
                  refine WX.regs (L' := [(0, _), (1, _), (3, _), (4, _), (5, _), (13, _), (15, _), (17, _), (18, _), (19, _), (20, _), (21, _), (135, _)]) ?_
                  refine WX.next ?_
                  refine WC.cond rfl (fun h7 => ?_) (fun h7 => ?_)
                  ·
                    refine WC.region ?_
                    refine wlv (op_move (lt_ rfl) rfl) rfl ?_
                    refine wlx (op_call (f18_spec bj bd J4 Aj4 rs4.length cj4) ca18 (lt_ rfl) rfl) rfl ?_
                    rintro _ _
                    refine wlv (op_move (lt_ rfl) rfl) rfl ?_
                    refine wlx (op_call (f18_spec bj bd J4 Aj4 rs4.length cj4) ca18 (lt_ rfl) rfl) rfl ?_
                    rintro _ _
                    refine wlv (op_assign (lt_ rfl) rfl) rfl ?_
                    refine wlv (op_assign (lt_ rfl) rfl) rfl ?_
                    refine WL.nil ?_
                    refine WX.regs (L' := [(0, _), (1, _), (3, _), (4, _), (5, _), (13, _), (15, _), (17, _), (18, _), (19, _), (20, _)]) ?_
                    refine WX.in_normal ?_
                    refine WX.next ?_
                    refine WC.region ?_
                    refine wlv (op_move (lt_ rfl) rfl) rfl ?_
                    refine wlv (op_add (lt_ rfl) rfl rfl (by omega)) rfl ?_
                    refine wlv (op_assign (lt_ rfl) rfl) rfl ?_
                    refine WL.nil ?_
                    refine WX.regs (L' := [(0, _), (1, _), (3, _), (4, _), (5, _), (13, _), (15, _), (17, _), (18, _), (19, _), (20, _)]) ?_
                    refine WX.meet ((⟨D4, A4, c4, J4, Aj4, cj4, rs4⟩, i + 1, fput f (J3.first + (rs3.length : Nat)) (bytesM o.n o.b), J4.first, J4.first)) ⟨⟨(hst.done (by omega) ht3 (.inl ⟨by omega, by rw [List.length_map]⟩)).up (by simp only []; omega), by rw [hfi4, hfi3], by simp only []; omega, by simp only []; omega⟩, by simp only []; omega⟩ (fun a w hs => hs.sub xY xT)
                  ·
                    refine WC.seq ?_
                    refine WC.region ?_
                    refine wlv (op_move (lt_ rfl) rfl) rfl ?_
                    refine wlx (op_call (f16_spec bj bd J4 Aj4 rs4.length cj4) ca16 (lt_ rfl) rfl) rfl ?_
                    rintro _ _
                    refine wlv (op_eql (lt_ rfl) rfl rfl) rfl ?_
                    refine WL.nil ?_
                    refine WX.regs (L' := [(0, _), (1, _), (3, _), (4, _), (5, _), (13, _), (15, _), (17, _), (18, _), (19, _), (20, _), (21, _), (142, _)]) ?_
                    refine WX.next ?_
                    refine WC.cond rfl (fun h8 => ?_) (fun h8 => ?_)
                    ·
                      refine WC.seq ?_
                      refine WC.region ?_
                      refine wlv (op_move (lt_ rfl) rfl) rfl ?_
                      refine wlv (op_assign (lt_ rfl) rfl) rfl ?_
                      refine WL.nil ?_
                      refine WX.regs (L' := [(0, _), (1, _), (3, _), (4, _), (5, _), (13, _), (15, _), (17, _), (18, _), (19, _), (20, _), (21, _)]) ?_
                      refine WX.next ?_
                      refine WC.seq ?_
                      refine WC.region ?_
                      refine wlv (op_move (lt_ rfl) rfl) rfl ?_
                      refine wlv (op_move (lt_ rfl) rfl) rfl ?_
                      refine wlv (op_index Try.underlying22 sz42 (lt_ rfl) rfl rfl (by omega) (by omega) (by decide) xS) rfl ?_
                      refine wlv (op_fieldAddrS fo42_0 (lt_ rfl) rfl xS (by rw [flat_len (f := OpR.cells) (sz := 4) (fun _ => rfl)]; omega)) rfl ?_
                      refine wlv (op_loadS fl5 (lt_ rfl) rfl xS ((row_get (k := 0) (hx _ (by omega)) (by decide)).trans rfl)) rfl ?_
                      refine wlv (op_rem (k := .u8) (a := (o.k.toNat : Int)) (lt_ rfl) rfl rfl (by omega) (by omega)) rfl ?_
                      refine wlv (op_eql (lt_ rfl) rfl rfl) rfl ?_
                      refine WL.nil ?_
                      refine WX.regs (L' := [(0, _), (1, _), (3, _), (4, _), (5, _), (13, _), (15, _), (17, _), (18, _), (19, _), (20, _), (21, _), (150, _)]) ?_
                      refine WX.next ?_
                      refine WC.cond rfl (fun h9 => ?_) (fun h9 => ?_)
                      ·
                        refine WC.region ?_
                        refine wlv (op_move (lt_ rfl) rfl) rfl ?_
                        refine wlv (op_move (lt_ rfl) rfl) rfl ?_
                        refine wl (op_delete Try.underlying37 Try.underlying3 rfl rfl rfl xK) rfl ?_
                        change WL _ _ _ _ _ _ _
                        refine WL.nil ?_
                        refine WX.regs (L' := [(0, _), (1, _), (3, _), (4, _), (5, _), (13, _), (15, _), (17, _), (18, _), (19, _), (20, _)]) ?_
                        refine WX.in_normal ?_
                        refine WX.next ?_
                        refine WC.region ?_
                        refine wlv (op_move (lt_ rfl) rfl) rfl ?_
                        refine wlv (op_add (lt_ rfl) rfl rfl (by omega)) rfl ?_
                        refine wlv (op_assign (lt_ rfl) rfl) rfl ?_
                        refine WL.nil ?_
                        refine WX.regs (L' := [(0, _), (1, _), (3, _), (4, _), (5, _), (13, _), (15, _), (17, _), (18, _), (19, _), (20, _)]) ?_
                        refine WX.chEq (c := mapC b1 (fun x => if x = J3.first + (rs3.length : Nat) then none else (fput f (J3.first + (rs3.length : Nat)) (bytesM o.n o.b) x).map sv)) (mapC b1 (fun x => (fdel (fput f (J3.first + (rs3.length : Nat)) (bytesM o.n o.b)) (J3.first + (rs3.length : Nat)) x).map sv)) xK (mapC_del ..) ?_
                        refine WX.meet ((⟨D4, A4, c4, J4, Aj4, cj4, rs4⟩, i + 1, fdel (fput f (J3.first + (rs3.length : Nat)) (bytesM o.n o.b)) (J3.first + (rs3.length : Nat)), J3.first, J3.first)) ⟨⟨(hst.refused (by omega) (by omega) ht3 (.inl ⟨by omega, by rw [List.length_map]⟩)).up (by simp only []; omega), by rw [hfi4, hfi3], by simp only []; omega, by simp only []; omega⟩, by simp only []; omega⟩ (fun a w hs => hs.sub xY xT)
                      ·
                        exfalso; omega
                    ·
                      refine WC.skip ?_
                      refine WX.in_normal ?_
                      refine WX.next ?_
                      refine WC.region ?_
                      refine wlv (op_move (lt_ rfl) rfl) rfl ?_
                      refine wlv (op_add (lt_ rfl) rfl rfl (by omega)) rfl ?_
                      refine wlv (op_assign (lt_ rfl) rfl) rfl ?_
                      refine WL.nil ?_
                      refine WX.regs (L' := [(0, _), (1, _), (3, _), (4, _), (5, _), (13, _), (15, _), (17, _), (18, _), (19, _), (20, _)]) ?_
                      refine WX.meet ((⟨D4, A4, c4, J4, Aj4, cj4, rs4⟩, i + 1, fput f (J3.first + (rs3.length : Nat)) (bytesM o.n o.b), J3.first, J3.first)) ⟨⟨(hst.fails (by omega) ht3 (by omega) (.inl ⟨by omega, by rw [List.length_map]⟩) (fun h2 => by first | rfl | (exfalso; omega))).up (by simp only []; omega), by rw [hfi4, hfi3], by simp only []; omega, by simp only []; omega⟩, by simp only []; omega⟩ (fun a w hs => hs.sub xY xT)
              ·
                refine WC.skip ?_
                refine WX.next ?_
                refine WC.seq ?_
                refine WC.seq ?_
                refine WC.region ?_
                refine wlv (op_move (lt_ rfl) rfl) rfl ?_
                refine wlv (op_move (lt_ rfl) rfl) rfl ?_
                refine wlv (op_index Try.underlying22 sz42 (lt_ rfl) rfl rfl (by omega) (by omega) (by decide) xS) rfl ?_
                refine wlv (op_fieldAddrS fo42_0 (lt_ rfl) rfl xS (by rw [flat_len (f := OpR.cells) (sz := 4) (fun _ => rfl)]; omega)) rfl ?_
                refine wlv (op_loadS fl5 (lt_ rfl) rfl xS ((row_get (k := 0) (hx _ (by omega)) (by decide)).trans rfl)) rfl ?_
                refine wlv (op_rem (k := .u8) (a := (o.k.toNat : Int)) (lt_ rfl) rfl rfl (by omega) (by omega)) rfl ?_
                refine wlv (op_eql (lt_ rfl) rfl rfl) rfl ?_
                refine WL.nil ?_
                refine WX.regs (L' := [(0, _), (1, _), (3, _), (4, _), (5, _), (13, _), (15, _), (17, _), (18, _), (19, _), (20, _), (21, _), (118, _)]) ?_
                refine WX.next ?_
                refine WC.cond rfl (fun h10 => ?_) (fun h10 => ?_)
                ·
                  refine WC.region ?_
                  refine wlv (op_move (lt_ rfl) rfl) rfl ?_
                  refine wlv (op_move (lt_ rfl) rfl) rfl ?_
                  refine wlv (op_move (lt_ rfl) rfl) rfl ?_
                  refine wlv (op_index Try.underlying22 sz42 (lt_ rfl) rfl rfl (by omega) (by omega) (by decide) xS) rfl ?_
                  refine wlv (op_fieldAddrS fo42_1 (lt_ rfl) rfl xS (by rw [flat_len (f := OpR.cells) (sz := 4) (fun _ => rfl)]; omega)) rfl ?_
                  refine wlv (op_loadS fl40 (lt_ rfl) rfl xS ((row_get (k := 1) (hx _ (by omega)) (by decide)).trans rfl)) rfl ?_
                  refine wlv (op_rem (k := .u16) (lt_ rfl) rfl rfl (by omega) (by omega)) rfl ?_
                  refine wlv (op_conv16i (by kernel_rfl) Try.underlying3 (lt_ rfl) rfl (by omega)) rfl ?_
                  rw [show ((o.n : Int)) % 12 = ((o.n % 12 : Nat) : Int) by omega]
                  refine wlv (op_add (lt_ rfl) rfl rfl (by omega)) rfl ?_
                  refine wlv (op_sub (lt_ rfl) rfl rfl (by omega)) rfl ?_
                  refine wlv (op_assign (lt_ rfl) rfl) rfl ?_
                  refine WL.nil ?_
                  refine WX.regs (L' := [(0, _), (1, _), (3, _), (4, _), (5, _), (13, _), (15, _), (17, _), (18, _), (19, _), (20, _), (21, _)]) ?_
                  refine WX.next ?_
                  refine WC.seq ?_
                  refine WC.region ?_
                  refine wlv (op_move (lt_ rfl) rfl) rfl ?_
                  refine wlv (op_move (lt_ rfl) rfl) rfl ?_
                  refine wlv (op_move (lt_ rfl) rfl) rfl ?_
                  refine wlv (op_index Try.underlying22 sz42 (lt_ rfl) rfl rfl (by omega) (by omega) (by decide) xS) rfl ?_
                  refine wlv (op_loadSN ag42 (lt_ rfl) rfl xS (by rw [hx _ (by omega)]; rfl) (by decide)) rfl ?_
                  rw [hx _ (by omega)]
                  refine wlx (op_call (f20_lim bd bm bj A3 c3 D3 J3 Aj3 cj3 rs3 hs3 rfl (by omega) (by omega) o ho) ca20 (lt_ rfl) rfl) rfl ?_
                  rintro ⟨⟨D4, A4, c4, J4, Aj4, cj4, rs4⟩, e⟩ ⟨hn4, hp4, hfi4, hst⟩
                  dsimp only at hn4 hp4 hfi4 hst ⊢
                  refine wlv (op_eql (lt_ rfl) rfl rfl) rfl ?_
                  refine WL.nil ?_
                  refine WX.regs (L' := [(0, _), (1, _), (3, _), (4, _), (5, _), (13, _), (15, _), (17, _), (18, _), (19, _), (20, _), (21, _), (135, _)]) ?_
                  refine WX.next ?_
                  refine WC.cond rfl (fun h11 => ?_) (fun h11 => ?_)
                  ·
                    refine WC.region ?_
                    refine wlv (op_move (lt_ rfl) rfl) rfl ?_
                    refine wlx (op_call (f18_spec bj bd J4 Aj4 rs4.length cj4) ca18 (lt_ rfl) rfl) rfl ?_
                    rintro _ _
                    refine wlv (op_move (lt_ rfl) rfl) rfl ?_
                    refine wlx (op_call (f18_spec bj bd J4 Aj4 rs4.length cj4) ca18 (lt_ rfl) rfl) rfl ?_
                    rintro _ _
                    refine wlv (op_assign (lt_ rfl) rfl) rfl ?_
                    refine wlv (op_assign (lt_ rfl) rfl) rfl ?_
                    refine WL.nil ?_
                    refine WX.regs (L' := [(0, _), (1, _), (3, _), (4, _), (5, _), (13, _), (15, _), (17, _), (18, _), (19, _), (20, _)]) ?_
                    refine WX.in_normal ?_
                    refine WX.next ?_
                    refine WC.region ?_
                    refine wlv (op_move (lt_ rfl) rfl) rfl ?_
                    refine wlv (op_add (lt_ rfl) rfl rfl (by omega)) rfl ?_
                    refine wlv (op_assign (lt_ rfl) rfl) rfl ?_
                    refine WL.nil ?_
                    refine WX.regs (L' := [(0, _), (1, _), (3, _), (4, _), (5, _), (13, _), (15, _), (17, _), (18, _), (19, _), (20, _)]) ?_
                    refine WX.meet ((⟨D4, A4, c4, J4, Aj4, cj4, rs4⟩, i + 1, f, J4.first, J4.first)) ⟨⟨(hst.done (by omega) ht3 (.inr ⟨by omega, rfl⟩)).up (by simp only []; omega), by rw [hfi4, hfi3], by simp only []; omega, by simp only []; omega⟩, by simp only []; omega⟩ (fun a w hs => hs.sub xY xT)
                  ·
                    refine WC.seq ?_
                    refine WC.region ?_
                    refine wlv (op_move (lt_ rfl) rfl) rfl ?_
                    refine wlx (op_call (f16_spec bj bd J4 Aj4 rs4.length cj4) ca16 (lt_ rfl) rfl) rfl ?_
                    rintro _ _
                    refine wlv (op_eql (lt_ rfl) rfl rfl) rfl ?_
                    refine WL.nil ?_
                    refine WX.regs (L' := [(0, _), (1, _), (3, _), (4, _), (5, _), (13, _), (15, _), (17, _), (18, _), (19, _), (20, _), (21, _), (142, _)]) ?_
                    refine WX.next ?_
                    refine WC.cond rfl (fun h12 => ?_) (fun h12 => ?_)
                    ·
                      refine WC.seq ?_
                      refine WC.region ?_
                      refine wlv (op_move (lt_ rfl) rfl) rfl ?_
                      refine wlv (op_assign (lt_ rfl) rfl) rfl ?_
                      refine WL.nil ?_
                      refine WX.regs (L' := [(0, _), (1, _), (3, _), (4, _), (5, _), (13, _), (15, _), (17, _), (18, _), (19, _), (20, _), (21, _)]) ?_
                      refine WX.next ?_
                      refine WC.seq ?_
                      refine WC.region ?_
                      refine wlv (op_move (lt_ rfl) rfl) rfl ?_
                      refine wlv (op_move (lt_ rfl) rfl) rfl ?_
                      refine wlv (op_index Try.underlying22 sz42 (lt_ rfl) rfl rfl (by omega) (by omega) (by decide) xS) rfl ?_
                      refine wlv (op_fieldAddrS fo42_0 (lt_ rfl) rfl xS (by rw [flat_len (f := OpR.cells) (sz := 4) (fun _ => rfl)]; omega)) rfl ?_
                      refine wlv (op_loadS fl5 (lt_ rfl) rfl xS ((row_get (k := 0) (hx _ (by omega)) (by decide)).trans rfl)) rfl ?_
                      refine wlv (op_rem (k := .u8) (a := (o.k.toNat : Int)) (lt_ rfl) rfl rfl (by omega) (by omega)) rfl ?_
                      refine wlv (op_eql (lt_ rfl) rfl rfl) rfl ?_
                      refine WL.nil ?_
                      refine WX.regs (L' := [(0, _), (1, _), (3, _), (4, _), (5, _), (13, _), (15, _), (17, _), (18, _), (19, _), (20, _), (21, _), (150, _)]) ?_
                      refine WX.next ?_
                      refine WC.cond rfl (fun h13 => ?_) (fun h13 => ?_)
                      ·
                        exfalso; omega
                      ·
                        refine WC.skip ?_
                        refine WX.in_normal ?_
                        refine WX.next ?_
                        refine WC.region ?_
                        refine wlv (op_move (lt_ rfl) rfl) rfl ?_
                        refine wlv (op_add (lt_ rfl) rfl rfl (by omega)) rfl ?_
                        refine wlv (op_assign (lt_ rfl) rfl) rfl ?_
                        refine WL.nil ?_
                        refine WX.regs (L' := [(0, _), (1, _), (3, _), (4, _), (5, _), (13, _), (15, _), (17, _), (18, _), (19, _), (20, _)]) ?_
                        refine WX.meet ((⟨D4, A4, c4, J4, Aj4, cj4, rs4⟩, i + 1, f, J3.first, J3.first)) ⟨⟨(hst.refused (by omega) (by omega) ht3 (.inr ⟨by omega, rfl⟩)).up (by simp only []; omega), by rw [hfi4, hfi3], by simp only []; omega, by simp only []; omega⟩, by simp only []; omega⟩ (fun a w hs => hs.sub xY xT)
                    ·
                      refine WC.skip ?_
                      refine WX.in_normal ?_
                      refine WX.next ?_
                      refine WC.region ?_
                      refine wlv (op_move (lt_ rfl) rfl) rfl ?_
                      refine wlv (op_add (lt_ rfl) rfl rfl (by omega)) rfl ?_
                      refine wlv (op_assign (lt_ rfl) rfl) rfl ?_
                      refine WL.nil ?_
                      refine WX.regs (L' := [(0, _), (1, _), (3, _), (4, _), (5, _), (13, _), (15, _), (17, _), (18, _), (19, _), (20, _)]) ?_
                      refine WX.meet ((⟨D4, A4, c4, J4, Aj4, cj4, rs4⟩, i + 1, f, J3.first, J3.first + ((o.n % 12 : Nat) : Int) - 2)) ⟨⟨(hst.fails (by omega) ht3 (by omega) (.inr ⟨by omega, rfl⟩) (fun h2 => by first | rfl | (exfalso; omega))).up (by simp only []; omega), by rw [hfi4, hfi3], by simp only []; omega, by simp only []; omega⟩, by simp only []; omega⟩ (fun a w hs => hs.sub xY xT)
                ·
                  refine WC.skip ?_
                  refine WX.next ?_
                  refine WC.seq ?_
                  refine WC.region ?_
                  refine wlv (op_move (lt_ rfl) rfl) rfl ?_
                  refine wlv (op_move (lt_ rfl) rfl) rfl ?_
                  refine wlv (op_move (lt_ rfl) rfl) rfl ?_
                  refine wlv (op_index Try.underlying22 sz42 (lt_ rfl) rfl rfl (by omega) (by omega) (by decide) xS) rfl ?_
                  refine wlv (op_loadSN ag42 (lt_ rfl) rfl xS (by rw [hx _ (by omega)]; rfl) (by decide)) rfl ?_
                  rw [hx _ (by omega)]
                  refine wlx (op_call (f20_lim bd bm bj A3 c3 D3 J3 Aj3 cj3 rs3 hs3 rfl (by omega) (by omega) o ho) ca20 (lt_ rfl) rfl) rfl ?_
                  rintro ⟨⟨D4, A4, c4, J4, Aj4, cj4, rs4⟩, e⟩ ⟨hn4, hp4, hfi4, hst⟩
                  dsimp only at hn4 hp4 hfi4 hst ⊢
                  refine wlv (op_eql (lt_ rfl) rfl rfl) rfl ?_
                  refine WL.nil ?_
                  refine WX.regs (L' := [(0, _), (1, _), (3, _), (4, _), (5, _), (13, _), (15, _), (17, _), (18, _), (19, _), (20, _), (21, _), (135, _)]) ?_
                  refine WX.next ?_
                  refine WC.cond rfl (fun h14 => ?_) (fun h14 => ?_)
                  ·
                    refine WC.region ?_
                    refine wlv (op_move (lt_ rfl) rfl) rfl ?_
                    refine wlx (op_call (f18_spec bj bd J4 Aj4 rs4.length cj4) ca18 (lt_ rfl) rfl) rfl ?_
                    rintro _ _
                    refine wlv (op_move (lt_ rfl) rfl) rfl ?_
                    refine wlx (op_call (f18_spec bj bd J4 Aj4 rs4.length cj4) ca18 (lt_ rfl) rfl) rfl ?_
                    rintro _ _
                    refine wlv (op_assign (lt_ rfl) rfl) rfl ?_
                    refine wlv (op_assign (lt_ rfl) rfl) rfl ?_
                    refine WL.nil ?_
                    refine WX.regs (L' := [(0, _), (1, _), (3, _), (4, _), (5, _), (13, _), (15, _), (17, _), (18, _), (19, _), (20, _)]) ?_
                    refine WX.in_normal ?_
                    refine WX.next ?_
                    refine WC.region ?_
                    refine wlv (op_move (lt_ rfl) rfl) rfl ?_
                    refine wlv (op_add (lt_ rfl) rfl rfl (by omega)) rfl ?_
                    refine wlv (op_assign (lt_ rfl) rfl) rfl ?_
                    refine WL.nil ?_
                    refine WX.regs (L' := [(0, _), (1, _), (3, _), (4, _), (5, _), (13, _), (15, _), (17, _), (18, _), (19, _), (20, _)]) ?_
                    refine WX.meet ((⟨D4, A4, c4, J4, Aj4, cj4, rs4⟩, i + 1, f, J4.first, J4.first)) ⟨⟨(hst.done (by omega) ht3 (.inr ⟨by omega, rfl⟩)).up (by simp only []; omega), by rw [hfi4, hfi3], by simp only []; omega, by simp only []; omega⟩, by simp only []; omega⟩ (fun a w hs => hs.sub xY xT)
                  ·
                    refine WC.seq ?_
                    refine WC.region ?_
                    refine wlv (op_move (lt_ rfl) rfl) rfl ?_
                    refine wlx (op_call (f16_spec bj bd J4 Aj4 rs4.length cj4) ca16 (lt_ rfl) rfl) rfl ?_
                    rintro _ _
                    refine wlv (op_eql (lt_ rfl) rfl rfl) rfl ?_
                    refine WL.nil ?_
                    refine WX.regs (L' := [(0, _), (1, _), (3, _), (4, _), (5, _), (13, _), (15, _), (17, _), (18, _), (19, _), (20, _), (21, _), (142, _)]) ?_
                    refine WX.next ?_
                    refine WC.cond rfl (fun h15 => ?_) (fun h15 => ?_)
                    ·
                      refine WC.seq ?_
                      refine WC.region ?_
                      refine wlv (op_move (lt_ rfl) rfl) rfl ?_
                      refine wlv (op_assign (lt_ rfl) rfl) rfl ?_
                      refine WL.nil ?_
                      refine WX.regs (L' := [(0, _), (1, _), (3, _), (4, _), (5, _), (13, _), (15, _), (17, _), (18, _), (19, _), (20, _), (21, _)]) ?_
                      refine WX.next ?_
                      refine WC.seq ?_
                      refine WC.region ?_
                      refine wlv (op_move (lt_ rfl) rfl) rfl ?_
                      refine wlv (op_move (lt_ rfl) rfl) rfl ?_
                      refine wlv (op_index Try.underlying22 sz42 (lt_ rfl) rfl rfl (by omega) (by omega) (by decide) xS) rfl ?_
                      refine wlv (op_fieldAddrS fo42_0 (lt_ rfl) rfl xS (by rw [flat_len (f := OpR.cells) (sz := 4) (fun _ => rfl)]; omega)) rfl ?_
                      refine wlv (op_loadS fl5 (lt_ rfl) rfl xS ((row_get (k := 0) (hx _ (by omega)) (by decide)).trans rfl)) rfl ?_
                      refine wlv (op_rem (k := .u8) (a := (o.k.toNat : Int)) (lt_ rfl) rfl rfl (by omega) (by omega)) rfl ?_
                      refine wlv (op_eql (lt_ rfl) rfl rfl) rfl ?_
                      refine WL.nil ?_
                      refine WX.regs (L' := [(0, _), (1, _), (3, _), (4, _), (5, _), (13, _), (15, _), (17, _), (18, _), (19, _), (20, _), (21, _), (150, _)]) ?_
                      refine WX.next ?_
                      refine WC.cond rfl (fun h16 => ?_) (fun h16 => ?_)
                      ·
                        exfalso; omega
                      ·
                        refine WC.skip ?_
                        refine WX.in_normal ?_
                        refine WX.next ?_
                        refine WC.region ?_
                        refine wlv (op_move (lt_ rfl) rfl) rfl ?_
                        refine wlv (op_add (lt_ rfl) rfl rfl (by omega)) rfl ?_
                        refine wlv (op_assign (lt_ rfl) rfl) rfl ?_
                        refine WL.nil ?_
                        refine WX.regs (L' := [(0, _), (1, _), (3, _), (4, _), (5, _), (13, _), (15, _), (17, _), (18, _), (19, _), (20, _)]) ?_
                        refine WX.meet ((⟨D4, A4, c4, J4, Aj4, cj4, rs4⟩, i + 1, f, J3.first, J3.first)) ⟨⟨(hst.refused (by omega) (by omega) ht3 (.inr ⟨by omega, rfl⟩)).up (by simp only []; omega), by rw [hfi4, hfi3], by simp only []; omega, by simp only []; omega⟩, by simp only []; omega⟩ (fun a w hs => hs.sub xY xT)
                    ·
                      refine WC.skip ?_
                      refine WX.in_normal ?_
                      refine WX.next ?_
                      refine WC.region ?_
                      refine wlv (op_move (lt_ rfl) rfl) rfl ?_
                      refine wlv (op_add (lt_ rfl) rfl rfl (by omega)) rfl ?_
                      refine wlv (op_assign (lt_ rfl) rfl) rfl ?_
                      refine WL.nil ?_
                      refine WX.regs (L' := [(0, _), (1, _), (3, _), (4, _), (5, _), (13, _), (15, _), (17, _), (18, _), (19, _), (20, _)]) ?_
                      refine WX.meet ((⟨D4, A4, c4, J4, Aj4, cj4, rs4⟩, i + 1, f, J3.first, J3.first)) ⟨⟨(hst.fails (by omega) ht3 (by omega) (.inr ⟨by omega, rfl⟩) (fun h2 => by first | rfl | (exfalso; omega))).up (by simp only []; omega), by rw [hfi4, hfi3], by simp only []; omega, by simp only []; omega⟩, by simp only []; omega⟩ (fun a w hs => hs.sub xY xT)
            ·
              refine WC.exit ?_
              refine WX.then_exit ?_
              refine WX.then_exit ?_
              refine WX.in_hit ?_
              refine WX.meet ((⟨D3, A3, c3, J3, Aj3, cj3, rs3⟩, (bd, bm, bj, b1), f, fs, ct)) (⟨hdu.weak (by omega), hfi3, by simp only []; omega, by omega, by omega⟩) (fun a w hs => hs.sub xY xT)
          ·
            refine wlg_no rfl rfl rfl rfl rfl (by decide) ?_
            refine wlg_no rfl rfl rfl rfl rfl (by decide) ?_
            refine wlg_no rfl rfl rfl rfl rfl (by decide) ?_
            refine wlv (op_pickF (lt_ rfl) rfl rfl) rfl ?_
            refine WL.nil ?_
            refine WX.regs (L' := [(0, _), (1, _), (3, _), (4, _), (5, _), (13, _), (15, _), (17, _), (18, _), (19, _), (20, _), (83, _)]) ?_
            refine WX.next ?_
            refine WC.condF rfl ?_
            refine WC.exit ?_
            refine WX.then_exit ?_
            refine WX.then_exit ?_
            refine WX.in_hit ?_
            refine WX.meet ((⟨D3, A3, c3, J3, Aj3, cj3, rs3⟩, (bd, bm, bj, b1), f, fs, ct)) (⟨hdu.weak (by omega), hfi3, by simp only []; omega, by omega, by omega⟩) (fun a w hs => hs.sub xY xT)
        · rintro ⟨⟨D3, A3, c3, J3, Aj3, cj3, rs3⟩, ⟨bd, bm, bj, b1⟩, f, fs, ct⟩ ⟨hdw, hfi3, hp3, hmC2, hmL2⟩
          try dsimp only at hdw hfi3 hp3 hmC2 hmL2 ⊢
          have hn3 := hdw.n
          refine WC.seq ?_
          refine WC.region ?_
          refine wlv (op_move (lt_ rfl) rfl) rfl ?_
          refine wlx (op_call (f21_spec bj bd J3 Aj3 rs3.length cj3) ca21 (lt_ rfl) rfl) rfl ?_
          rintro _ _
          refine wlv (op_assign (lt_ rfl) rfl) rfl ?_
          refine WL.nil ?_
          refine WX.regs (L' := [(0, _), (3, _), (4, _), (5, _), (13, _), (17, _), (18, _), (19, _), (22, _)]) ?_
          refine WX.next ?_
          refine WC.seq ?_
          refine WC.region ?_
          refine wlv (op_move (lt_ rfl) rfl) rfl ?_
          refine wlx (op_call (f22_spec bd bm A3 c3 D3) ca22 (lt_ rfl) rfl) rfl ?_
          rintro _ _
          refine WL.nil ?_
          refine WX.regs (L' := [(0, _), (3, _), (4, _), (5, _), (13, _), (17, _), (18, _), (19, _), (22, _)]) ?_
          refine WX.next ?_
          refine WC.seq ?_
          refine WC.seq ?_
          refine WC.region ?_
          refine wlv (op_move (lt_ rfl) rfl) rfl ?_
          refine wlv (op_move (lt_ rfl) rfl) rfl ?_
          refine wlx (op_call (f24_spec AC mC cC cs hmC (by omega)) ca24 (lt_ rfl) rfl) rfl ?_
          rintro ⟨Af, cf⟩ _
          refine wlx (op_call (f23_down bd bm A3 c3 { D3 with down := true } rfl (by simp only []; omega) Af mC cf cs (by simp only [fatesM, List.length_map]; exact hmC)) ca23 (lt_ rfl) rfl) rfl ?_
          rintro ⟨D5, A5, c5⟩ ⟨hp5, hd5, hl5, hn5, hc5⟩
          dsimp only at hp5 hd5 hl5 hn5 hc5 ⊢
          have hw5 : DurW (sizeM s) 40000 D5 J3 f fs ct := hdw.fail.cand hn5 hc5
          have hag := ag.toNat_lt
          refine wlv (op_neq (lt_ rfl) rfl rfl) rfl ?_
          refine WL.nil ?_
          refine WX.regs (L' := [(0, _), (4, _), (5, _), (13, _), (17, _), (18, _), (19, _), (22, _), (161, _)]) ?_
          refine WX.next ?_
          refine WC.condF rfl ?_
          refine WC.skip ?_
          refine WX.next ?_
          refine WC.seq ?_
          refine WC.region ?_
          refine wlv (op_move (lt_ rfl) rfl) rfl ?_
          refine wlv (op_move (lt_ rfl) rfl) rfl ?_
          refine wlv (op_rem (k := .u8) (a := (ag.toNat : Int)) (lt_ rfl) rfl rfl (by omega) (by omega)) rfl ?_
          refine wlv (op_conv (k := .u8) (by kernel_rfl) Try.underlying3 (lt_ rfl) rfl) rfl ?_
          refine wlx (op_call (f15_lim bd bm A5 c5 D5 _) ca15 (lt_ rfl) rfl) rfl ?_
          rintro D6 hD6
          refine WL.nil ?_
          refine WX.regs (L' := [(0, _), (5, _), (13, _), (17, _), (18, _), (19, _), (22, _)]) ?_
          refine WX.next ?_
          refine WC.seq ?_
          refine WC.region ?_
          refine wlv (op_move (lt_ rfl) rfl) rfl ?_
          refine wlv (op_move (lt_ rfl) rfl) rfl ?_
          refine wlx (op_call (f13_spec s) ca13 (lt_ rfl) rfl) rfl ?_
          rintro _ _
          have hw6 : DurW (sizeM s) 40000 D6 J3 f fs ct := by rw [hD6]; exact hw5.limit _ _
          have hp6 : D6.pend = [] := by rw [hD6]; exact hp5
          obtain ⟨g6, F6, E6, hr6, hfo6, hca⟩ := hw6.found (by omega) (by rw [hD6]; exact hd5) hp6
          rw [hfi3] at hr6 hca
          have hrf6 := hr6.f
          have hrk6 := hr6.k
          have hrt6 := hr6.fit
          have hle6 := needs_le E6
          rcases hca with ⟨o1, o2⟩ | ⟨o1, o2, o3, o4⟩
          ·
            refine wlx (op_call (f14_lok bd bm A5 c5 D6 3 (sizeM s) g6 F6 E6 hr6 hp6 o1 o2) ca14 (lt_ rfl) rfl) rfl ?_
            rintro ⟨⟨D9, A9, c9, J9, Aj9, cj9, rs9⟩, bk, ⟨Ay, cy⟩, ys⟩ ⟨hrs9, hys9, hf9⟩
            dsimp only at hrs9 hys9 hf9 ⊢
            subst hf9
            refine wlv (op_move (lt_ rfl) rfl) rfl ?_
            refine wlv (op_extract (lt_ rfl) rfl rfl) rfl ?_
            refine wlv (op_extract (lt_ rfl) rfl rfl) rfl ?_
            refine wlv (op_extract (lt_ rfl) rfl rfl) rfl ?_
            refine wlv (op_assign (lt_ rfl) rfl) rfl ?_
            refine wlv (op_assign (lt_ rfl) rfl) rfl ?_
            refine wlv (op_assign (lt_ rfl) rfl) rfl ?_
            refine WL.nil ?_
            refine WX.regs (L' := [(0, _), (5, _), (13, _), (17, _), (18, _), (19, _), (22, _), (23, _), (24, _), (25, _)]) ?_
            refine WX.next ?_
            refine WC.cut (X := JP × (Nat × Nat × Nat) × (Option Addr × Nat × List Bs) × (Int → Option Sec) × Int × Int × Int) (fun q => Found q.2.2.2.1 q.2.2.2.2.1 q.2.2.2.2.2.1 q.2.2.2.2.2.2 q.1.J.first (q.2.2.1.2.2.map Bs.s) ∧ q.1.rs.length = q.2.2.1.2.2.length ∧ q.2.2.1.2.2.length ≤ 1000 ∧ 0 ≤ q.1.J.first ∧ q.1.J.first ≤ 900000) (fun q => [(17, .map (some q.2.1.2.2)), (18, .int .i64 q.2.2.2.2.1), (19, .int .i64 q.2.2.2.2.2.1), (22, .int .i64 q.2.2.2.2.2.2), (23, .pointer (some ⟨q.2.1.2.1, 0, none⟩)), (24, .slice q.2.2.1.1 q.2.2.1.2.2.length q.2.2.1.2.1), (25, .int .i64 0)]) (fun q => [blk q.2.1.2.1 (jcells q.1.J q.2.1.1 q.1.Aj q.1.rs.length q.1.cj) 76, own (.slice q.2.2.1.1 q.2.2.1.2.2.length q.2.2.1.2.1) 49 2 q.2.2.1.2.2.length (entC q.1.J.first q.2.2.1.2.2), rowsC true q.2.2.1.2.2, mapC q.2.1.2.2 (fun x => (q.2.2.2.1 x).map sv), frameC w0 (MutF [])]) ?_ ?_
            ·
              refine WC.seq ?_
              refine WC.region ?_
              refine wlv (op_move (lt_ rfl) rfl) rfl ?_
              refine wlv (op_eql (lt_ rfl) rfl rfl) rfl ?_
              refine WL.nil ?_
              refine WX.regs (L' := [(0, _), (5, _), (13, _), (17, _), (18, _), (19, _), (22, _), (23, _), (24, _), (25, _), (176, _)]) ?_
              refine WX.next ?_
              refine WC.condF rfl ?_
              refine WC.skip ?_
              refine WX.meet ((⟨D9, A9, c9, J9, Aj9, cj9, rs9⟩, (bd, bk, b1), (Ay, cy, ys), f, fs, ct, J3.synced)) (⟨by rw [hys9]; exact hfo6, by have h1 := congrArg List.length hys9; have h2 := congrArg List.length hrs9; rw [List.length_map] at h1 h2; simp only []; omega, by have h1 := congrArg List.length hys9; rw [List.length_map] at h1; simp only []; omega, hrf6.1, hrf6.2⟩) (fun a w hs => hs.sub xY xT)
            · rintro ⟨⟨D7, A7, c7, J7, Aj7, cj7, rs7⟩, ⟨bd, bk, b1⟩, ⟨Ay, cy, ys⟩, f, fs, ct, sy⟩ ⟨hfo, hl7, hy7, hj7, hj8⟩
              try dsimp only at hfo hl7 hy7 hj7 hj8 ⊢
              obtain ⟨hfo1, hfo2, hfo3⟩ := id hfo
              rw [List.length_map] at hfo2
              refine WC.seq ?_
              refine WC.seq ?_
              refine WC.region ?_
              refine wlv (op_move (lt_ rfl) rfl) rfl ?_
              refine wlv (op_neq (lt_ rfl) rfl rfl) rfl ?_
              refine wlv (op_move (lt_ rfl) rfl) rfl ?_
              refine wlgv (op_move (lt_ rfl) rfl) rfl rfl rfl ?_
              refine wlgx (op_call (f18_spec bk bd J7 Aj7 rs7.length cj7) ca18 (lt_ rfl) rfl) rfl rfl rfl ?_
              rintro _ _
              refine wlgv (op_move (lt_ rfl) rfl) rfl rfl rfl ?_
              refine wlgv (op_neq (lt_ rfl) rfl rfl) rfl rfl rfl ?_
              refine wlgv (op_move (lt_ rfl) rfl) rfl rfl rfl ?_
              refine WL.split (t := 197) rfl (fun g197 => ?_) (fun g197 => ?_)
              ·
                refine wlgv (op_move (lt_ rfl) rfl) rfl rfl rfl ?_
                refine wlgx (op_call (f18_spec bk bd J7 Aj7 rs7.length cj7) ca18 (lt_ rfl) rfl) rfl rfl rfl ?_
                rintro _ _
                refine wlgv (op_move (lt_ rfl) rfl) rfl rfl rfl ?_
                refine wlgv (op_neq (lt_ rfl) rfl rfl) rfl rfl rfl ?_
                refine wlgv (op_pickT (lt_ rfl) rfl rfl) rfl rfl rfl ?_
                refine wlv (op_pickF (lt_ rfl) rfl rfl) rfl ?_
                refine wlv (op_move (lt_ rfl) rfl) rfl ?_
                refine WL.split (t := 204) rfl (fun g204 => ?_) (fun g204 => ?_)
                ·
                  exfalso; omega
                ·
                  refine wlgv (op_move (lt_ rfl) rfl) rfl rfl rfl ?_
                  refine wlgx (op_call (f17_spec bk bd J7 Aj7 rs7.length cj7 (by omega)) ca17 (lt_ rfl) rfl) rfl rfl rfl ?_
                  rintro _ _
                  refine wlgv (op_move (lt_ rfl) rfl) rfl rfl rfl ?_
                  refine wlgv (op_lss (lt_ rfl) rfl rfl) rfl rfl rfl ?_
                  refine wlv (op_pickF (lt_ rfl) rfl rfl) rfl ?_
                  refine wlv (op_move (lt_ rfl) rfl) rfl ?_
                  refine WL.split (t := 210) rfl (fun g210 => ?_) (fun g210 => ?_)
                  ·
                    exfalso; omega
                  ·
                    refine wlgv (op_move (lt_ rfl) rfl) rfl rfl rfl ?_
                    refine wlgv (op_len Try.underlying33 (lt_ rfl) rfl) rfl rfl rfl ?_
                    refine wlgv (op_move (lt_ rfl) rfl) rfl rfl rfl ?_
                    refine wlgx (op_call (f17_spec bk bd J7 Aj7 rs7.length cj7 (by omega)) ca17 (lt_ rfl) rfl) rfl rfl rfl ?_
                    rintro _ _
                    refine wlgv (op_move (lt_ rfl) rfl) rfl rfl rfl ?_
                    refine wlgx (op_call (f18_spec bk bd J7 Aj7 rs7.length cj7) ca18 (lt_ rfl) rfl) rfl rfl rfl ?_
                    rintro _ _
                    refine wlgv (op_sub (lt_ rfl) rfl rfl (by omega)) rfl rfl rfl ?_
                    refine wlgv (op_neq (lt_ rfl) rfl rfl) rfl rfl rfl ?_
                    refine wlv (op_pickF (lt_ rfl) rfl rfl) rfl ?_
                    refine WL.nil ?_
                    refine WX.regs (L' := [(17, _), (23, _), (24, _), (219, _)]) ?_
                    refine WX.next ?_
                    refine WC.cond rfl (fun h7 => ?_) (fun h7 => ?_)
                    ·
                      exfalso; omega
                    ·
                      refine WC.skip ?_
                      refine WX.next ?_
                      refine WC.seq ?_
                      refine WC.seq ?_
                      refine WC.region ?_
                      refine wlv (op_assign (lt_ rfl) rfl) rfl ?_
                      refine WL.nil ?_
                      refine WX.regs (L' := [(17, _), (23, _), (24, _), (26, _)]) ?_
                      refine WX.next ?_
                      refine WC.block ?_
                      refine WC.loop (X := Nat) (fun q => ys.length - q) (fun q => q ≤ ys.length) (fun q => [(17, .map (some b1)), (23, .pointer (some ⟨bk, 0, none⟩)), (24, .slice Ay ys.length cy), (26, .int .i64 (q : Int))]) (fun q => [blk bk (jcells J7 bd Aj7 rs7.length cj7) 76, own (.slice Ay ys.length cy) 49 2 ys.length (entC J7.first ys), rowsC true ys, mapC b1 (fun x => (f x).map sv), frameC w0 (MutF [])]) (0) (Nat.zero_le _) (fun a w hs => hs.sub xY xT) ?_
                      rintro i3 hi3
                      try dsimp only
                      refine WC.seq ?_
                      refine WC.seq ?_
                      refine WC.region ?_
                      refine wlv (op_move (lt_ rfl) rfl) rfl ?_
                      refine wlv (op_move (lt_ rfl) rfl) rfl ?_
                      refine wlv (op_len Try.underlying33 (lt_ rfl) rfl) rfl ?_
                      refine wlv (op_lss (lt_ rfl) rfl rfl) rfl ?_
                      refine WL.nil ?_
                      refine WX.regs (L' := [(17, _), (23, _), (24, _), (26, _), (223, _)]) ?_
                      refine WX.next ?_
                      refine WC.cond rfl (fun h8 => ?_) (fun h8 => ?_)
                      ·
                        refine WC.skip ?_
                        refine WX.next ?_
                        refine WC.seq ?_
                        refine WC.block ?_
                        refine WC.seq ?_
                        refine WC.region ?_
                        obtain ⟨z, hz⟩ : ∃ r, ys[i3]? = some r := ⟨ys[i3]'(by omega), List.getElem?_eq_getElem _⟩
                        have hze := entC_at hz J7.first
                        have hft := hfo.2.2 i3 z.s (by simp [hz])
                        refine wlv (op_move (lt_ rfl) rfl) rfl ?_
                        refine wlv (op_move (lt_ rfl) rfl) rfl ?_
                        refine wlv (op_move (lt_ rfl) rfl) rfl ?_
                        refine wlv (op_index Try.underlying33 sz49 (lt_ rfl) rfl rfl (by omega) (by omega) (by decide) xS) rfl ?_
                        refine wlv (op_fieldAddrS fo49_0 (lt_ rfl) rfl xS (by rw [entC_length]; omega)) rfl ?_
                        refine wlv (op_loadS fl3 (lt_ rfl) rfl xS (by rw [show ((i3 : Int)).toNat * 2 + 0 = i3 * 2 + 0 by omega]; exact hze.1)) rfl ?_
                        refine wlv (op_lookupOk Try.underlying37 Try.underlying3 zf9 (lt_ rfl) rfl rfl xM) rfl ?_
                        simp only [hft, Option.map_some, Option.getD_some, Option.isSome_some]
                        refine wlv (op_move (lt_ rfl) rfl) rfl ?_
                        refine wlv (op_extract (lt_ rfl) rfl rfl) rfl ?_
                        refine wlv (op_extract (lt_ rfl) rfl rfl) rfl ?_
                        refine wlv (op_assign (lt_ rfl) rfl) rfl ?_
                        refine wlv (op_assign (lt_ rfl) rfl) rfl ?_
                        refine WL.nil ?_
                        refine WX.regs (L' := [(17, _), (23, _), (24, _), (26, _), (27, _), (28, _)]) ?_
                        refine WX.next ?_
                        refine WC.seq ?_
                        refine WC.drawnH mo 999 ?_
                        refine WA.take (i := 0) rfl (by kernel_rfl) (fun _ _ _ h => h) rfl (op_move (lt_ rfl) rfl) xT ?_
                        refine WA.take (i := 1) rfl (by kernel_rfl) (fun _ _ _ h => h) rfl (op_move (lt_ rfl) rfl) xT ?_
                        refine WA.take (i := 2) rfl (by kernel_rfl) (fun _ _ _ h => h) rfl (op_index Try.underlying33 sz49 (lt_ rfl) rfl rfl (by omega) (by omega) (by decide) xS) xT ?_
                        refine WA.take (i := 3) rfl (by kernel_rfl) (fun _ _ _ h => h) rfl (op_fieldAddrS fo49_0 (lt_ rfl) rfl xS (by rw [entC_length]; omega)) xT ?_
                        refine WA.take (i := 4) rfl (by kernel_rfl) (fun _ _ _ h => h) rfl (op_loadS fl3 (lt_ rfl) rfl xS (by rw [show ((i3 : Int)).toNat * 2 + 0 = i3 * 2 + 0 by omega]; exact hze.1)) xT ?_
                        refine WA.take (i := 5) rfl (by kernel_rfl) (fun _ _ _ h => h) rfl (op_move (lt_ rfl) rfl) xT ?_
                        refine WA.take (i := 7) rfl (by kernel_rfl) (fun _ _ _ h => h) rfl (op_move (lt_ rfl) rfl) xT ?_
                        refine WA.stepx (i := 6) (by kernel_rfl) rfl rfl (op_call (f18_spec bk bd J7 Aj7 rs7.length cj7) ca18 (lt_ rfl) rfl) (fun _ r => xT) ?_
                        rintro _ _
                        refine WA.take (i := 8) rfl (by kernel_rfl) (fun _ _ _ h => h) rfl (op_add (lt_ rfl) rfl rfl (by omega)) xT ?_
                        refine WA.take (i := 9) rfl (by kernel_rfl) (fun _ _ _ h => h) rfl (op_neq (lt_ rfl) rfl rfl) xT ?_
                        refine WA.take (i := 10) rfl (by kernel_rfl) (fun _ _ _ h => h) rfl (op_move (lt_ rfl) rfl) xT ?_
                        refine WA.split (t := 246) rfl (fun g246 => ?_) (fun g246 => ?_)
                        ·
                          exact absurd rfl g246
                        ·
                          refine WA.takeG (i := 11) rfl (by kernel_rfl) (fun _ _ _ h => h) rfl rfl rfl (op_move (lt_ rfl) rfl) xT ?_
                          refine WA.takeG (i := 12) rfl (by kernel_rfl) (fun _ _ _ h => h) rfl rfl rfl (op_not (lt_ rfl) rfl) xT ?_
                          refine WA.take (i := 13) rfl (by kernel_rfl) (fun _ _ _ h => h) rfl (op_pickF (lt_ rfl) rfl rfl) xT ?_
                          refine WA.take (i := 14) rfl (by kernel_rfl) (fun _ _ _ h => h) rfl (op_move (lt_ rfl) rfl) xT ?_
                          refine WA.takeG (i := 15) rfl (by kernel_rfl) (fun _ _ _ h => h) rfl rfl rfl (op_move (lt_ rfl) rfl) xT ?_
                          refine WA.takeG (i := 16) rfl (by kernel_rfl) (fun _ _ _ h => h) rfl rfl rfl (op_move (lt_ rfl) rfl) xT ?_
                          refine WA.takeG (i := 17) rfl (by kernel_rfl) (fun _ _ _ h => h) rfl rfl rfl (op_index Try.underlying33 sz49 (lt_ rfl) rfl rfl (by omega) (by omega) (by decide) xS) xT ?_
                          refine WA.takeG (i := 18) rfl (by kernel_rfl) (fun _ _ _ h => h) rfl rfl rfl (op_fieldAddrS fo49_1 (lt_ rfl) rfl xS (by rw [entC_length]; omega)) xT ?_
                          refine WA.takeG (i := 19) rfl (by kernel_rfl) (fun _ _ _ h => h) rfl rfl rfl (op_loadS fl23 (lt_ rfl) rfl xS (by rw [show ((i3 : Int)).toNat * 2 + 1 = i3 * 2 + 1 by omega]; exact hze.2)) xT ?_
                          refine WA.takeG (i := 20) rfl (by kernel_rfl) (fun _ _ _ h => h) rfl rfl rfl (op_bytesStr Try.underlying23 Try.underlying5 Try.underlying9 (lt_ rfl) rfl ⟨rowsC true ys, xM, rowsC_get (r := z) (List.mem_of_getElem? hz)⟩) xT ?_
                          refine WA.takeG (i := 21) rfl (by kernel_rfl) (fun _ _ _ h => h) rfl rfl rfl (op_move (lt_ rfl) rfl) xT ?_
                          refine WA.takeG (i := 22) rfl (by kernel_rfl) (fun _ _ _ h => h) rfl rfl rfl (op_neqs (lt_ rfl) rfl rfl) xT ?_
                          refine WA.take (i := 23) rfl (by kernel_rfl) (fun _ _ _ h => h) rfl (op_pickF (lt_ rfl) rfl rfl) xT ?_
                          refine WA.done (by kernel_rfl) ?_
                          refine WX.regs (L' := [(17, _), (23, _), (24, _), (26, _), (259, _)]) ?_
                          refine WX.next ?_
                          refine WC.cond rfl (fun h9 => ?_) (fun h9 => ?_)
                          ·
                            exact (h9 rfl).elim
                          ·
                            refine WC.skip ?_
                            refine WX.in_normal ?_
                            refine WX.next ?_
                            refine WC.region ?_
                            refine wlv (op_move (lt_ rfl) rfl) rfl ?_
                            refine wlv (op_add (lt_ rfl) rfl rfl (by omega)) rfl ?_
                            refine wlv (op_assign (lt_ rfl) rfl) rfl ?_
                            refine WL.nil ?_
                            refine WX.regs (L' := [(17, _), (23, _), (24, _), (26, _)]) ?_
                            refine WX.meet (i3 + 1) ⟨by omega, by omega⟩ (fun a w hs => hs.sub xY xT)
                      ·
                        refine WC.exit ?_
                        refine WX.then_exit ?_
                        refine WX.then_exit ?_
                        refine WX.in_hit ?_
                        refine WX.next ?_
                        refine WC.seq ?_
                        refine WC.region ?_
                        refine wlv (op_assign (lt_ rfl) rfl) rfl ?_
                        refine WL.nil ?_
                        refine WX.regs (L' := [(12, _)]) ?_
                        refine WX.next ?_
                        refine WC.ret ?_
                        exact Fin.ret1 xI (_) (rfl) Try.results3 (.tmp rfl) xT (by simp)
              ·
                refine wlg_no rfl rfl rfl rfl rfl (by decide) ?_
                refine wlg_no rfl rfl rfl rfl rfl (by decide) ?_
                refine wlg_no rfl rfl rfl rfl rfl (by decide) ?_
                refine wlg_no rfl rfl rfl rfl rfl (by decide) ?_
                refine wlgv (op_pickF (lt_ rfl) rfl rfl) rfl rfl rfl ?_
                refine wlv (op_pickF (lt_ rfl) rfl rfl) rfl ?_
                refine wlv (op_move (lt_ rfl) rfl) rfl ?_
                refine wlgv (op_move (lt_ rfl) rfl) rfl rfl rfl ?_
                refine wlgx (op_call (f17_spec bk bd J7 Aj7 rs7.length cj7 (by omega)) ca17 (lt_ rfl) rfl) rfl rfl rfl ?_
                rintro _ _
                refine wlgv (op_move (lt_ rfl) rfl) rfl rfl rfl ?_
                refine wlgv (op_lss (lt_ rfl) rfl rfl) rfl rfl rfl ?_
                refine wlv (op_pickF (lt_ rfl) rfl rfl) rfl ?_
                refine wlv (op_move (lt_ rfl) rfl) rfl ?_
                refine WL.split (t := 210) rfl (fun g210 => ?_) (fun g210 => ?_)
                ·
                  exfalso; omega
                ·
                  refine wlgv (op_move (lt_ rfl) rfl) rfl rfl rfl ?_
                  refine wlgv (op_len Try.underlying33 (lt_ rfl) rfl) rfl rfl rfl ?_
                  refine wlgv (op_move (lt_ rfl) rfl) rfl rfl rfl ?_
                  refine wlgx (op_call (f17_spec bk bd J7 Aj7 rs7.length cj7 (by omega)) ca17 (lt_ rfl) rfl) rfl rfl rfl ?_
                  rintro _ _
                  refine wlgv (op_move (lt_ rfl) rfl) rfl rfl rfl ?_
                  refine wlgx (op_call (f18_spec bk bd J7 Aj7 rs7.length cj7) ca18 (lt_ rfl) rfl) rfl rfl rfl ?_
                  rintro _ _
                  refine wlgv (op_sub (lt_ rfl) rfl rfl (by omega)) rfl rfl rfl ?_
                  refine wlgv (op_neq (lt_ rfl) rfl rfl) rfl rfl rfl ?_
                  refine wlv (op_pickF (lt_ rfl) rfl rfl) rfl ?_
                  refine WL.nil ?_
                  refine WX.regs (L' := [(17, _), (23, _), (24, _), (219, _)]) ?_
                  refine WX.next ?_
                  refine WC.cond rfl (fun h7 => ?_) (fun h7 => ?_)
                  ·
                    exfalso; omega
                  ·
                    refine WC.skip ?_
                    refine WX.next ?_
                    refine WC.seq ?_
                    refine WC.seq ?_
                    refine WC.region ?_
                    refine wlv (op_assign (lt_ rfl) rfl) rfl ?_
                    refine WL.nil ?_
                    refine WX.regs (L' := [(17, _), (23, _), (24, _), (26, _)]) ?_
                    refine WX.next ?_
                    refine WC.block ?_
                    refine WC.loop (X := Nat) (fun q => ys.length - q) (fun q => q ≤ ys.length) (fun q => [(17, .map (some b1)), (23, .pointer (some ⟨bk, 0, none⟩)), (24, .slice Ay ys.length cy), (26, .int .i64 (q : Int))]) (fun q => [blk bk (jcells J7 bd Aj7 rs7.length cj7) 76, own (.slice Ay ys.length cy) 49 2 ys.length (entC J7.first ys), rowsC true ys, mapC b1 (fun x => (f x).map sv), frameC w0 (MutF [])]) (0) (Nat.zero_le _) (fun a w hs => hs.sub xY xT) ?_
                    rintro i3 hi3
                    try dsimp only
                    refine WC.seq ?_
                    refine WC.seq ?_
                    refine WC.region ?_
                    refine wlv (op_move (lt_ rfl) rfl) rfl ?_
                    refine wlv (op_move (lt_ rfl) rfl) rfl ?_
                    refine wlv (op_len Try.underlying33 (lt_ rfl) rfl) rfl ?_
                    refine wlv (op_lss (lt_ rfl) rfl rfl) rfl ?_
                    refine WL.nil ?_
                    refine WX.regs (L' := [(17, _), (23, _), (24, _), (26, _), (223, _)]) ?_
                    refine WX.next ?_
                    refine WC.cond rfl (fun h8 => ?_) (fun h8 => ?_)
                    ·
                      refine WC.skip ?_
                      refine WX.next ?_
                      refine WC.seq ?_
                      refine WC.block ?_
                      refine WC.seq ?_
                      refine WC.region ?_
                      obtain ⟨z, hz⟩ : ∃ r, ys[i3]? = some r := ⟨ys[i3]'(by omega), List.getElem?_eq_getElem _⟩
                      have hze := entC_at hz J7.first
                      have hft := hfo.2.2 i3 z.s (by simp [hz])
                      refine wlv (op_move (lt_ rfl) rfl) rfl ?_
                      refine wlv (op_move (lt_ rfl) rfl) rfl ?_
                      refine wlv (op_move (lt_ rfl) rfl) rfl ?_
                      refine wlv (op_index Try.underlying33 sz49 (lt_ rfl) rfl rfl (by omega) (by omega) (by decide) xS) rfl ?_
                      refine wlv (op_fieldAddrS fo49_0 (lt_ rfl) rfl xS (by rw [entC_length]; omega)) rfl ?_
                      refine wlv (op_loadS fl3 (lt_ rfl) rfl xS (by rw [show ((i3 : Int)).toNat * 2 + 0 = i3 * 2 + 0 by omega]; exact hze.1)) rfl ?_
                      refine wlv (op_lookupOk Try.underlying37 Try.underlying3 zf9 (lt_ rfl) rfl rfl xM) rfl ?_
                      simp only [hft, Option.map_some, Option.getD_some, Option.isSome_some]
                      refine wlv (op_move (lt_ rfl) rfl) rfl ?_
                      refine wlv (op_extract (lt_ rfl) rfl rfl) rfl ?_
                      refine wlv (op_extract (lt_ rfl) rfl rfl) rfl ?_
                      refine wlv (op_assign (lt_ rfl) rfl) rfl ?_
                      refine wlv (op_assign (lt_ rfl) rfl) rfl ?_
                      refine WL.nil ?_
                      refine WX.regs (L' := [(17, _), (23, _), (24, _), (26, _), (27, _), (28, _)]) ?_
                      refine WX.next ?_
                      refine WC.seq ?_
                      refine WC.drawnH mo 999 ?_
                      refine WA.take (i := 0) rfl (by kernel_rfl) (fun _ _ _ h => h) rfl (op_move (lt_ rfl) rfl) xT ?_
                      refine WA.take (i := 1) rfl (by kernel_rfl) (fun _ _ _ h => h) rfl (op_move (lt_ rfl) rfl) xT ?_
                      refine WA.take (i := 2) rfl (by kernel_rfl) (fun _ _ _ h => h) rfl (op_index Try.underlying33 sz49 (lt_ rfl) rfl rfl (by omega) (by omega) (by decide) xS) xT ?_
                      refine WA.take (i := 3) rfl (by kernel_rfl) (fun _ _ _ h => h) rfl (op_fieldAddrS fo49_0 (lt_ rfl) rfl xS (by rw [entC_length]; omega)) xT ?_
                      refine WA.take (i := 4) rfl (by kernel_rfl) (fun _ _ _ h => h) rfl (op_loadS fl3 (lt_ rfl) rfl xS (by rw [show ((i3 : Int)).toNat * 2 + 0 = i3 * 2 + 0 by omega]; exact hze.1)) xT ?_
                      refine WA.take (i := 5) rfl (by kernel_rfl) (fun _ _ _ h => h) rfl (op_move (lt_ rfl) rfl) xT ?_
                      refine WA.take (i := 7) rfl (by kernel_rfl) (fun _ _ _ h => h) rfl (op_move (lt_ rfl) rfl) xT ?_
                      refine WA.stepx (i := 6) (by kernel_rfl) rfl rfl (op_call (f18_spec bk bd J7 Aj7 rs7.length cj7) ca18 (lt_ rfl) rfl) (fun _ r => xT) ?_
                      rintro _ _
                      refine WA.take (i := 8) rfl (by kernel_rfl) (fun _ _ _ h => h) rfl (op_add (lt_ rfl) rfl rfl (by omega)) xT ?_
                      refine WA.take (i := 9) rfl (by kernel_rfl) (fun _ _ _ h => h) rfl (op_neq (lt_ rfl) rfl rfl) xT ?_
                      refine WA.take (i := 10) rfl (by kernel_rfl) (fun _ _ _ h => h) rfl (op_move (lt_ rfl) rfl) xT ?_
                      refine WA.split (t := 246) rfl (fun g246 => ?_) (fun g246 => ?_)
                      ·
                        exact absurd rfl g246
                      ·
                        refine WA.takeG (i := 11) rfl (by kernel_rfl) (fun _ _ _ h => h) rfl rfl rfl (op_move (lt_ rfl) rfl) xT ?_
                        refine WA.takeG (i := 12) rfl (by kernel_rfl) (fun _ _ _ h => h) rfl rfl rfl (op_not (lt_ rfl) rfl) xT ?_
                        refine WA.take (i := 13) rfl (by kernel_rfl) (fun _ _ _ h => h) rfl (op_pickF (lt_ rfl) rfl rfl) xT ?_
                        refine WA.take (i := 14) rfl (by kernel_rfl) (fun _ _ _ h => h) rfl (op_move (lt_ rfl) rfl) xT ?_
                        refine WA.takeG (i := 15) rfl (by kernel_rfl) (fun _ _ _ h => h) rfl rfl rfl (op_move (lt_ rfl) rfl) xT ?_
                        refine WA.takeG (i := 16) rfl (by kernel_rfl) (fun _ _ _ h => h) rfl rfl rfl (op_move (lt_ rfl) rfl) xT ?_
                        refine WA.takeG (i := 17) rfl (by kernel_rfl) (fun _ _ _ h => h) rfl rfl rfl (op_index Try.underlying33 sz49 (lt_ rfl) rfl rfl (by omega) (by omega) (by decide) xS) xT ?_
                        refine WA.takeG (i := 18) rfl (by kernel_rfl) (fun _ _ _ h => h) rfl rfl rfl (op_fieldAddrS fo49_1 (lt_ rfl) rfl xS (by rw [entC_length]; omega)) xT ?_
                        refine WA.takeG (i := 19) rfl (by kernel_rfl) (fun _ _ _ h => h) rfl rfl rfl (op_loadS fl23 (lt_ rfl) rfl xS (by rw [show ((i3 : Int)).toNat * 2 + 1 = i3 * 2 + 1 by omega]; exact hze.2)) xT ?_
                        refine WA.takeG (i := 20) rfl (by kernel_rfl) (fun _ _ _ h => h) rfl rfl rfl (op_bytesStr Try.underlying23 Try.underlying5 Try.underlying9 (lt_ rfl) rfl ⟨rowsC true ys, xM, rowsC_get (r := z) (List.mem_of_getElem? hz)⟩) xT ?_
                        refine WA.takeG (i := 21) rfl (by kernel_rfl) (fun _ _ _ h => h) rfl rfl rfl (op_move (lt_ rfl) rfl) xT ?_
                        refine WA.takeG (i := 22) rfl (by kernel_rfl) (fun _ _ _ h => h) rfl rfl rfl (op_neqs (lt_ rfl) rfl rfl) xT ?_
                        refine WA.take (i := 23) rfl (by kernel_rfl) (fun _ _ _ h => h) rfl (op_pickF (lt_ rfl) rfl rfl) xT ?_
                        refine WA.done (by kernel_rfl) ?_
                        refine WX.regs (L' := [(17, _), (23, _), (24, _), (26, _), (259, _)]) ?_
                        refine WX.next ?_
                        refine WC.cond rfl (fun h9 => ?_) (fun h9 => ?_)
                        ·
                          exact (h9 rfl).elim
                        ·
                          refine WC.skip ?_
                          refine WX.in_normal ?_
                          refine WX.next ?_
                          refine WC.region ?_
                          refine wlv (op_move (lt_ rfl) rfl) rfl ?_
                          refine wlv (op_add (lt_ rfl) rfl rfl (by omega)) rfl ?_
                          refine wlv (op_assign (lt_ rfl) rfl) rfl ?_
                          refine WL.nil ?_
                          refine WX.regs (L' := [(17, _), (23, _), (24, _), (26, _)]) ?_
                          refine WX.meet (i3 + 1) ⟨by omega, by omega⟩ (fun a w hs => hs.sub xY xT)
                    ·
                      refine WC.exit ?_
                      refine WX.then_exit ?_
                      refine WX.then_exit ?_
                      refine WX.in_hit ?_
                      refine WX.next ?_
                      refine WC.seq ?_
                      refine WC.region ?_
                      refine wlv (op_assign (lt_ rfl) rfl) rfl ?_
                      refine WL.nil ?_
                      refine WX.regs (L' := [(12, _)]) ?_
                      refine WX.next ?_
                      refine WC.ret ?_
                      exact Fin.ret1 xI (_) (rfl) Try.results3 (.tmp rfl) xT (by simp)
          ·
            refine wlx (op_call (f14_lerr bd bm A5 c5 D6 3 (sizeM s) g6 F6 E6 hr6 hp6 o1) ca14 (lt_ rfl) rfl) rfl ?_
            rintro ⟨D7, A7, c7⟩ ⟨hq7, hq7p⟩
            dsimp only at hq7 hq7p ⊢
            refine wlv (op_move (lt_ rfl) rfl) rfl ?_
            refine wlv (op_extract (lt_ rfl) rfl rfl) rfl ?_
            refine wlv (op_extract (lt_ rfl) rfl rfl) rfl ?_
            refine wlv (op_extract (lt_ rfl) rfl rfl) rfl ?_
            refine wlv (op_assign (lt_ rfl) rfl) rfl ?_
            refine wlv (op_assign (lt_ rfl) rfl) rfl ?_
            refine wlv (op_assign (lt_ rfl) rfl) rfl ?_
            refine WL.nil ?_
            refine WX.regs (L' := [(0, _), (5, _), (13, _), (17, _), (18, _), (19, _), (22, _), (23, _), (24, _), (25, _)]) ?_
            refine WX.next ?_
            refine WC.cut (X := JP × (Nat × Nat × Nat) × (Option Addr × Nat × List Bs) × (Int → Option Sec) × Int × Int × Int) (fun q => Found q.2.2.2.1 q.2.2.2.2.1 q.2.2.2.2.2.1 q.2.2.2.2.2.2 q.1.J.first (q.2.2.1.2.2.map Bs.s) ∧ q.1.rs.length = q.2.2.1.2.2.length ∧ q.2.2.1.2.2.length ≤ 1000 ∧ 0 ≤ q.1.J.first ∧ q.1.J.first ≤ 900000) (fun q => [(17, .map (some q.2.1.2.2)), (18, .int .i64 q.2.2.2.2.1), (19, .int .i64 q.2.2.2.2.2.1), (22, .int .i64 q.2.2.2.2.2.2), (23, .pointer (some ⟨q.2.1.2.1, 0, none⟩)), (24, .slice q.2.2.1.1 q.2.2.1.2.2.length q.2.2.1.2.1), (25, .int .i64 0)]) (fun q => [blk q.2.1.2.1 (jcells q.1.J q.2.1.1 q.1.Aj q.1.rs.length q.1.cj) 76, own (.slice q.2.2.1.1 q.2.2.1.2.2.length q.2.2.1.2.1) 49 2 q.2.2.1.2.2.length (entC q.1.J.first q.2.2.1.2.2), rowsC true q.2.2.1.2.2, mapC q.2.1.2.2 (fun x => (q.2.2.2.1 x).map sv), frameC w0 (MutF [])]) ?_ ?_
            ·
              refine WC.seq ?_
              refine WC.region ?_
              refine wlv (op_move (lt_ rfl) rfl) rfl ?_
              refine wlv (op_eql (lt_ rfl) rfl rfl) rfl ?_
              refine WL.nil ?_
              refine WX.regs (L' := [(0, _), (5, _), (13, _), (17, _), (18, _), (19, _), (22, _), (23, _), (24, _), (25, _), (176, _)]) ?_
              refine WX.next ?_
              refine WC.condT rfl ?_
              refine WC.seq ?_
              refine WC.seq ?_
              refine WC.region ?_
              refine wlv (op_move (lt_ rfl) rfl) rfl ?_
              refine wlv (op_move (lt_ rfl) rfl) rfl ?_
              refine wlx (op_call (f24_spec AL mL cL ls hmL (by omega)) ca24 (lt_ rfl) rfl) rfl ?_
              rintro ⟨Ag, cg⟩ _
              refine wlx (op_call (f23_down bd bm A7 c7 D7 (by rw [hq7]; exact o3) (by omega) Ag mL cg ls (by simp only [fatesM, List.length_map]; exact hmL)) ca23 (lt_ rfl) rfl) rfl ?_
              rintro ⟨D8, A8, c8⟩ ⟨hp8, hd8, hl8, hn8, hc8⟩
              dsimp only at hp8 hd8 hl8 hn8 hc8 ⊢
              obtain ⟨g8, hr8, o5, o6⟩ := o4 D8 (by rw [hn8, hq7]; exact o2) hd8 hl8 hp8 (fun b s h => by have := hc8 b s h; rw [hq7] at this; exact this)
              refine wlv (op_neq (lt_ rfl) rfl rfl) rfl ?_
              refine WL.nil ?_
              refine WX.regs (L' := [(0, _), (13, _), (17, _), (18, _), (19, _), (22, _), (181, _)]) ?_
              refine WX.next ?_
              refine WC.condF rfl ?_
              refine WC.skip ?_
              refine WX.next ?_
              refine WC.region ?_
              refine wlv (op_move (lt_ rfl) rfl) rfl ?_
              refine wlv (op_move (lt_ rfl) rfl) rfl ?_
              refine wlx (op_call (f13_spec s) ca13 (lt_ rfl) rfl) rfl ?_
              rintro _ _
              refine wlx (op_call (f14_lok bd bm A8 c8 D8 3 (sizeM s) g8 F6 E6 hr8 hp8 o5 o6) ca14 (lt_ rfl) rfl) rfl ?_
              rintro ⟨⟨D9, A9, c9, J9, Aj9, cj9, rs9⟩, bk, ⟨Ay, cy⟩, ys⟩ ⟨hrs9, hys9, hf9⟩
              dsimp only at hrs9 hys9 hf9 ⊢
              subst hf9
              refine wlv (op_move (lt_ rfl) rfl) rfl ?_
              refine wlv (op_extract (lt_ rfl) rfl rfl) rfl ?_
              refine wlv (op_extract (lt_ rfl) rfl rfl) rfl ?_
              refine wlv (op_extract (lt_ rfl) rfl rfl) rfl ?_
              refine wlv (op_assign (lt_ rfl) rfl) rfl ?_
              refine wlv (op_assign (lt_ rfl) rfl) rfl ?_
              refine wlv (op_assign (lt_ rfl) rfl) rfl ?_
              refine WL.nil ?_
              refine WX.regs (L' := [(17, _), (18, _), (19, _), (22, _), (23, _), (24, _), (25, _)]) ?_
              refine WX.meet ((⟨D9, A9, c9, J9, Aj9, cj9, rs9⟩, (bd, bk, b1), (Ay, cy, ys), f, fs, ct, J3.synced)) (⟨by rw [hys9]; exact hfo6, by have h1 := congrArg List.length hys9; have h2 := congrArg List.length hrs9; rw [List.length_map] at h1 h2; simp only []; omega, by have h1 := congrArg List.length hys9; rw [List.length_map] at h1; simp only []; omega, hrf6.1, hrf6.2⟩) (fun a w hs => hs.sub xY xT)
            · rintro ⟨⟨D7, A7, c7, J7, Aj7, cj7, rs7⟩, ⟨bd, bk, b1⟩, ⟨Ay, cy, ys⟩, f, fs, ct, sy⟩ ⟨hfo, hl7, hy7, hj7, hj8⟩
              try dsimp only at hfo hl7 hy7 hj7 hj8 ⊢
              obtain ⟨hfo1, hfo2, hfo3⟩ := id hfo
              rw [List.length_map] at hfo2
              refine WC.seq ?_
              refine WC.seq ?_
              refine WC.region ?_
              refine wlv (op_move (lt_ rfl) rfl) rfl ?_
              refine wlv (op_neq (lt_ rfl) rfl rfl) rfl ?_
              refine wlv (op_move (lt_ rfl) rfl) rfl ?_
              refine wlgv (op_move (lt_ rfl) rfl) rfl rfl rfl ?_
              refine wlgx (op_call (f18_spec bk bd J7 Aj7 rs7.length cj7) ca18 (lt_ rfl) rfl) rfl rfl rfl ?_
              rintro _ _
              refine wlgv (op_move (lt_ rfl) rfl) rfl rfl rfl ?_
              refine wlgv (op_neq (lt_ rfl) rfl rfl) rfl rfl rfl ?_
              refine wlgv (op_move (lt_ rfl) rfl) rfl rfl rfl ?_
              refine WL.split (t := 197) rfl (fun g197 => ?_) (fun g197 => ?_)
              ·
                refine wlgv (op_move (lt_ rfl) rfl) rfl rfl rfl ?_
                refine wlgx (op_call (f18_spec bk bd J7 Aj7 rs7.length cj7) ca18 (lt_ rfl) rfl) rfl rfl rfl ?_
                rintro _ _
                refine wlgv (op_move (lt_ rfl) rfl) rfl rfl rfl ?_
                refine wlgv (op_neq (lt_ rfl) rfl rfl) rfl rfl rfl ?_
                refine wlgv (op_pickT (lt_ rfl) rfl rfl) rfl rfl rfl ?_
                refine wlv (op_pickF (lt_ rfl) rfl rfl) rfl ?_
                refine wlv (op_move (lt_ rfl) rfl) rfl ?_
                refine WL.split (t := 204) rfl (fun g204 => ?_) (fun g204 => ?_)
                ·
                  exfalso; omega
                ·
                  refine wlgv (op_move (lt_ rfl) rfl) rfl rfl rfl ?_
                  refine wlgx (op_call (f17_spec bk bd J7 Aj7 rs7.length cj7 (by omega)) ca17 (lt_ rfl) rfl) rfl rfl rfl ?_
                  rintro _ _
                  refine wlgv (op_move (lt_ rfl) rfl) rfl rfl rfl ?_
                  refine wlgv (op_lss (lt_ rfl) rfl rfl) rfl rfl rfl ?_
                  refine wlv (op_pickF (lt_ rfl) rfl rfl) rfl ?_
                  refine wlv (op_move (lt_ rfl) rfl) rfl ?_
                  refine WL.split (t := 210) rfl (fun g210 => ?_) (fun g210 => ?_)
                  ·
                    exfalso; omega
                  ·
                    refine wlgv (op_move (lt_ rfl) rfl) rfl rfl rfl ?_
                    refine wlgv (op_len Try.underlying33 (lt_ rfl) rfl) rfl rfl rfl ?_
                    refine wlgv (op_move (lt_ rfl) rfl) rfl rfl rfl ?_
                    refine wlgx (op_call (f17_spec bk bd J7 Aj7 rs7.length cj7 (by omega)) ca17 (lt_ rfl) rfl) rfl rfl rfl ?_
                    rintro _ _
                    refine wlgv (op_move (lt_ rfl) rfl) rfl rfl rfl ?_
                    refine wlgx (op_call (f18_spec bk bd J7 Aj7 rs7.length cj7) ca18 (lt_ rfl) rfl) rfl rfl rfl ?_
                    rintro _ _
                    refine wlgv (op_sub (lt_ rfl) rfl rfl (by omega)) rfl rfl rfl ?_
                    refine wlgv (op_neq (lt_ rfl) rfl rfl) rfl rfl rfl ?_
                    refine wlv (op_pickF (lt_ rfl) rfl rfl) rfl ?_
                    refine WL.nil ?_
                    refine WX.regs (L' := [(17, _), (23, _), (24, _), (219, _)]) ?_
                    refine WX.next ?_
                    refine WC.cond rfl (fun h8 => ?_) (fun h8 => ?_)
                    ·
                      exfalso; omega
                    ·
                      refine WC.skip ?_
                      refine WX.next ?_
                      refine WC.seq ?_
                      refine WC.seq ?_
                      refine WC.region ?_
                      refine wlv (op_assign (lt_ rfl) rfl) rfl ?_
                      refine WL.nil ?_
                      refine WX.regs (L' := [(17, _), (23, _), (24, _), (26, _)]) ?_
                      refine WX.next ?_
                      refine WC.block ?_
                      refine WC.loop (X := Nat) (fun q => ys.length - q) (fun q => q ≤ ys.length) (fun q => [(17, .map (some b1)), (23, .pointer (some ⟨bk, 0, none⟩)), (24, .slice Ay ys.length cy), (26, .int .i64 (q : Int))]) (fun q => [blk bk (jcells J7 bd Aj7 rs7.length cj7) 76, own (.slice Ay ys.length cy) 49 2 ys.length (entC J7.first ys), rowsC true ys, mapC b1 (fun x => (f x).map sv), frameC w0 (MutF [])]) (0) (Nat.zero_le _) (fun a w hs => hs.sub xY xT) ?_
                      rintro i3 hi3
                      try dsimp only
                      refine WC.seq ?_
                      refine WC.seq ?_
                      refine WC.region ?_
                      refine wlv (op_move (lt_ rfl) rfl) rfl ?_
                      refine wlv (op_move (lt_ rfl) rfl) rfl ?_
                      refine wlv (op_len Try.underlying33 (lt_ rfl) rfl) rfl ?_
                      refine wlv (op_lss (lt_ rfl) rfl rfl) rfl ?_
                      refine WL.nil ?_
                      refine WX.regs (L' := [(17, _), (23, _), (24, _), (26, _), (223, _)]) ?_
                      refine WX.next ?_
                      refine WC.cond rfl (fun h9 => ?_) (fun h9 => ?_)
                      ·
                        refine WC.skip ?_
                        refine WX.next ?_
                        refine WC.seq ?_
                        refine WC.block ?_
                        refine WC.seq ?_
                        refine WC.region ?_
                        obtain ⟨z, hz⟩ : ∃ r, ys[i3]? = some r := ⟨ys[i3]'(by omega), List.getElem?_eq_getElem _⟩
                        have hze := entC_at hz J7.first
                        have hft := hfo.2.2 i3 z.s (by simp [hz])
                        refine wlv (op_move (lt_ rfl) rfl) rfl ?_
                        refine wlv (op_move (lt_ rfl) rfl) rfl ?_
                        refine wlv (op_move (lt_ rfl) rfl) rfl ?_
                        refine wlv (op_index Try.underlying33 sz49 (lt_ rfl) rfl rfl (by omega) (by omega) (by decide) xS) rfl ?_
                        refine wlv (op_fieldAddrS fo49_0 (lt_ rfl) rfl xS (by rw [entC_length]; omega)) rfl ?_
                        refine wlv (op_loadS fl3 (lt_ rfl) rfl xS (by rw [show ((i3 : Int)).toNat * 2 + 0 = i3 * 2 + 0 by omega]; exact hze.1)) rfl ?_
                        refine wlv (op_lookupOk Try.underlying37 Try.underlying3 zf9 (lt_ rfl) rfl rfl xM) rfl ?_
                        simp only [hft, Option.map_some, Option.getD_some, Option.isSome_some]
                        refine wlv (op_move (lt_ rfl) rfl) rfl ?_
                        refine wlv (op_extract (lt_ rfl) rfl rfl) rfl ?_
                        refine wlv (op_extract (lt_ rfl) rfl rfl) rfl ?_
                        refine wlv (op_assign (lt_ rfl) rfl) rfl ?_
                        refine wlv (op_assign (lt_ rfl) rfl) rfl ?_
                        refine WL.nil ?_
                        refine WX.regs (L' := [(17, _), (23, _), (24, _), (26, _), (27, _), (28, _)]) ?_
                        refine WX.next ?_
                        refine WC.seq ?_
                        refine WC.drawnH mo 999 ?_
                        refine WA.take (i := 0) rfl (by kernel_rfl) (fun _ _ _ h => h) rfl (op_move (lt_ rfl) rfl) xT ?_
                        refine WA.take (i := 1) rfl (by kernel_rfl) (fun _ _ _ h => h) rfl (op_move (lt_ rfl) rfl) xT ?_
                        refine WA.take (i := 2) rfl (by kernel_rfl) (fun _ _ _ h => h) rfl (op_index Try.underlying33 sz49 (lt_ rfl) rfl rfl (by omega) (by omega) (by decide) xS) xT ?_
                        refine WA.take (i := 3) rfl (by kernel_rfl) (fun _ _ _ h => h) rfl (op_fieldAddrS fo49_0 (lt_ rfl) rfl xS (by rw [entC_length]; omega)) xT ?_
                        refine WA.take (i := 4) rfl (by kernel_rfl) (fun _ _ _ h => h) rfl (op_loadS fl3 (lt_ rfl) rfl xS (by rw [show ((i3 : Int)).toNat * 2 + 0 = i3 * 2 + 0 by omega]; exact hze.1)) xT ?_
                        refine WA.take (i := 5) rfl (by kernel_rfl) (fun _ _ _ h => h) rfl (op_move (lt_ rfl) rfl) xT ?_
                        refine WA.take (i := 7) rfl (by kernel_rfl) (fun _ _ _ h => h) rfl (op_move (lt_ rfl) rfl) xT ?_
                        refine WA.stepx (i := 6) (by kernel_rfl) rfl rfl (op_call (f18_spec bk bd J7 Aj7 rs7.length cj7) ca18 (lt_ rfl) rfl) (fun _ r => xT) ?_
                        rintro _ _
                        refine WA.take (i := 8) rfl (by kernel_rfl) (fun _ _ _ h => h) rfl (op_add (lt_ rfl) rfl rfl (by omega)) xT ?_
                        refine WA.take (i := 9) rfl (by kernel_rfl) (fun _ _ _ h => h) rfl (op_neq (lt_ rfl) rfl rfl) xT ?_
                        refine WA.take (i := 10) rfl (by kernel_rfl) (fun _ _ _ h => h) rfl (op_move (lt_ rfl) rfl) xT ?_
                        refine WA.split (t := 246) rfl (fun g246 => ?_) (fun g246 => ?_)
                        ·
                          exact absurd rfl g246
                        ·
                          refine WA.takeG (i := 11) rfl (by kernel_rfl) (fun _ _ _ h => h) rfl rfl rfl (op_move (lt_ rfl) rfl) xT ?_
                          refine WA.takeG (i := 12) rfl (by kernel_rfl) (fun _ _ _ h => h) rfl rfl rfl (op_not (lt_ rfl) rfl) xT ?_
                          refine WA.take (i := 13) rfl (by kernel_rfl) (fun _ _ _ h => h) rfl (op_pickF (lt_ rfl) rfl rfl) xT ?_
                          refine WA.take (i := 14) rfl (by kernel_rfl) (fun _ _ _ h => h) rfl (op_move (lt_ rfl) rfl) xT ?_
                          refine WA.takeG (i := 15) rfl (by kernel_rfl) (fun _ _ _ h => h) rfl rfl rfl (op_move (lt_ rfl) rfl) xT ?_
                          refine WA.takeG (i := 16) rfl (by kernel_rfl) (fun _ _ _ h => h) rfl rfl rfl (op_move (lt_ rfl) rfl) xT ?_
                          refine WA.takeG (i := 17) rfl (by kernel_rfl) (fun _ _ _ h => h) rfl rfl rfl (op_index Try.underlying33 sz49 (lt_ rfl) rfl rfl (by omega) (by omega) (by decide) xS) xT ?_
                          refine WA.takeG (i := 18) rfl (by kernel_rfl) (fun _ _ _ h => h) rfl rfl rfl (op_fieldAddrS fo49_1 (lt_ rfl) rfl xS (by rw [entC_length]; omega)) xT ?_
                          refine WA.takeG (i := 19) rfl (by kernel_rfl) (fun _ _ _ h => h) rfl rfl rfl (op_loadS fl23 (lt_ rfl) rfl xS (by rw [show ((i3 : Int)).toNat * 2 + 1 = i3 * 2 + 1 by omega]; exact hze.2)) xT ?_
                          refine WA.takeG (i := 20) rfl (by kernel_rfl) (fun _ _ _ h => h) rfl rfl rfl (op_bytesStr Try.underlying23 Try.underlying5 Try.underlying9 (lt_ rfl) rfl ⟨rowsC true ys, xM, rowsC_get (r := z) (List.mem_of_getElem? hz)⟩) xT ?_
                          refine WA.takeG (i := 21) rfl (by kernel_rfl) (fun _ _ _ h => h) rfl rfl rfl (op_move (lt_ rfl) rfl) xT ?_
                          refine WA.takeG (i := 22) rfl (by kernel_rfl) (fun _ _ _ h => h) rfl rfl rfl (op_neqs (lt_ rfl) rfl rfl) xT ?_
                          refine WA.take (i := 23) rfl (by kernel_rfl) (fun _ _ _ h => h) rfl (op_pickF (lt_ rfl) rfl rfl) xT ?_
                          refine WA.done (by kernel_rfl) ?_
                          refine WX.regs (L' := [(17, _), (23, _), (24, _), (26, _), (259, _)]) ?_
                          refine WX.next ?_
                          refine WC.cond rfl (fun h10 => ?_) (fun h10 => ?_)
                          ·
                            exact (h10 rfl).elim
                          ·
                            refine WC.skip ?_
                            refine WX.in_normal ?_
                            refine WX.next ?_
                            refine WC.region ?_
                            refine wlv (op_move (lt_ rfl) rfl) rfl ?_
                            refine wlv (op_add (lt_ rfl) rfl rfl (by omega)) rfl ?_
                            refine wlv (op_assign (lt_ rfl) rfl) rfl ?_
                            refine WL.nil ?_
                            refine WX.regs (L' := [(17, _), (23, _), (24, _), (26, _)]) ?_
                            refine WX.meet (i3 + 1) ⟨by omega, by omega⟩ (fun a w hs => hs.sub xY xT)
                      ·
                        refine WC.exit ?_
                        refine WX.then_exit ?_
                        refine WX.then_exit ?_
                        refine WX.in_hit ?_
                        refine WX.next ?_
                        refine WC.seq ?_
                        refine WC.region ?_
                        refine wlv (op_assign (lt_ rfl) rfl) rfl ?_
                        refine WL.nil ?_
                        refine WX.regs (L' := [(12, _)]) ?_
                        refine WX.next ?_
                        refine WC.ret ?_
                        exact Fin.ret1 xI (_) (rfl) Try.results3 (.tmp rfl) xT (by simp)
              ·
                refine wlg_no rfl rfl rfl rfl rfl (by decide) ?_
                refine wlg_no rfl rfl rfl rfl rfl (by decide) ?_
                refine wlg_no rfl rfl rfl rfl rfl (by decide) ?_
                refine wlg_no rfl rfl rfl rfl rfl (by decide) ?_
                refine wlgv (op_pickF (lt_ rfl) rfl rfl) rfl rfl rfl ?_
                refine wlv (op_pickF (lt_ rfl) rfl rfl) rfl ?_
                refine wlv (op_move (lt_ rfl) rfl) rfl ?_
                refine wlgv (op_move (lt_ rfl) rfl) rfl rfl rfl ?_
                refine wlgx (op_call (f17_spec bk bd J7 Aj7 rs7.length cj7 (by omega)) ca17 (lt_ rfl) rfl) rfl rfl rfl ?_
                rintro _ _
                refine wlgv (op_move (lt_ rfl) rfl) rfl rfl rfl ?_
                refine wlgv (op_lss (lt_ rfl) rfl rfl) rfl rfl rfl ?_
                refine wlv (op_pickF (lt_ rfl) rfl rfl) rfl ?_
                refine wlv (op_move (lt_ rfl) rfl) rfl ?_
                refine WL.split (t := 210) rfl (fun g210 => ?_) (fun g210 => ?_)
                ·
                  exfalso; omega
                ·
                  refine wlgv (op_move (lt_ rfl) rfl) rfl rfl rfl ?_
                  refine wlgv (op_len Try.underlying33 (lt_ rfl) rfl) rfl rfl rfl ?_
                  refine wlgv (op_move (lt_ rfl) rfl) rfl rfl rfl ?_
                  refine wlgx (op_call (f17_spec bk bd J7 Aj7 rs7.length cj7 (by omega)) ca17 (lt_ rfl) rfl) rfl rfl rfl ?_
                  rintro _ _
                  refine wlgv (op_move (lt_ rfl) rfl) rfl rfl rfl ?_
                  refine wlgx (op_call (f18_spec bk bd J7 Aj7 rs7.length cj7) ca18 (lt_ rfl) rfl) rfl rfl rfl ?_
                  rintro _ _
                  refine wlgv (op_sub (lt_ rfl) rfl rfl (by omega)) rfl rfl rfl ?_
                  refine wlgv (op_neq (lt_ rfl) rfl rfl) rfl rfl rfl ?_
                  refine wlv (op_pickF (lt_ rfl) rfl rfl) rfl ?_
                  refine WL.nil ?_
                  refine WX.regs (L' := [(17, _), (23, _), (24, _), (219, _)]) ?_
                  refine WX.next ?_
                  refine WC.cond rfl (fun h8 => ?_) (fun h8 => ?_)
                  ·
                    exfalso; omega
                  ·
                    refine WC.skip ?_
                    refine WX.next ?_
                    refine WC.seq ?_
                    refine WC.seq ?_
                    refine WC.region ?_
                    refine wlv (op_assign (lt_ rfl) rfl) rfl ?_
                    refine WL.nil ?_
                    refine WX.regs (L' := [(17, _), (23, _), (24, _), (26, _)]) ?_
                    refine WX.next ?_
                    refine WC.block ?_
                    refine WC.loop (X := Nat) (fun q => ys.length - q) (fun q => q ≤ ys.length) (fun q => [(17, .map (some b1)), (23, .pointer (some ⟨bk, 0, none⟩)), (24, .slice Ay ys.length cy), (26, .int .i64 (q : Int))]) (fun q => [blk bk (jcells J7 bd Aj7 rs7.length cj7) 76, own (.slice Ay ys.length cy) 49 2 ys.length (entC J7.first ys), rowsC true ys, mapC b1 (fun x => (f x).map sv), frameC w0 (MutF [])]) (0) (Nat.zero_le _) (fun a w hs => hs.sub xY xT) ?_
                    rintro i3 hi3
                    try dsimp only
                    refine WC.seq ?_
                    refine WC.seq ?_
                    refine WC.region ?_
                    refine wlv (op_move (lt_ rfl) rfl) rfl ?_
                    refine wlv (op_move (lt_ rfl) rfl) rfl ?_
                    refine wlv (op_len Try.underlying33 (lt_ rfl) rfl) rfl ?_
                    refine wlv (op_lss (lt_ rfl) rfl rfl) rfl ?_
                    refine WL.nil ?_
                    refine WX.regs (L' := [(17, _), (23, _), (24, _), (26, _), (223, _)]) ?_
                    refine WX.next ?_
                    refine WC.cond rfl (fun h9 => ?_) (fun h9 => ?_)
                    ·
                      refine WC.skip ?_
                      refine WX.next ?_
                      refine WC.seq ?_
                      refine WC.block ?_
                      refine WC.seq ?_
                      refine WC.region ?_
                      obtain ⟨z, hz⟩ : ∃ r, ys[i3]? = some r := ⟨ys[i3]'(by omega), List.getElem?_eq_getElem _⟩
                      have hze := entC_at hz J7.first
                      have hft := hfo.2.2 i3 z.s (by simp [hz])
                      refine wlv (op_move (lt_ rfl) rfl) rfl ?_
                      refine wlv (op_move (lt_ rfl) rfl) rfl ?_
                      refine wlv (op_move (lt_ rfl) rfl) rfl ?_
                      refine wlv (op_index Try.underlying33 sz49 (lt_ rfl) rfl rfl (by omega) (by omega) (by decide) xS) rfl ?_
                      refine wlv (op_fieldAddrS fo49_0 (lt_ rfl) rfl xS (by rw [entC_length]; omega)) rfl ?_
                      refine wlv (op_loadS fl3 (lt_ rfl) rfl xS (by rw [show ((i3 : Int)).toNat * 2 + 0 = i3 * 2 + 0 by omega]; exact hze.1)) rfl ?_
                      refine wlv (op_lookupOk Try.underlying37 Try.underlying3 zf9 (lt_ rfl) rfl rfl xM) rfl ?_
                      simp only [hft, Option.map_some, Option.getD_some, Option.isSome_some]
                      refine wlv (op_move (lt_ rfl) rfl) rfl ?_
                      refine wlv (op_extract (lt_ rfl) rfl rfl) rfl ?_
                      refine wlv (op_extract (lt_ rfl) rfl rfl) rfl ?_
                      refine wlv (op_assign (lt_ rfl) rfl) rfl ?_
                      refine wlv (op_assign (lt_ rfl) rfl) rfl ?_
                      refine WL.nil ?_
                      refine WX.regs (L' := [(17, _), (23, _), (24, _), (26, _), (27, _), (28, _)]) ?_
                      refine WX.next ?_
                      refine WC.seq ?_
                      refine WC.drawnH mo 999 ?_
                      refine WA.take (i := 0) rfl (by kernel_rfl) (fun _ _ _ h => h) rfl (op_move (lt_ rfl) rfl) xT ?_
                      refine WA.take (i := 1) rfl (by kernel_rfl) (fun _ _ _ h => h) rfl (op_move (lt_ rfl) rfl) xT ?_
                      refine WA.take (i := 2) rfl (by kernel_rfl) (fun _ _ _ h => h) rfl (op_index Try.underlying33 sz49 (lt_ rfl) rfl rfl (by omega) (by omega) (by decide) xS) xT ?_
                      refine WA.take (i := 3) rfl (by kernel_rfl) (fun _ _ _ h => h) rfl (op_fieldAddrS fo49_0 (lt_ rfl) rfl xS (by rw [entC_length]; omega)) xT ?_
                      refine WA.take (i := 4) rfl (by kernel_rfl) (fun _ _ _ h => h) rfl (op_loadS fl3 (lt_ rfl) rfl xS (by rw [show ((i3 : Int)).toNat * 2 + 0 = i3 * 2 + 0 by omega]; exact hze.1)) xT ?_
                      refine WA.take (i := 5) rfl (by kernel_rfl) (fun _ _ _ h => h) rfl (op_move (lt_ rfl) rfl) xT ?_
                      refine WA.take (i := 7) rfl (by kernel_rfl) (fun _ _ _ h => h) rfl (op_move (lt_ rfl) rfl) xT ?_
                      refine WA.stepx (i := 6) (by kernel_rfl) rfl rfl (op_call (f18_spec bk bd J7 Aj7 rs7.length cj7) ca18 (lt_ rfl) rfl) (fun _ r => xT) ?_
                      rintro _ _
                      refine WA.take (i := 8) rfl (by kernel_rfl) (fun _ _ _ h => h) rfl (op_add (lt_ rfl) rfl rfl (by omega)) xT ?_
                      refine WA.take (i := 9) rfl (by kernel_rfl) (fun _ _ _ h => h) rfl (op_neq (lt_ rfl) rfl rfl) xT ?_
                      refine WA.take (i := 10) rfl (by kernel_rfl) (fun _ _ _ h => h) rfl (op_move (lt_ rfl) rfl) xT ?_
                      refine WA.split (t := 246) rfl (fun g246 => ?_) (fun g246 => ?_)
                      ·
                        exact absurd rfl g246
                      ·
                        refine WA.takeG (i := 11) rfl (by kernel_rfl) (fun _ _ _ h => h) rfl rfl rfl (op_move (lt_ rfl) rfl) xT ?_
                        refine WA.takeG (i := 12) rfl (by kernel_rfl) (fun _ _ _ h => h) rfl rfl rfl (op_not (lt_ rfl) rfl) xT ?_
                        refine WA.take (i := 13) rfl (by kernel_rfl) (fun _ _ _ h => h) rfl (op_pickF (lt_ rfl) rfl rfl) xT ?_
                        refine WA.take (i := 14) rfl (by kernel_rfl) (fun _ _ _ h => h) rfl (op_move (lt_ rfl) rfl) xT ?_
                        refine WA.takeG (i := 15) rfl (by kernel_rfl) (fun _ _ _ h => h) rfl rfl rfl (op_move (lt_ rfl) rfl) xT ?_
                        refine WA.takeG (i := 16) rfl (by kernel_rfl) (fun _ _ _ h => h) rfl rfl rfl (op_move (lt_ rfl) rfl) xT ?_
                        refine WA.takeG (i := 17) rfl (by kernel_rfl) (fun _ _ _ h => h) rfl rfl rfl (op_index Try.underlying33 sz49 (lt_ rfl) rfl rfl (by omega) (by omega) (by decide) xS) xT ?_
                        refine WA.takeG (i := 18) rfl (by kernel_rfl) (fun _ _ _ h => h) rfl rfl rfl (op_fieldAddrS fo49_1 (lt_ rfl) rfl xS (by rw [entC_length]; omega)) xT ?_
                        refine WA.takeG (i := 19) rfl (by kernel_rfl) (fun _ _ _ h => h) rfl rfl rfl (op_loadS fl23 (lt_ rfl) rfl xS (by rw [show ((i3 : Int)).toNat * 2 + 1 = i3 * 2 + 1 by omega]; exact hze.2)) xT ?_
                        refine WA.takeG (i := 20) rfl (by kernel_rfl) (fun _ _ _ h => h) rfl rfl rfl (op_bytesStr Try.underlying23 Try.underlying5 Try.underlying9 (lt_ rfl) rfl ⟨rowsC true ys, xM, rowsC_get (r := z) (List.mem_of_getElem? hz)⟩) xT ?_
                        refine WA.takeG (i := 21) rfl (by kernel_rfl) (fun _ _ _ h => h) rfl rfl rfl (op_move (lt_ rfl) rfl) xT ?_
                        refine WA.takeG (i := 22) rfl (by kernel_rfl) (fun _ _ _ h => h) rfl rfl rfl (op_neqs (lt_ rfl) rfl rfl) xT ?_
                        refine WA.take (i := 23) rfl (by kernel_rfl) (fun _ _ _ h => h) rfl (op_pickF (lt_ rfl) rfl rfl) xT ?_
                        refine WA.done (by kernel_rfl) ?_
                        refine WX.regs (L' := [(17, _), (23, _), (24, _), (26, _), (259, _)]) ?_
                        refine WX.next ?_
                        refine WC.cond rfl (fun h10 => ?_) (fun h10 => ?_)
                        ·
                          exact (h10 rfl).elim
                        ·
                          refine WC.skip ?_
                          refine WX.in_normal ?_
                          refine WX.next ?_
                          refine WC.region ?_
                          refine wlv (op_move (lt_ rfl) rfl) rfl ?_
                          refine wlv (op_add (lt_ rfl) rfl rfl (by omega)) rfl ?_
                          refine wlv (op_assign (lt_ rfl) rfl) rfl ?_
                          refine WL.nil ?_
                          refine WX.regs (L' := [(17, _), (23, _), (24, _), (26, _)]) ?_
                          refine WX.meet (i3 + 1) ⟨by omega, by omega⟩ (fun a w hs => hs.sub xY xT)
                    ·
                      refine WC.exit ?_
                      refine WX.then_exit ?_
                      refine WX.then_exit ?_
                      refine WX.in_hit ?_
                      refine WX.next ?_
                      refine WC.seq ?_
                      refine WC.region ?_
                      refine wlv (op_assign (lt_ rfl) rfl) rfl ?_
                      refine WL.nil ?_
                      refine WX.regs (L' := [(12, _)]) ?_
                      refine WX.next ?_
                      refine WC.ret ?_
                      exact Fin.ret1 xI (_) (rfl) Try.results3 (.tmp rfl) xT (by simp)
end Go.Proofs.Ytkjlbedebmffgaa.Sx

