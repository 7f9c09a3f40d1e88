import Derived.Test.YtkjlbedebmffgaaMh
import Derived.Test.YtkjlbedebmffgaaMn
/- Plain laws: opening after a failure. -/
set_option linter.unusedVariables false
set_option linter.unusedSimpArgs false
namespace Go.Proofs.Ytkjlbedebmffgaa.Sx
theorem meant_alike {D : Dk} {a : Int} {m : Nat} {g : Int} {S : List Sec} (hm : S.length ≤ m) (h : ∀ (i : Nat) s, i < m → Cand D (a + i) s → S[i]? = some s ∨ ¬ gof s = some g) : Alike g (D.seen a m) (S ++ (D.seen a m).drop S.length) ∧ ∀ s, ((D.seen a m).drop S.length)[0]? = some s → ¬ gof s = some g := by
  refine ⟨⟨by rw [List.length_append, List.length_drop, seen_length]; omega, fun i s hs hg => ?_⟩, fun s hs => ?_⟩
  · have hi := (List.getElem?_eq_some_iff.1 hs).1
    rw [seen_length] at hi
    rw [seen_at hi] at hs
    simp only [Option.some.injEq] at hs
    rcases h i s hi (hs ▸ cand_vis D _) with h1 | h1
    · rw [List.getElem?_append_left (List.getElem?_eq_some_iff.1 h1).1]
      exact h1
    · exact absurd hg h1
  · rw [List.getElem?_drop, Nat.add_zero] at hs
    have hi := (List.getElem?_eq_some_iff.1 hs).1
    rw [seen_length] at hi
    rw [seen_at hi] at hs
    simp only [Option.some.injEq] at hs
    rcases h S.length s hi (hs ▸ cand_vis D _) with h1 | h1
    · have := (List.getElem?_eq_some_iff.1 h1).1
      omega
    · exact h1
/-- What is found after a failure: the entries from the durable ones on, or those of an interrupted Truncate. -/
theorem Weak'.found {k : Nat} {N : Int} {D : Dk} {J : Jn} {es : List Sec} {c0 k0 : Nat} {alt : Ara} (h : Weak' k N D J es c0 k0 alt) (hN : 0 ≤ N ∧ N ≤ 800000) (hd : D.down = false) :
    D.check J.fi k = 0 ∧ ∃ g f es', pkM D J.fi k 2 = some (g, f, es') ∧ (0 ≤ g ∧ g ≤ N + 2) ∧ (0 ≤ f ∧ f ≤ N + 1000) ∧ 1 + needs es' ≤ k / 2 ∧ (∀ p ∈ es', p.length ≤ 100000) ∧
      ((∃ j, k0 ≤ j ∧ j ≤ es.length ∧ f = J.first ∧ es' = es.take j) ∨ ∃ g2, alt = some (g2, f, es')) := by
  have hk := h.geo.k
  have h8 := h.geo.k8
  have hgb := h.geo.gb
  have hfb := h.geo.fb
  have hfit := h.fit
  have hck := h.ck
  have hle := needs_le es
  have hf : Fine J.gen es := fine_pl (by omega) hfit hk h.pl
  have hal := areaC_length J.gen J.first c0 es
  obtain ⟨m1, m2⟩ := meant_alike (D := D) (a := J.base k) (m := k / 2) (g := J.gen) (S := areaC J.gen J.first c0 es) (by omega) h.A
  have hY := seen_split (D := D) (a := J.base k) (m := k / 2) (S := areaC J.gen J.first c0 (es.take k0)) (by
    rw [areaC_length]
    have := needs_append (es.take k0) (es.drop k0)
    rw [List.take_append_drop] at this
    omega) fun i s hs => h.Y i s hs _ (cand_vis D _)
  obtain ⟨j, j1, j2, j3⟩ := areaM_meant_ge (n := J.cur) (g := J.gen) (f := J.first) (c0 := c0) (k0 := k0) (es := es) hf (by omega) h.par m1 m2 hck hY
  refine ⟨check_zero h8 h.geo.fi h.geo.top hd, ?_⟩
  have htk : needs (es.take j) ≤ needs es := by
    have := needs_append (es.take j) (es.drop j)
    rw [List.take_append_drop] at this
    omega
  have hmain : (∀ g' f' es', areaM (1 - J.cur) (D.seen (J.fi + (1 - J.cur) * ((k / 2 : Nat) : Int)) (k / 2)) = some (g', f', es') → g' < J.gen) → ∃ g f es', pkM D J.fi k 2 = some (g, f, es') ∧ (0 ≤ g ∧ g ≤ N + 2) ∧ (0 ≤ f ∧ f ≤ N + 1000) ∧ 1 + needs es' ≤ k / 2 ∧ (∀ p ∈ es', p.length ≤ 100000) ∧
      ((∃ j, k0 ≤ j ∧ j ≤ es.length ∧ f = J.first ∧ es' = es.take j) ∨ ∃ g2, alt = some (g2, f, es')) := fun hlow =>
    ⟨J.gen, J.first, es.take j, pk_pick h.geo.cur j3 hlow, by omega, by omega, by omega, fun p hp => h.pl p (List.mem_of_mem_take hp), .inl ⟨j, j1, j2, rfl, rfl⟩⟩
  have hob : ∀ i : Nat, i < k / 2 → J.fi ≤ J.fi + (1 - J.cur) * ((k / 2 : Nat) : Int) + i ∧ J.fi + (1 - J.cur) * ((k / 2 : Nat) : Int) + i < J.fi + k ∧ ¬ (J.base k ≤ J.fi + (1 - J.cur) * ((k / 2 : Nat) : Int) + i ∧ J.fi + (1 - J.cur) * ((k / 2 : Nat) : Int) + i < J.base k + ((k / 2 : Nat) : Int)) := fun i hi => by
    unfold Jn.base
    rcases h.geo.cur with e | e <;> rw [e] <;> omega
  cases ho : areaM (1 - J.cur) (D.seen (J.fi + (1 - J.cur) * ((k / 2 : Nat) : Int)) (k / 2)) with
  | none => exact hmain fun g' f' es' h1 => by rw [ho] at h1; cases h1
  | some y =>
    obtain ⟨g', f', es'⟩ := y
    have hg0 := (areaM_gen ho).1
    rw [getD_of (seen_at (by omega))] at hg0
    obtain ⟨o1, o2, o3⟩ := hob 0 (by omega)
    rcases h.O _ _ g' o1 o2 o3 (cand_vis D _) hg0 with h1 | ⟨g2, f2, es2, i, ha, hi, hb⟩
    · exact hmain fun g'' f'' es'' h2 => by rw [ho] at h2; cases h2; exact h1
    · obtain ⟨a1, a2, a3, a4, a5, a6⟩ := h.al g2 f2 es2 ha
      have hf2 : Fine g2 es2 := fine_pl (by omega) a5 hk a6
      have hgg : g' = g2 := by
        have := areaC_gof (f := f2) (c0 := es2.length) hf2 _ (List.mem_of_getElem? hi)
        rw [hg0] at this
        exact Option.some.inj this
      have hle2 := needs_le es2
      obtain ⟨n1, n2⟩ := meant_alike (D := D) (a := J.fi + (1 - J.cur) * ((k / 2 : Nat) : Int)) (m := k / 2) (g := g2) (S := areaC g2 f2 es2.length es2) (by rw [areaC_length]; omega) (fun i s hi hs => by
        by_cases hgs : gof s = some g2
        · obtain ⟨p1, p2, p3⟩ := hob i hi
          rcases h.O _ s g2 p1 p2 p3 hs hgs with q1 | ⟨g3, f3, es3, i3, q1, q2, q3⟩
          · omega
          · rw [ha] at q1
            simp only [Option.some.injEq, Prod.mk.injEq] at q1
            obtain ⟨rfl, rfl, rfl⟩ := q1
            left
            rw [show i = i3 by omega]
            exact q2
        · exact .inr hgs)
      rcases areaM_meant (n := 1 - J.cur) (g := g2) (f := f2) (c0 := es2.length) (k0 := 0) (es := es2) hf2 (by omega) a1 n1 n2 (by rw [getD_of (seen_at (by omega)), hg0, hgg]) (by omega) with q | ⟨kk, q1, q2, q3⟩
      · rw [ho] at q; cases q
      · rw [List.take_of_length_le (by omega)] at q3
        have hoc : 1 - J.cur = 0 ∨ 1 - J.cur = 1 := by rcases h.geo.cur with e | e <;> rw [e] <;> decide
        have h11 : 1 - (1 - J.cur) = J.cur := by omega
        refine ⟨g2, f2, es2, pk_pick hoc q3 (fun g'' f'' es'' h2 => ?_), by omega, a4, a5, a6, .inr ⟨g2, ha⟩⟩
        rw [h11] at h2
        have : (J.gen, J.first, es.take j) = (g'', f'', es'') := Option.some.inj (j3.symm.trans h2)
        simp only [Prod.mk.injEq] at this
        omega
end Go.Proofs.Ytkjlbedebmffgaa.Sx

/- Plain laws: restart; opening again after an opening that failed. -/
set_option linter.unusedVariables false
set_option linter.unusedSimpArgs false
namespace Go.Proofs.Ytkjlbedebmffgaa.Sx
theorem Weak'.restart {k : Nat} {N : Int} {D : Dk} {J : Jn} {es : List Sec} {c0 k0 : Nat} {alt : Ara} (h : Weak' k N D J es c0 k0 alt) (cs : List UInt8) : Weak' k N (D.restart cs) J es c0 k0 alt := h.mono rfl fun _ _ => cand_restart
/-- The device's power fails, or is seen to have failed. -/
theorem Weak'.fail {k : Nat} {N : Int} {D : Dk} {J : Jn} {es : List Sec} {c0 k0 : Nat} {alt : Ara} (h : Weak' k N D J es c0 k0 alt) : Weak' k N { D with down := true } J es c0 k0 alt := h.mono rfl fun _ _ h => h
theorem Weak'.limit {k : Nat} {N : Int} {D : Dk} {J : Jn} {es : List Sec} {c0 k0 : Nat} {alt : Ara} (h : Weak' k N D J es c0 k0 alt) (a : Bool) (b : Int) : Weak' k N { D with lim := a, limit := b } J es c0 k0 alt := h.mono rfl fun _ _ h => h
/-- All generations that are seen are bounded. -/
theorem Weak'.seenB {k : Nat} {N : Int} {D : Dk} {J : Jn} {es : List Sec} {c0 k0 : Nat} {alt : Ara} (h : Weak' k N D J es c0 k0 alt) : ∀ a g', J.fi ≤ a → a < J.fi + k → gof (D.vis a).s = some g' → g' ≤ N + 2 := fun a g' h1 h2 h3 => h.B a _ g' h1 h2 (cand_vis D a) h3
/-- What the best area is, and the other one's is less. -/
theorem pk_best {D : Dk} {fi : Int} {k : Nat} {g f : Int} {es : List Sec} (h : pkM D fi k 2 = some (g, f, es)) : (g % 2 = 0 ∨ g % 2 = 1) ∧ areaM (g % 2) (D.seen (fi + g % 2 * ((k / 2 : Nat) : Int)) (k / 2)) = some (g, f, es) ∧
    ∀ g' f' es', areaM (1 - g % 2) (D.seen (fi + (1 - g % 2) * ((k / 2 : Nat) : Int)) (k / 2)) = some (g', f', es') → g' < g := by
  have h2 : g % 2 = 0 ∨ g % 2 = 1 := by omega
  refine ⟨h2, ?_⟩
  have hu : pkM D fi k 2 = pickM (pickM none (arM D fi k 0)) (arM D fi k 1) := rfl
  rw [hu] at h
  have e0 : arM D fi k 0 = areaM 0 (D.seen (fi + 0 * ((k / 2 : Nat) : Int)) (k / 2)) := rfl
  have e1 : arM D fi k 1 = areaM 1 (D.seen (fi + 1 * ((k / 2 : Nat) : Int)) (k / 2)) := rfl
  cases h0 : arM D fi k 0 with
  | none =>
    cases h1 : arM D fi k 1 with
    | none => rw [h0, h1] at h; cases h
    | some y =>
      rw [h0, h1] at h
      have hy : y = (g, f, es) := Option.some.inj h
      subst hy
      have hp := (areaM_gen (e1.symm.trans h1)).2.1
      rw [hp]
      exact ⟨e1.symm.trans h1, fun g' f' es' h3 => by rw [show (1 : Int) - 1 = 0 from rfl, ← e0, h0] at h3; cases h3⟩
  | some x =>
    have hpx := (areaM_gen (es := x.2.2) (f := x.2.1) (γ := x.1) (e0.symm.trans h0)).2.1
    cases h1 : arM D fi k 1 with
    | none =>
      rw [h0, h1] at h
      have hx : x = (g, f, es) := Option.some.inj h
      subst hx
      rw [hpx]
      exact ⟨e0.symm.trans h0, fun g' f' es' h3 => by rw [show (1 : Int) - 0 = 1 from rfl, ← e1, h1] at h3; cases h3⟩
    | some y =>
      have hpy := (areaM_gen (es := y.2.2) (f := y.2.1) (γ := y.1) (e1.symm.trans h1)).2.1
      rw [h0, h1] at h
      simp only [pickM] at h
      split at h
      · rename_i hgt
        have hy : y = (g, f, es) := Option.some.inj h
        subst hy
        rw [hpy]
        refine ⟨e1.symm.trans h1, fun g' f' es' h3 => ?_⟩
        rw [show (1 : Int) - 1 = 0 from rfl, ← e0, h0] at h3
        have := Option.some.inj h3
        subst this
        exact hgt
      · rename_i hgt
        have hx : x = (g, f, es) := Option.some.inj h
        subst hx
        rw [hpx]
        refine ⟨e0.symm.trans h0, fun g' f' es' h3 => ?_⟩
        rw [show (1 : Int) - 0 = 1 from rfl, ← e1, h1] at h3
        have := Option.some.inj h3
        subst this
        simp only [] at hgt hpx hpy ⊢
        omega
/-- An opening fails while it writes the other area: then the same entries are found again. -/
theorem found_again {k : Nat} {D D3 : Dk} {fi g f g3 : Int} {es : List Sec} (h8 : 8 ≤ k) (hk : k ≤ 1000) (hp : D.pend = []) (hpk : pkM D fi k 2 = some (g, f, es)) (hg3 : g3 % 2 = 1 - g % 2) (hg3b : 0 ≤ g3 ∧ g3 ≤ 2000000) (hf : 0 ≤ f ∧ f ≤ 2147483647) (hfit : 1 + needs es ≤ k / 2) (hpl : ∀ p ∈ es, p.length ≤ 100000)
    (hlow : ∀ a g', fi ≤ a → a < fi + k → gof (D.vis a).s = some g' → g' < g3)
    (hc : ∀ b s, Cand D3 b s → Cand D b s ∨ ∃ i : Nat, (areaS g3 f es)[i]? = some s ∧ b = fi + (1 - g % 2) * ((k / 2 : Nat) : Int) + i) :
    pkM D3 fi k 2 = some (g, f, es) ∨ pkM D3 fi k 2 = some (g3, f, es) := by
  obtain ⟨h2, hb, hlt⟩ := pk_best hpk
  have hfine : Fine g3 es := fine_pl (by omega) hfit hk hpl
  have hl3 := areaS_length g3 f es
  have hcd : ∀ b s, Cand D b s → s = (D.vis b).s := fun b s h => by rw [vis_nil hp]; exact cand_nil hp h
  -- the best area is zs it was
  have hsame : D3.seen (fi + g % 2 * ((k / 2 : Nat) : Int)) (k / 2) = D.seen (fi + g % 2 * ((k / 2 : Nat) : Int)) (k / 2) := by
    apply List.ext_getElem?
    intro i
    by_cases hi : i < k / 2
    · rw [seen_at hi, seen_at hi]
      congr 1
      rcases hc _ _ (cand_vis D3 (fi + g % 2 * ((k / 2 : Nat) : Int) + i)) with h | ⟨j, hj, hbj⟩
      · exact hcd _ _ h
      · exfalso
        have := (List.getElem?_eq_some_iff.1 hj).1
        rcases h2 with e | e <;> rw [e] at hbj <;> omega
    · rw [List.getElem?_eq_none (by rw [seen_length]; omega), List.getElem?_eq_none (by rw [seen_length]; omega)]
  have hb3 := hb
  rw [← hsame] at hb3
  have hrange : ∀ i : Nat, i < k / 2 → fi ≤ fi + (1 - g % 2) * ((k / 2 : Nat) : Int) + i ∧ fi + (1 - g % 2) * ((k / 2 : Nat) : Int) + i < fi + k := fun i hi => by
    rcases h2 with e | e <;> rw [e] <;> omega
  -- a sector of the other area
  have hoth : ∀ i : Nat, i < k / 2 → (D3.vis (fi + (1 - g % 2) * ((k / 2 : Nat) : Int) + i)).s = (D.vis (fi + (1 - g % 2) * ((k / 2 : Nat) : Int) + i)).s ∨ (areaS g3 f es)[i]? = some (D3.vis (fi + (1 - g % 2) * ((k / 2 : Nat) : Int) + i)).s := fun i hi => by
    rcases hc _ _ (cand_vis D3 (fi + (1 - g % 2) * ((k / 2 : Nat) : Int) + i)) with h | ⟨j, hj, hbj⟩
    · exact .inl (hcd _ _ h)
    · right
      rw [show i = j by omega] at hj ⊢
      exact hj
  cases ho : areaM (1 - g % 2) (D3.seen (fi + (1 - g % 2) * ((k / 2 : Nat) : Int)) (k / 2)) with
  | none => exact .inl (pk_pick h2 hb3 fun g' f' es' h3 => by rw [ho] at h3; cases h3)
  | some y =>
    obtain ⟨g', f', es'⟩ := y
    have hg0 := (areaM_gen ho).1
    rw [getD_of (seen_at (by omega))] at hg0
    rcases hoth 0 (by omega) with h0 | h0
    · -- the old head: the area was complete before
      left
      refine pk_pick h2 hb3 fun g'' f'' es'' h3 => ?_
      have hgl : g' < g3 := hlow _ g' (hrange 0 (by omega)).1 (hrange 0 (by omega)).2 (by rw [← h0]; exact hg0)
      have hal : Alike g' (D3.seen (fi + (1 - g % 2) * ((k / 2 : Nat) : Int)) (k / 2)) (D.seen (fi + (1 - g % 2) * ((k / 2 : Nat) : Int)) (k / 2)) := by
        refine ⟨by rw [seen_length, seen_length], fun i s hs hgs => ?_⟩
        have hi := (List.getElem?_eq_some_iff.1 hs).1
        rw [seen_length] at hi
        rw [seen_at hi] at hs ⊢
        simp only [Option.some.injEq] at hs
        subst hs
        rcases hoth i hi with h1 | h1
        · rw [h1]
        · have := areaC_gof (f := f) (c0 := es.length) hfine _ (List.mem_of_getElem? h1)
          rw [hgs] at this
          have := Option.some.inj this
          omega
      obtain ⟨es2, h4⟩ := areaM_stale hal ho
      rw [ho] at h3
      have := Option.some.inj h3
      simp only [Prod.mk.injEq] at this
      have h5 := hlt _ _ _ h4
      omega
    · -- the new head
      right
      have hgg : g' = g3 := by
        have := areaC_gof (f := f) (c0 := es.length) hfine _ (List.mem_of_getElem? h0)
        rw [hg0] at this
        exact Option.some.inj this
      obtain ⟨n1, n2⟩ := meant_alike (D := D3) (a := fi + (1 - g % 2) * ((k / 2 : Nat) : Int)) (m := k / 2) (g := g3) (S := areaC g3 f es.length es) (by rw [areaC_length]; omega) (fun i s hi hs => by
        rcases hc _ _ hs with h | ⟨j, hj, hbj⟩
        · right
          intro hgs
          have h1 := hcd _ _ h
          have := hlow _ g3 (hrange i hi).1 (hrange i hi).2 (by rw [← h1]; exact hgs)
          omega
        · left
          rw [show i = j by omega]
          exact hj)
      have hle := needs_le es
      rcases areaM_meant (n := 1 - g % 2) (g := g3) (f := f) (c0 := es.length) (k0 := 0) (es := es) hfine hf hg3 n1 n2 (by rw [getD_of (seen_at (by omega)), hg0, hgg]) (by omega) with q | ⟨kk, q1, q2, q3⟩
      · rw [ho] at q; cases q
      · rw [List.take_of_length_le (by omega)] at q3
        have hoc : 1 - g % 2 = 0 ∨ 1 - g % 2 = 1 := by omega
        refine pk_pick hoc q3 fun g'' f'' es'' h3 => ?_
        rw [show 1 - (1 - g % 2) = g % 2 by omega] at h3
        have := Option.some.inj (hb3.symm.trans h3)
        simp only [Prod.mk.injEq] at this
        -- the best area's head was seen
        have hgb := (areaM_gen hb).1
        rw [getD_of (seen_at (by omega))] at hgb
        have := hlow _ g (by rcases h2 with e | e <;> rw [e] <;> omega) (by rcases h2 with e | e <;> rw [e] <;> omega) hgb
        omega
end Go.Proofs.Ytkjlbedebmffgaa.Sx

/- Plain laws: what was found is opened. -/
set_option linter.unusedVariables false
set_option linter.unusedSimpArgs false
namespace Go.Proofs.Ytkjlbedebmffgaa.Sx
theorem best_open {k : Nat} {N B : Int} {D : Dk} {fi g f : Int} {es : List Sec} (h8 : 8 ≤ k) (hfi : 0 ≤ fi) (htop : fi + k ≤ D.n) (hn : D.n ≤ 1000) (hd : D.down = false) (hB : 0 ≤ B ∧ B ≤ 900000) (hv : ∀ a g', fi ≤ a → a < fi + k → gof (D.vis a).s = some g' → g' ≤ B)
    (hf : 0 ≤ f ∧ f ≤ 900000) (hfit : 1 + needs es ≤ k / 2) (hpl : ∀ p ∈ es, p.length ≤ 100000) (hN : B + 2 ≤ N ∧ f ≤ N) :
    ∃ g3, g3 % 2 = 1 - g % 2 ∧ 0 ≤ g3 ∧ g3 ≤ B + 2 ∧ (∀ a g', fi ≤ a → a < fi + k → gof (D.vis a).s = some g' → g' < g3) ∧ (changeM D (jn0 fi (k : Int) g f) f es).1.n = D.n ∧
      (((changeM D (jn0 fi (k : Int) g f) f es).2.2 = 0 ∧ (changeM D (jn0 fi (k : Int) g f) f es).2.1.first = f ∧ (changeM D (jn0 fi (k : Int) g f) f es).2.1.fi = fi ∧ (changeM D (jn0 fi (k : Int) g f) f es).1.lim = D.lim ∧ (changeM D (jn0 fi (k : Int) g f) f es).1.pend = [] ∧
          Strong k N (changeM D (jn0 fi (k : Int) g f) f es).1 (changeM D (jn0 fi (k : Int) g f) f es).2.1 es es.length es.length) ∨
       ((changeM D (jn0 fi (k : Int) g f) f es).2.2 = 28 ∧ (changeM D (jn0 fi (k : Int) g f) f es).1.down = true ∧ D.lim = true ∧
          ∀ b s, Cand (changeM D (jn0 fi (k : Int) g f) f es).1 b s → Cand D b s ∨ ∃ i : Nat, (areaS g3 f es)[i]? = some s ∧ b = fi + (1 - g % 2) * ((k / 2 : Nat) : Int) + i)) := by
  have hgeo : Geo k 900000 D (jn0 fi (k : Int) g f) := jn0_geo h8 hfi htop hn (by decide) hf
  obtain ⟨g3, g1, g2, g3b, g4, gn, gc⟩ := change_cases (k := k) (N := 900000) (B := B) hgeo hd rfl (by omega) (by omega) hv (f := f) (es := es) (by omega) hfit hpl (N' := N) hN
  refine ⟨g3, g1, g2, g3b, g4, gn, ?_⟩
  rcases gc with ⟨c1, c2, c3, c4, c5, c6, c7, c8, c9⟩ | ⟨c1, c2, c3, c4, c5⟩
  · exact .inl ⟨c1, c3, c5, c6, c7, c8⟩
  · exact .inr ⟨c1, c3, c4, c5⟩
end Go.Proofs.Ytkjlbedebmffgaa.Sx

set_option linter.unusedVariables false
set_option linter.unusedSimpArgs false
namespace Go.Proofs.Ytkjlbedebmffgaa.Sx
open Go.RowKit Go.Proofs.Ytkjlbedebmffgaa.Ty
attribute [local irreducible] blk own rd rx frameC

/-- A journal is opened after a failure. -/
theorem f14_weak (bd bm : Nat) (A : Option Addr) (c : Nat) (D : Dk) (J : Jn) {k : Nat} {N : Int} {es : List Sec} {c0 k0 : Nat} {alt : Ara} (h : Weak' k N D J es c0 k0 alt) (hN : 0 ≤ N ∧ N ≤ 800000) (hp : D.pend = []) (hd : D.down = false) (hl : D.lim = false) (fi : Int) (hfi : J.fi = fi) :
    Spec Try.prog 14 [.pointer (some ⟨bd, 0, none⟩), .int .i64 fi, .int .i64 (k : Int)] [blk bd (dcells D bm A c) 66, mapC bm (dmap D.dur), own (.slice A D.pend.length c) 84 257 D.pend.length (D.pend.flatMap wcs)] [] (R := JP × Nat × (Option Addr × Nat) × List Bs)
      (fun r => r.2.2.2.map Bs.s = r.1.rs.map Bs.s ∧ r.1.D.n = D.n ∧ r.1.D.lim = false ∧ r.1.D.pend = [] ∧ r.1.J.fi = J.fi ∧ Strong k (N + 5000) r.1.D r.1.J (r.1.rs.map Bs.s) r.1.rs.length r.1.rs.length ∧
        ((∃ j, k0 ≤ j ∧ j ≤ es.length ∧ r.1.J.first = J.first ∧ r.1.rs.map Bs.s = es.take j) ∨ ∃ g2, alt = some (g2, r.1.J.first, r.1.rs.map Bs.s)))
      (fun r => .tuple #[.pointer (some ⟨r.2.1, 0, none⟩), .slice r.2.2.1.1 r.2.2.2.length r.2.2.1.2, .int .i64 0])
      (fun r => [blk bd (dcells r.1.D bm r.1.A r.1.c) 66, mapC bm (dmap r.1.D.dur), own (.slice r.1.A r.1.D.pend.length r.1.c) 84 257 r.1.D.pend.length (r.1.D.pend.flatMap wcs), blk r.2.1 (jcells r.1.J bd r.1.Aj r.1.rs.length r.1.cj) 76, own (.slice r.1.Aj r.1.rs.length r.1.cj) 23 1 r.1.rs.length (r.1.rs.map Bs.v), rowsC true r.1.rs, own (.slice r.2.2.1.1 r.2.2.2.length r.2.2.1.2) 49 2 r.2.2.2.length (entC r.1.J.first r.2.2.2), rowsC true r.2.2.2]) := by
  subst hfi
  have hk := h.geo.k
  have hnn := h.geo.n
  obtain ⟨h1, g, f, es', h2, h3, h4, h5, h6, h7⟩ := h.found hN hd
  obtain ⟨g3, g1, g2, g3b, g4, gn, gc⟩ := best_open (k := k) (N := N + 5000) (B := N + 2) (g := g) (f := f) (es := es') h.geo.k8 h.geo.fi h.geo.top hnn hd (by omega) h.seenB (by omega) h5 h6 (by omega)
  rcases gc with ⟨c1, c2, c3, c4, c5, c6⟩ | ⟨c1, c2, c3, c4⟩
  · refine (f14_ok bd bm A c D J.fi k g f es' h1 h2 (by omega) (by omega) (fun p hp => Nat.le_trans (h6 p hp) (by decide)) (by omega) (by rw [hp]; simp only [List.length_nil]; omega) c1).conseq ?_
    rintro ⟨⟨A9, c9⟩, bj, ⟨Ae, ce⟩, rs, ⟨Ax, cx⟩, xs⟩ ⟨hq1, hq2⟩
    dsimp only at hq1 hq2
    have hlen : rs.length = es'.length := by rw [← hq1, List.length_map]
    refine ⟨(⟨(changeM D (jn0 J.fi k g f) f es').1, A9, c9, (changeM D (jn0 J.fi k g f) f es').2.1, Ae, ce, rs⟩, bj, (Ax, cx), xs), ⟨by rw [hq2, hq1], gn, by rw [c4, hl], c5, c3, ?_, ?_⟩, rfl, by rw [show (changeM D (jn0 J.fi k g f) f es').2.1.first = f from c2]; exact weak_refl _⟩
    · show Strong k (N + 5000) _ _ (rs.map Bs.s) rs.length rs.length
      rw [hq1, hlen]
      exact c6
    · show (∃ j, k0 ≤ j ∧ j ≤ es.length ∧ (changeM D (jn0 J.fi k g f) f es').2.1.first = J.first ∧ rs.map Bs.s = es.take j) ∨ ∃ g2, alt = some (g2, (changeM D (jn0 J.fi k g f) f es').2.1.first, rs.map Bs.s)
      rw [c2, hq1]
      exact h7
  · rw [hl] at c3; cases c3
end Go.Proofs.Ytkjlbedebmffgaa.Sx

set_option linter.unusedVariables false
set_option linter.unusedSimpArgs false
namespace Go.Proofs.Ytkjlbedebmffgaa.Sx
open Go.RowKit Go.Proofs.Ytkjlbedebmffgaa.Ty
attribute [local irreducible] blk own rd rx frameC

/-- An entry, with room or without, and what is there behind it. -/
theorem f27_two (bd bm bj : Nat) (A : Option Addr) (c : Nat) (D : Dk) (J : Jn) (Aj : Option Addr) (cj : Nat) (rs : List Bs) {k : Nat} {N : Int} {es : List Sec} {c0 k0 : Nat} (h : Strong k N D J es c0 k0) (hrs : rs.map Bs.s = es) (hN : 0 ≤ N ∧ N ≤ 900000) (hpd : D.pend.length ≤ 800000) (hl : D.lim = false) (Ab : Option Addr) (mb cb : Nat) (p : List UInt8) (hp : p.length = mb) (hp2 : mb ≤ 100000) :
    Spec Try.prog 27 [.pointer (some ⟨bj, 0, none⟩), .slice Ab mb cb] [blk bd (dcells D bm A c) 66, mapC bm (dmap D.dur), own (.slice A D.pend.length c) 84 257 D.pend.length (D.pend.flatMap wcs), blk bj (jcells J bd Aj rs.length cj) 76, own (.slice Aj rs.length cj) 23 1 rs.length (rs.map Bs.v), rowsC true rs] [rd (.slice Ab mb cb) 1 mb (bvs p)] (R := JP × Int × Int)
      (fun r => r.1.D.n = D.n ∧ r.1.D.lim = false ∧ r.1.D.pend.length ≤ D.pend.length + 500 ∧ r.1.J.first = J.first ∧ r.1.J.fi = J.fi ∧
        (r.2.2 = 0 ∧ r.2.1 = J.first + (es.length : Nat) ∧ r.1.rs.map Bs.s = es ++ [p] ∧ Strong k N r.1.D r.1.J (es ++ [p]) c0 k0 ∨ ¬ r.2.2 = 0 ∧ r.1.rs.map Bs.s = es ∧ Strong k N r.1.D r.1.J es c0 k0)) (fun r => .tuple #[.int .i64 r.2.1, .int .i64 r.2.2])
      (fun r => [blk bd (dcells r.1.D bm r.1.A r.1.c) 66, mapC bm (dmap r.1.D.dur), own (.slice r.1.A r.1.D.pend.length r.1.c) 84 257 r.1.D.pend.length (r.1.D.pend.flatMap wcs), blk bj (jcells r.1.J bd r.1.Aj r.1.rs.length r.1.cj) 76, own (.slice r.1.Aj r.1.rs.length r.1.cj) 23 1 r.1.rs.length (r.1.rs.map Bs.v), rowsC true r.1.rs]) := by
  by_cases hf : 1 + needs es + need mb ≤ k / 2
  · refine (f27_live bd bm bj A c D J Aj cj rs h hrs hN hpd hl Ab mb cb p hp hp2 hf).conseq ?_
    rintro q ⟨h1, h2, h3, h4, h5, h6, h7, h8, h9⟩
    exact ⟨(q, J.first + (es.length : Nat), 0), ⟨h2, h3, h4, h5, h6, .inl ⟨rfl, rfl, h1, h9⟩⟩, rfl, weak_refl _⟩
  · refine (f27_full bd bm bj A c D J Aj cj rs h hrs hN hpd Ab mb cb p hp hp2 (by omega)).conseq ?_
    rintro ⟨qD, qA, qc, qJ, qAj, qcj, qrs⟩ ⟨h1, h2, h3⟩
    dsimp only at h1 h2 h3
    subst h2
    subst h3
    exact ⟨(⟨qD, qA, qc, qJ, qAj, qcj, qrs⟩, 0, 9), ⟨rfl, hl, by simp only []; omega, rfl, rfl, .inr ⟨by simp only []; decide, h1, h⟩⟩, rfl, weak_refl _⟩
theorem take_get {α : Type} {l m : List α} {j i : Nat} {x : α} (h : l = m.take j) (hi : l[i]? = some x) : m[i]? = some x := by
  rw [h, List.getElem?_take] at hi
  split at hi
  · exact hi
  · cases hi
theorem map_step {f : Int → Option Sec} {n : Int} {ys : List Bs} {i : Nat} {y : Bs} (h : ∀ j, j < i → ∀ y, ys[j]? = some y → f (n + j) = some y.s) (hy : ys[i]? = some y) : ∀ j, j < i + 1 → ∀ z, ys[j]? = some z → fput f (n + i) y.s (n + j) = some z.s := by
  intro j hj z hz
  unfold fput
  by_cases e : j = i
  · subst e
    rw [hy] at hz
    rw [if_pos rfl, Option.some.inj hz]
  · rw [if_neg (by omega)]
    exact h j (by omega) z hz
/-- Restart, and what is known then. -/
theorem f23_weak (bd bm : Nat) (A : Option Addr) (c : Nat) (D : Dk) {k : Nat} {N : Int} {J : Jn} {es : List Sec} {c0 k0 : Nat} {alt : Ara} (h : Weak' k N D J es c0 k0 alt) (hd : D.down = true) (hpd : D.pend.length ≤ 800000) (Ac : Option Addr) (m cc : Nat) (cs : List UInt8) (hm : (fatesM cs).length = m) :
    Spec Try.prog 23 [.pointer (some ⟨bd, 0, none⟩), .slice Ac m cc] [blk bd (dcells D bm A c) 66, mapC bm (dmap D.dur), own (.slice A D.pend.length c) 84 257 D.pend.length (D.pend.flatMap wcs)] [rd (.slice Ac m cc) 1 m (bvs (fatesM cs))] (R := Dk × Option Addr × Nat)
      (fun q => Weak' k N q.1 J es c0 k0 alt ∧ q.1.pend = [] ∧ q.1.down = false ∧ q.1.lim = false ∧ q.1.n = D.n) (fun _ => .int .i64 0) (fun q => [blk bd (dcells q.1 bm q.2.1 q.2.2) 66, mapC bm (dmap q.1.dur), own (.slice q.2.1 q.1.pend.length q.2.2) 84 257 q.1.pend.length (q.1.pend.flatMap wcs)]) := by
  refine (f23_spec bd bm A c D Ac m cc (fatesM cs) hm (fatesM_ok cs) hd (by omega)).conseq ?_
  rintro _ _
  exact ⟨(D.restart (fatesM cs), none, 0), ⟨h.restart _, rfl, rfl, rfl, rfl⟩, rfl, weak_refl _⟩
set_option maxHeartbeats 400000 in
set_option maxRecDepth 10000 in
theorem f8_spec (s : UInt8) (A AC A2_ AL : Option Addr) (M c mC cC M2 c2_ mL cL : Nat) (l l2 : List OpR) (cs ls : List UInt8) (hM : l.length = M) (hM2 : l2.length = M2) (hmC : cs.length = mC) (hmL : ls.length = mL) (hln : ∀ o ∈ l, o.n < 65536) (hln2 : ∀ o ∈ l2, o.n < 65536) :
    Spec Try.prog 8 [bv s, .slice A M c, .slice AC mC cC, .slice A2_ M2 c2_, .slice AL mL cL] [] [rd (.slice A M c) 4 M (l.flatMap OpR.cells), rd (.slice AC mC cC) 1 mC (bvs cs), rd (.slice A2_ M2 c2_) 4 M2 (l2.flatMap OpR.cells), rd (.slice AL mL cL) 1 mL (bvs ls)] (R := Bool) (fun b => b = true) (fun b => .bool b) (fun _ => []) := by
  have hk := sizeM_le s
  refine Spec.intro Try.func8 Try.ntmps8 rfl (by simp) (by simp) fun w0 => ?_
  refine WC.seq ?_
  refine WC.region ?_
  refine wlv (op_assign (lt_ rfl) rfl) rfl ?_
  refine WL.nil ?_
  refine WX.regs (L' := [(0, _), (1, _), (2, _), (3, _), (4, _)]) ?_
  refine WX.next ?_
  refine WC.seq ?_
  refine WC.seq ?_
  refine WC.region ?_
  refine wlx (op_call (f9_spec) ca9 (lt_ rfl) rfl) rfl ?_
  rintro _ _
  refine wlv (op_not (lt_ rfl) rfl) rfl ?_
  refine wlv (op_move (lt_ rfl) rfl) rfl ?_
  refine wlgv (op_move (lt_ rfl) rfl) rfl rfl rfl ?_
  refine wlgx (op_call (f10_spec A M c l hM) ca10 (lt_ rfl) rfl) rfl rfl rfl ?_
  rintro f1 hf1
  refine wlgv (op_not (lt_ rfl) rfl) rfl rfl rfl ?_
  refine wlv (op_pickF (lt_ rfl) rfl rfl) rfl ?_
  refine wlv (op_move (lt_ rfl) rfl) rfl ?_
  refine WL.splitb (t := 37) rfl (fun g37 => ?_) (fun g37 => ?_)
  ·
    refine wlg_no rfl rfl rfl rfl rfl (by decide) ?_
    refine wlg_no rfl rfl rfl rfl rfl (by decide) ?_
    refine wlg_no rfl rfl rfl rfl rfl (by decide) ?_
    refine wlv (op_pickT (lt_ rfl) rfl rfl) rfl ?_
    refine wlv (op_move (lt_ rfl) rfl) rfl ?_
    refine wlg_no rfl rfl rfl rfl rfl (by decide) ?_
    refine wlg_no rfl rfl rfl rfl rfl (by decide) ?_
    refine wlg_no rfl rfl rfl rfl rfl (by decide) ?_
    refine wlv (op_pickT (lt_ rfl) rfl rfl) rfl ?_
    refine wlv (op_move (lt_ rfl) rfl) rfl ?_
    refine wlg_no rfl rfl rfl rfl rfl (by decide) ?_
    refine wlg_no rfl rfl rfl rfl rfl (by decide) ?_
    refine wlg_no rfl rfl rfl rfl rfl (by decide) ?_
    refine wlv (op_pickT (lt_ rfl) rfl rfl) rfl ?_
    refine wlv (op_move (lt_ rfl) rfl) rfl ?_
    refine wlg_no rfl rfl rfl rfl rfl (by decide) ?_
    refine wlg_no rfl rfl rfl rfl rfl (by decide) ?_
    refine wlg_no rfl rfl rfl rfl rfl (by decide) ?_
    refine wlv (op_pickT (lt_ rfl) rfl rfl) rfl ?_
    refine WL.nil ?_
    refine WX.regs (L' := [(0, _), (1, _), (2, _), (3, _), (4, _), (56, _)]) ?_
    refine WX.next ?_
    refine WC.condT rfl ?_
    refine WC.seq ?_
    refine WC.region ?_
    refine wlx (op_call (f9_spec) ca9 (lt_ rfl) rfl) rfl ?_
    rintro _ _
    refine wlv (op_assign (lt_ rfl) rfl) rfl ?_
    refine WL.nil ?_
    refine WX.regs (L' := [(10, _)]) ?_
    refine WX.next ?_
    refine WC.ret ?_
    refine WX.then_ret ?_
    exact Fin.ret1 (by first | exact .inl rfl | exact .inr rfl) (_) (rfl) Try.results8 (.tmp rfl) (by repeat (first | exact Takes.nil | exact Take.here | apply Takes.cons | apply Take.there)) (by simp)
  ·
    refine wlgv (op_move (lt_ rfl) rfl) rfl rfl rfl ?_
    refine wlgx (op_call (f10_spec A2_ M2 c2_ l2 hM2) ca10 (lt_ rfl) rfl) rfl rfl rfl ?_
    rintro f2 hf2
    refine wlgv (op_not (lt_ rfl) rfl) rfl rfl rfl ?_
    refine wlv (op_pickF (lt_ rfl) rfl rfl) rfl ?_
    refine wlv (op_move (lt_ rfl) rfl) rfl ?_
    refine WL.splitb (t := 42) rfl (fun g42 => ?_) (fun g42 => ?_)
    ·
      refine wlg_no rfl rfl rfl rfl rfl (by decide) ?_
      refine wlg_no rfl rfl rfl rfl rfl (by decide) ?_
      refine wlg_no rfl rfl rfl rfl rfl (by decide) ?_
      refine wlv (op_pickT (lt_ rfl) rfl rfl) rfl ?_
      refine wlv (op_move (lt_ rfl) rfl) rfl ?_
      refine wlg_no rfl rfl rfl rfl rfl (by decide) ?_
      refine wlg_no rfl rfl rfl rfl rfl (by decide) ?_
      refine wlg_no rfl rfl rfl rfl rfl (by decide) ?_
      refine wlv (op_pickT (lt_ rfl) rfl rfl) rfl ?_
      refine wlv (op_move (lt_ rfl) rfl) rfl ?_
      refine wlg_no rfl rfl rfl rfl rfl (by decide) ?_
      refine wlg_no rfl rfl rfl rfl rfl (by decide) ?_
      refine wlg_no rfl rfl rfl rfl rfl (by decide) ?_
      refine wlv (op_pickT (lt_ rfl) rfl rfl) rfl ?_
      refine WL.nil ?_
      refine WX.regs (L' := [(0, _), (1, _), (2, _), (3, _), (4, _), (56, _)]) ?_
      refine WX.next ?_
      refine WC.condT rfl ?_
      refine WC.seq ?_
      refine WC.region ?_
      refine wlx (op_call (f9_spec) ca9 (lt_ rfl) rfl) rfl ?_
      rintro _ _
      refine wlv (op_assign (lt_ rfl) rfl) rfl ?_
      refine WL.nil ?_
      refine WX.regs (L' := [(10, _)]) ?_
      refine WX.next ?_
      refine WC.ret ?_
      refine WX.then_ret ?_
      exact Fin.ret1 (by first | exact .inl rfl | exact .inr rfl) (_) (rfl) Try.results8 (.tmp rfl) (by repeat (first | exact Takes.nil | exact Take.here | apply Takes.cons | apply Take.there)) (by simp)
    ·
      refine wlgv (op_move (lt_ rfl) rfl) rfl rfl rfl ?_
      refine wlgv (op_len Try.underlying22 (lt_ rfl) rfl) rfl rfl rfl ?_
      refine wlgv (op_gtr (lt_ rfl) rfl rfl) rfl rfl rfl ?_
      refine wlv (op_pickF (lt_ rfl) rfl rfl) rfl ?_
      refine wlv (op_move (lt_ rfl) rfl) rfl ?_
      refine WL.split (t := 47) rfl (fun g47 => ?_) (fun g47 => ?_)
      ·
        refine wlg_no rfl rfl rfl rfl rfl (by decide) ?_
        refine wlg_no rfl rfl rfl rfl rfl (by decide) ?_
        refine wlg_no rfl rfl rfl rfl rfl (by decide) ?_
        refine wlv (op_pickT (lt_ rfl) rfl rfl) rfl ?_
        refine wlv (op_move (lt_ rfl) rfl) rfl ?_
        refine wlg_no rfl rfl rfl rfl rfl (by decide) ?_
        refine wlg_no rfl rfl rfl rfl rfl (by decide) ?_
        refine wlg_no rfl rfl rfl rfl rfl (by decide) ?_
        refine wlv (op_pickT (lt_ rfl) rfl rfl) rfl ?_
        refine WL.nil ?_
        refine WX.regs (L' := [(0, _), (1, _), (2, _), (3, _), (4, _), (56, _)]) ?_
        refine WX.next ?_
        refine WC.condT rfl ?_
        refine WC.seq ?_
        refine WC.region ?_
        refine wlx (op_call (f9_spec) ca9 (lt_ rfl) rfl) rfl ?_
        rintro _ _
        refine wlv (op_assign (lt_ rfl) rfl) rfl ?_
        refine WL.nil ?_
        refine WX.regs (L' := [(10, _)]) ?_
        refine WX.next ?_
        refine WC.ret ?_
        refine WX.then_ret ?_
        exact Fin.ret1 (by first | exact .inl rfl | exact .inr rfl) (_) (rfl) Try.results8 (.tmp rfl) (by repeat (first | exact Takes.nil | exact Take.here | apply Takes.cons | apply Take.there)) (by simp)
      ·
        refine wlgv (op_move (lt_ rfl) rfl) rfl rfl rfl ?_
        refine wlgv (op_len Try.underlying23 (lt_ rfl) rfl) rfl rfl rfl ?_
        refine wlgv (op_gtr (lt_ rfl) rfl rfl) rfl rfl rfl ?_
        refine wlv (op_pickF (lt_ rfl) rfl rfl) rfl ?_
        refine wlv (op_move (lt_ rfl) rfl) rfl ?_
        refine WL.split (t := 52) rfl (fun g52 => ?_) (fun g52 => ?_)
        ·
          refine wlg_no rfl rfl rfl rfl rfl (by decide) ?_
          refine wlg_no rfl rfl rfl rfl rfl (by decide) ?_
          refine wlg_no rfl rfl rfl rfl rfl (by decide) ?_
          refine wlv (op_pickT (lt_ rfl) rfl rfl) rfl ?_
          refine WL.nil ?_
          refine WX.regs (L' := [(0, _), (1, _), (2, _), (3, _), (4, _), (56, _)]) ?_
          refine WX.next ?_
          refine WC.condT rfl ?_
          refine WC.seq ?_
          refine WC.region ?_
          refine wlx (op_call (f9_spec) ca9 (lt_ rfl) rfl) rfl ?_
          rintro _ _
          refine wlv (op_assign (lt_ rfl) rfl) rfl ?_
          refine WL.nil ?_
          refine WX.regs (L' := [(10, _)]) ?_
          refine WX.next ?_
          refine WC.ret ?_
          refine WX.then_ret ?_
          exact Fin.ret1 (by first | exact .inl rfl | exact .inr rfl) (_) (rfl) Try.results8 (.tmp rfl) (by repeat (first | exact Takes.nil | exact Take.here | apply Takes.cons | apply Take.there)) (by simp)
        ·
          refine wlgv (op_move (lt_ rfl) rfl) rfl rfl rfl ?_
          refine wlgv (op_len Try.underlying23 (lt_ rfl) rfl) rfl rfl rfl ?_
          refine wlgv (op_gtr (lt_ rfl) rfl rfl) rfl rfl rfl ?_
          refine wlv (op_pickF (lt_ rfl) rfl rfl) rfl ?_
          refine WL.nil ?_
          refine WX.regs (L' := [(0, _), (1, _), (2, _), (3, _), (4, _), (56, _)]) ?_
          refine WX.next ?_
          refine WC.cond rfl (fun h1 => ?_) (fun h1 => ?_)
          ·
            refine WC.seq ?_
            refine WC.region ?_
            refine wlx (op_call (f9_spec) ca9 (lt_ rfl) rfl) rfl ?_
            rintro _ _
            refine wlv (op_assign (lt_ rfl) rfl) rfl ?_
            refine WL.nil ?_
            refine WX.regs (L' := [(10, _)]) ?_
            refine WX.next ?_
            refine WC.ret ?_
            refine WX.then_ret ?_
            exact Fin.ret1 (by first | exact .inl rfl | exact .inr rfl) (_) (rfl) Try.results8 (.tmp rfl) (by repeat (first | exact Takes.nil | exact Take.here | apply Takes.cons | apply Take.there)) (by simp)
          ·
            have hfit1 := hf1.1 (by cases f1 <;> simp_all)
            have hM30 := hfit1.1
            refine WC.skip ?_
            refine WX.next ?_
            refine WC.seq ?_
            refine WC.region ?_
            refine wlx (op_call (f11_spec 48 (by omega)) ca11 (lt_ rfl) rfl) rfl ?_
            rintro ⟨bd, bm⟩ _
            refine wlv (op_move (lt_ rfl) rfl) rfl ?_
            refine wlv (op_extract (lt_ rfl) rfl rfl) rfl ?_
            refine wlv (op_extract (lt_ rfl) rfl rfl) rfl ?_
            refine wlv (op_assign (lt_ rfl) rfl) rfl ?_
            refine wlv (op_assign (lt_ rfl) rfl) rfl ?_
            refine WL.nil ?_
            refine WX.regs (L' := [(0, _), (1, _), (2, _), (3, _), (4, _), (11, _), (12, _)]) ?_
            refine WX.next ?_
            refine WC.seq ?_
            refine WC.seq ?_
            refine WC.region ?_
            refine wlv (op_move (lt_ rfl) rfl) rfl ?_
            refine wlv (op_neq (lt_ rfl) rfl rfl) rfl ?_
            refine wlv (op_move (lt_ rfl) rfl) rfl ?_
            refine wlgv (op_move (lt_ rfl) rfl) rfl rfl rfl ?_
            refine wlgv (op_move (lt_ rfl) rfl) rfl rfl rfl ?_
            refine wlgx (op_call (f13_spec s) ca13 (lt_ rfl) rfl) rfl rfl rfl ?_
            rintro _ _
            refine wlgx (op_call (f12_new bd bm none 0 (Dk.new 48) 3 (sizeM s) (by omega) (by omega) (by show (3 : Int) + (sizeM s : Int) ≤ 48; omega) (by decide) rfl rfl (fun a _ _ => gof_zero) (by decide)) ca12 (lt_ rfl) rfl) rfl rfl rfl ?_
            rintro ⟨D1, A1, c1⟩ ⟨hn1, hl1, hp1, ho1, J0, hj1, hj2, hj3, hs1⟩
            refine wlgv (op_neq (lt_ rfl) rfl rfl) rfl rfl rfl ?_
            refine wlv (op_pickF (lt_ rfl) rfl rfl) rfl ?_
            refine WL.nil ?_
            refine WX.regs (L' := [(0, _), (1, _), (2, _), (3, _), (4, _), (11, _), (70, _)]) ?_
            refine WX.next ?_
            refine WC.condF rfl ?_
            refine WC.skip ?_
            refine WX.next ?_
            refine WC.seq ?_
            refine WC.region ?_
            refine wlv (op_move (lt_ rfl) rfl) rfl ?_
            refine wlv (op_move (lt_ rfl) rfl) rfl ?_
            refine wlx (op_call (f13_spec s) ca13 (lt_ rfl) rfl) rfl ?_
            rintro _ _
            refine wlx (op_call (f14_live bd bm A1 c1 D1 J0 hs1 (by omega) (by rw [hp1]; decide) hl1 3 hj1) ca14 (lt_ rfl) rfl) rfl ?_
            rintro ⟨⟨D2, A2, c2, J2, Aj2, cj2, rs2⟩, bj, ⟨Ax, cx⟩, xs⟩ ⟨hr2, hx2, hn2, hl2, hp2, hf2, hfi2, hg2, ho2, hs2⟩
            dsimp only at hr2 hx2 hn2 hl2 hp2 hf2 hfi2 hg2 ho2 hs2 ⊢
            refine wlv (op_move (lt_ rfl) rfl) rfl ?_
            refine wlv (op_extract (lt_ rfl) rfl rfl) rfl ?_
            refine wlv (op_extract (lt_ rfl) rfl rfl) rfl ?_
            refine wlv (op_extract (lt_ rfl) rfl rfl) rfl ?_
            refine wlv (op_assign (lt_ rfl) rfl) rfl ?_
            refine wlv (op_assign (lt_ rfl) rfl) rfl ?_
            refine wlv (op_assign (lt_ rfl) rfl) rfl ?_
            refine WL.nil ?_
            refine WX.regs (L' := [(0, _), (1, _), (2, _), (3, _), (4, _), (11, _), (12, _), (13, _)]) ?_
            refine WX.next ?_
            refine WC.seq ?_
            refine WC.seq ?_
            refine WC.region ?_
            refine wlv (op_move (lt_ rfl) rfl) rfl ?_
            refine wlv (op_neq (lt_ rfl) rfl rfl) rfl ?_
            refine WL.nil ?_
            refine WX.regs (L' := [(0, _), (1, _), (2, _), (3, _), (4, _), (11, _), (13, _), (80, _)]) ?_
            refine WX.next ?_
            refine WC.condF rfl ?_
            refine WC.skip ?_
            refine WX.next ?_
            refine WC.seq ?_
            refine WC.seq ?_
            refine WC.region ?_
            refine wlv (op_assign (lt_ rfl) rfl) rfl ?_
            refine WL.nil ?_
            refine WX.regs (L' := [(0, _), (1, _), (2, _), (3, _), (4, _), (11, _), (13, _), (15, _)]) ?_
            refine WX.next ?_
            refine WC.block ?_
            refine WC.loop (X := JP × Nat) (fun q => M - q.2) (fun q => (∃ c0 k0, Strong (sizeM s) (1010 + 1000 * q.2) q.1.D q.1.J (q.1.rs.map Bs.s) c0 k0) ∧ q.1.D.lim = false ∧ q.1.J.fi = 3 ∧ q.1.D.pend.length ≤ 500 * q.2 ∧ q.2 ≤ M) (fun q => [(0, bv s), (1, .slice A M c), (2, .slice AC mC cC), (3, .slice A2_ M2 c2_), (4, .slice AL mL cL), (11, .pointer (some ⟨bd, 0, none⟩)), (13, .pointer (some ⟨bj, 0, none⟩)), (15, .int .i64 (q.2 : Int))]) (fun q => [blk bd (dcells q.1.D bm q.1.A q.1.c) 66, mapC bm (dmap q.1.D.dur), own (.slice q.1.A q.1.D.pend.length q.1.c) 84 257 q.1.D.pend.length (q.1.D.pend.flatMap wcs), blk bj (jcells q.1.J bd q.1.Aj q.1.rs.length q.1.cj) 76, own (.slice q.1.Aj q.1.rs.length q.1.cj) 23 1 q.1.rs.length (q.1.rs.map Bs.v), rowsC true q.1.rs, rd (.slice A M c) 4 M (l.flatMap OpR.cells), rd (.slice AC mC cC) 1 mC (bvs cs), rd (.slice A2_ M2 c2_) 4 M2 (l2.flatMap OpR.cells), rd (.slice AL mL cL) 1 mL (bvs ls), frameC w0 (MutF [])]) ((⟨D2, A2, c2, J2, Aj2, cj2, rs2⟩, 0)) (⟨⟨_, _, by rw [hr2]; exact hs2⟩, hl2, by rw [hfi2, hj1], by rw [hp2]; exact Nat.zero_le _, Nat.zero_le _⟩) (fun a w hs => hs.sub (by repeat (first | exact RS.nil | refine RS.cons (by first | rfl | exact congrArg (fun z : Int => some (Value.int .i64 z)) (by omega)) ?_)) (by repeat (first | exact Takes.nil | exact Take.here | apply Takes.cons | apply Take.there))) ?_
            rintro ⟨⟨D3, A3, c3, J3, Aj3, cj3, rs3⟩, i⟩ ⟨⟨c0, k0, hs3⟩, hl3, hfi3, hp3, hi⟩
            try dsimp only at hs3 hl3 hfi3 hp3 hi ⊢
            refine WC.seq ?_
            refine WC.seq ?_
            refine WC.region ?_
            refine wlv (op_move (lt_ rfl) rfl) rfl ?_
            refine wlv (op_move (lt_ rfl) rfl) rfl ?_
            refine wlv (op_len Try.underlying22 (lt_ rfl) rfl) rfl ?_
            refine wlv (op_lss (lt_ rfl) rfl rfl) rfl ?_
            refine WL.nil ?_
            refine WX.regs (L' := [(0, _), (1, _), (2, _), (3, _), (4, _), (11, _), (13, _), (15, _), (84, _)]) ?_
            refine WX.next ?_
            refine WC.cond rfl (fun h4 => ?_) (fun h4 => ?_)
            ·
              refine WC.skip ?_
              refine WX.next ?_
              refine WC.seq ?_
              refine WC.block ?_
              refine WC.region ?_
              refine wlv (op_move (lt_ rfl) rfl) rfl ?_
              refine wlv (op_move (lt_ rfl) rfl) rfl ?_
              refine wlv (op_move (lt_ rfl) rfl) rfl ?_
              obtain ⟨o, hoo⟩ : ∃ r, l[i]? = some r := ⟨l[i]'(by omega), List.getElem?_eq_getElem _⟩
              have ho := hln o (List.mem_of_getElem? hoo)
              have hx : ∀ j, j = i * 4 → ((l.flatMap OpR.cells).drop j).take 4 = o.cells := fun j hj => by rw [hj]; exact flat_at (f := OpR.cells) (sz := 4) (fun _ => rfl) l i o hoo
              refine wlv (op_index Try.underlying22 sz42 (lt_ rfl) rfl rfl (by omega) (by omega) (by decide) (by first | (apply Src.rd; (repeat (first | exact List.Mem.head _ | apply List.Mem.tail)); done) | (apply Src.own; (repeat (first | exact List.Mem.head _ | apply List.Mem.tail)); done) | (apply Src.rx; (repeat (first | exact List.Mem.head _ | apply List.Mem.tail)); done))) rfl ?_
              refine wlv (op_loadSN ag42 (lt_ rfl) rfl (by first | (apply Src.rd; (repeat (first | exact List.Mem.head _ | apply List.Mem.tail)); done) | (apply Src.own; (repeat (first | exact List.Mem.head _ | apply List.Mem.tail)); done) | (apply Src.rx; (repeat (first | exact List.Mem.head _ | apply List.Mem.tail)); done)) (by rw [hx _ (by omega)]; rfl) (by decide)) rfl ?_
              rw [hx _ (by omega)]
              refine wlx (op_call (f20_live bd bm bj A3 c3 D3 J3 Aj3 cj3 rs3 hs3 rfl (by omega) (by omega) hl3 o ho) ca20 (lt_ rfl) rfl) rfl ?_
              rintro ⟨⟨D4, A4, c4, J4, Aj4, cj4, rs4⟩, e⟩ ⟨es4, hr4, hn4, hl4, hp4, hfi4, ho4, ⟨k4, k5, hs4⟩, hef⟩
              dsimp only at hr4 hn4 hl4 hp4 hfi4 ho4 hs4 hef ⊢
              subst hr4
              refine WL.nil ?_
              refine WX.regs (L' := [(0, _), (1, _), (2, _), (3, _), (4, _), (11, _), (13, _), (15, _)]) ?_
              refine WX.in_normal ?_
              refine WX.next ?_
              refine WC.region ?_
              refine wlv (op_move (lt_ rfl) rfl) rfl ?_
              refine wlv (op_add (lt_ rfl) rfl rfl (by omega)) rfl ?_
              refine wlv (op_assign (lt_ rfl) rfl) rfl ?_
              refine WL.nil ?_
              refine WX.regs (L' := [(0, _), (1, _), (2, _), (3, _), (4, _), (11, _), (13, _), (15, _)]) ?_
              refine WX.meet ((⟨D4, A4, c4, J4, Aj4, cj4, rs4⟩, i + 1)) ⟨⟨⟨_, _, hs4.up (by simp only []; omega)⟩, hl4, by rw [hfi4, hfi3], by simp only []; omega, by simp only []; omega⟩, by simp only []; omega⟩ (fun a w hs => hs.sub (by repeat (first | exact RS.nil | refine RS.cons (by first | rfl | exact congrArg (fun z : Int => some (Value.int .i64 z)) (by omega)) ?_)) (by repeat (first | exact Takes.nil | exact Take.here | apply Takes.cons | apply Take.there)))
            ·
              refine WC.exit ?_
              refine WX.then_exit ?_
              refine WX.then_exit ?_
              refine WX.in_hit ?_
              refine WX.next ?_
              refine WC.seq ?_
              refine WC.region ?_
              refine wlv (op_move (lt_ rfl) rfl) rfl ?_
              refine wlx (op_call (f22_spec bd bm A3 c3 D3) ca22 (lt_ rfl) rfl) rfl ?_
              rintro _ _
              refine WL.nil ?_
              refine WX.regs (L' := [(0, _), (2, _), (3, _), (4, _), (11, _)]) ?_
              refine WX.next ?_
              refine WC.seq ?_
              refine WC.seq ?_
              refine WC.region ?_
              refine wlv (op_move (lt_ rfl) rfl) rfl ?_
              refine wlv (op_move (lt_ rfl) rfl) rfl ?_
              refine wlx (op_call (f24_spec AC mC cC cs hmC (by omega)) ca24 (lt_ rfl) rfl) rfl ?_
              rintro ⟨Af, cf⟩ _
              refine wlx (op_call (f23_weak bd bm A3 c3 { D3 with down := true } hs3.weak.fail rfl (by simp only []; omega) Af mC cf cs (by simp only [fatesM, List.length_map]; exact hmC)) ca23 (lt_ rfl) rfl) rfl ?_
              rintro ⟨D5, A5, c5⟩ ⟨hw5, hp5, hd5, hl5, hn5⟩
              dsimp only at hw5 hp5 hd5 hl5 hn5 ⊢
              refine wlv (op_neq (lt_ rfl) rfl rfl) rfl ?_
              refine WL.nil ?_
              refine WX.regs (L' := [(0, _), (3, _), (4, _), (11, _), (99, _)]) ?_
              refine WX.next ?_
              refine WC.condF rfl ?_
              refine WC.skip ?_
              refine WX.next ?_
              refine WC.seq ?_
              refine WC.region ?_
              refine wlv (op_move (lt_ rfl) rfl) rfl ?_
              refine wlv (op_move (lt_ rfl) rfl) rfl ?_
              refine wlx (op_call (f13_spec s) ca13 (lt_ rfl) rfl) rfl ?_
              rintro _ _
              refine wlx (op_call (f14_weak bd bm A5 c5 D5 J3 hw5 (by omega) hp5 hd5 hl5 3 hfi3) ca14 (lt_ rfl) rfl) rfl ?_
              rintro ⟨⟨D6, A6, c6, J6, Aj6, cj6, rs6⟩, bk, ⟨Ay, cy⟩, ys⟩ ⟨hx6, hn6, hl6, hp6, hfi6, hs6, hor6⟩
              dsimp only at hx6 hn6 hl6 hp6 hfi6 hs6 hor6 ⊢
              have hly6 : ys.length = rs6.length := by have := congrArg List.length hx6; simpa using this
              have hft6 := hs6.fit
              have hle6 := needs_le (rs6.map Bs.s)
              rw [List.length_map] at hle6
              refine wlv (op_move (lt_ rfl) rfl) rfl ?_
              refine wlv (op_extract (lt_ rfl) rfl rfl) rfl ?_
              refine wlv (op_extract (lt_ rfl) rfl rfl) rfl ?_
              refine wlv (op_extract (lt_ rfl) rfl rfl) rfl ?_
              refine wlv (op_assign (lt_ rfl) rfl) rfl ?_
              refine wlv (op_assign (lt_ rfl) rfl) rfl ?_
              refine wlv (op_assign (lt_ rfl) rfl) rfl ?_
              refine WL.nil ?_
              refine WX.regs (L' := [(0, _), (3, _), (4, _), (11, _), (16, _), (17, _), (18, _)]) ?_
              refine WX.next ?_
              refine WC.seq ?_
              refine WC.seq ?_
              refine WC.region ?_
              refine wlv (op_move (lt_ rfl) rfl) rfl ?_
              refine wlv (op_neq (lt_ rfl) rfl rfl) rfl ?_
              refine WL.nil ?_
              refine WX.regs (L' := [(0, _), (3, _), (4, _), (11, _), (16, _), (17, _), (109, _)]) ?_
              refine WX.next ?_
              refine WC.condF rfl ?_
              refine WC.skip ?_
              refine WX.next ?_
              refine WC.seq ?_
              refine WC.region ?_
              refine wl1 (op_makeMap (lt_ rfl)) rfl fun b1 => ?_
              refine wlv (op_assign (lt_ rfl) rfl) rfl ?_
              refine WL.nil ?_
              refine WX.chEq (c := mapC b1 (fun _ => none)) (mapC b1 (fun x => ((fun _ => none : Int → Option Sec) x).map sv)) (by repeat (first | exact Take.here | apply Take.there)) rfl ?_
              refine WX.regs (L' := [(0, _), (3, _), (4, _), (11, _), (16, _), (17, _), (19, _)]) ?_
              refine WX.next ?_
              refine WC.seq ?_
              refine WC.seq ?_
              refine WC.region ?_
              refine wlv (op_assign (lt_ rfl) rfl) rfl ?_
              refine WL.nil ?_
              refine WX.regs (L' := [(0, _), (3, _), (4, _), (11, _), (16, _), (17, _), (19, _), (20, _)]) ?_
              refine WX.next ?_
              refine WC.block ?_
              refine WC.loop (X := Nat × (Int → Option Sec)) (fun q => ys.length - q.1) (fun q => q.1 ≤ ys.length ∧ ∀ j, j < q.1 → ∀ y, ys[j]? = some y → q.2 (J6.first + j) = some y.s) (fun q => [(0, bv s), (3, .slice A2_ M2 c2_), (4, .slice AL mL cL), (11, .pointer (some ⟨bd, 0, none⟩)), (16, .pointer (some ⟨bk, 0, none⟩)), (17, .slice Ay ys.length cy), (19, .map (some b1)), (20, .int .i64 (q.1 : Int))]) (fun q => [blk bd (dcells D6 bm A6 c6) 66, mapC bm (dmap D6.dur), own (.slice A6 D6.pend.length c6) 84 257 D6.pend.length (D6.pend.flatMap wcs), blk bk (jcells J6 bd Aj6 rs6.length cj6) 76, own (.slice Aj6 rs6.length cj6) 23 1 rs6.length (rs6.map Bs.v), rowsC true rs6, own (.slice Ay ys.length cy) 49 2 ys.length (entC J6.first ys), rowsC true ys, mapC b1 (fun x => (q.2 x).map sv), rd (.slice A M c) 4 M (l.flatMap OpR.cells), rd (.slice AC mC cC) 1 mC (bvs cs), rd (.slice A2_ M2 c2_) 4 M2 (l2.flatMap OpR.cells), rd (.slice AL mL cL) 1 mL (bvs ls), frameC w0 (MutF [])]) ((0, fun _ => none)) (⟨Nat.zero_le _, fun j hj => by simp only [] at hj; omega⟩) (fun a w hs => hs.sub (by repeat (first | exact RS.nil | refine RS.cons (by first | rfl | exact congrArg (fun z : Int => some (Value.int .i64 z)) (by omega)) ?_)) (by repeat (first | exact Takes.nil | exact Take.here | apply Takes.cons | apply Take.there))) ?_
              rintro ⟨i, f⟩ ⟨hi, hfm⟩
              try dsimp only at hi hfm ⊢
              refine WC.seq ?_
              refine WC.seq ?_
              refine WC.region ?_
              refine wlv (op_move (lt_ rfl) rfl) rfl ?_
              refine wlv (op_move (lt_ rfl) rfl) rfl ?_
              refine wlv (op_len Try.underlying33 (lt_ rfl) rfl) rfl ?_
              refine wlv (op_lss (lt_ rfl) rfl rfl) rfl ?_
              refine WL.nil ?_
              refine WX.regs (L' := [(0, _), (3, _), (4, _), (11, _), (16, _), (17, _), (19, _), (20, _), (114, _)]) ?_
              refine WX.next ?_
              refine WC.cond rfl (fun h7 => ?_) (fun h7 => ?_)
              ·
                refine WC.skip ?_
                refine WX.next ?_
                refine WC.seq ?_
                refine WC.block ?_
                refine WC.drawnH mo 12 ?_
                obtain ⟨y, hy⟩ : ∃ r, ys[i]? = some r := ⟨ys[i]'(by omega), List.getElem?_eq_getElem _⟩
                have hye := entC_at hy J6.first
                refine WA.take (i := 0) rfl (by kernel_rfl) (fun _ _ _ h => h) rfl (op_move (lt_ rfl) rfl) (by repeat (first | exact Takes.nil | exact Take.here | apply Takes.cons | apply Take.there)) ?_
                refine WA.take (i := 1) rfl (by kernel_rfl) (fun _ _ _ h => h) rfl (op_move (lt_ rfl) rfl) (by repeat (first | exact Takes.nil | exact Take.here | apply Takes.cons | apply Take.there)) ?_
                refine WA.take (i := 2) rfl (by kernel_rfl) (fun _ _ _ h => h) rfl (op_move (lt_ rfl) rfl) (by repeat (first | exact Takes.nil | exact Take.here | apply Takes.cons | apply Take.there)) ?_
                refine WA.take (i := 3) rfl (by kernel_rfl) (fun _ _ _ h => h) rfl (op_index Try.underlying33 sz49 (lt_ rfl) rfl rfl (by omega) (by omega) (by decide) (by first | (apply Src.rd; (repeat (first | exact List.Mem.head _ | apply List.Mem.tail)); done) | (apply Src.own; (repeat (first | exact List.Mem.head _ | apply List.Mem.tail)); done) | (apply Src.rx; (repeat (first | exact List.Mem.head _ | apply List.Mem.tail)); done))) (by repeat (first | exact Takes.nil | exact Take.here | apply Takes.cons | apply Take.there)) ?_
                refine WA.take (i := 4) rfl (by kernel_rfl) (fun _ _ _ h => h) rfl (op_fieldAddrS fo49_0 (lt_ rfl) rfl (by first | (apply Src.rd; (repeat (first | exact List.Mem.head _ | apply List.Mem.tail)); done) | (apply Src.own; (repeat (first | exact List.Mem.head _ | apply List.Mem.tail)); done) | (apply Src.rx; (repeat (first | exact List.Mem.head _ | apply List.Mem.tail)); done)) (by rw [entC_length]; omega)) (by repeat (first | exact Takes.nil | exact Take.here | apply Takes.cons | apply Take.there)) ?_
                refine WA.take (i := 5) rfl (by kernel_rfl) (fun _ _ _ h => h) rfl (op_loadS fl3 (lt_ rfl) rfl (by first | (apply Src.rd; (repeat (first | exact List.Mem.head _ | apply List.Mem.tail)); done) | (apply Src.own; (repeat (first | exact List.Mem.head _ | apply List.Mem.tail)); done) | (apply Src.rx; (repeat (first | exact List.Mem.head _ | apply List.Mem.tail)); done)) (by rw [show ((i : Int)).toNat * 2 + 0 = i * 2 + 0 by omega]; exact hye.1)) (by repeat (first | exact Takes.nil | exact Take.here | apply Takes.cons | apply Take.there)) ?_
                refine WA.take (i := 6) rfl (by kernel_rfl) (fun _ _ _ h => h) rfl (op_move (lt_ rfl) rfl) (by repeat (first | exact Takes.nil | exact Take.here | apply Takes.cons | apply Take.there)) ?_
                refine WA.take (i := 7) rfl (by kernel_rfl) (fun _ _ _ h => h) rfl (op_move (lt_ rfl) rfl) (by repeat (first | exact Takes.nil | exact Take.here | apply Takes.cons | apply Take.there)) ?_
                refine WA.take (i := 8) rfl (by kernel_rfl) (fun _ _ _ h => h) rfl (op_index Try.underlying33 sz49 (lt_ rfl) rfl rfl (by omega) (by omega) (by decide) (by first | (apply Src.rd; (repeat (first | exact List.Mem.head _ | apply List.Mem.tail)); done) | (apply Src.own; (repeat (first | exact List.Mem.head _ | apply List.Mem.tail)); done) | (apply Src.rx; (repeat (first | exact List.Mem.head _ | apply List.Mem.tail)); done))) (by repeat (first | exact Takes.nil | exact Take.here | apply Takes.cons | apply Take.there)) ?_
                refine WA.take (i := 9) rfl (by kernel_rfl) (fun _ _ _ h => h) rfl (op_fieldAddrS fo49_1 (lt_ rfl) rfl (by first | (apply Src.rd; (repeat (first | exact List.Mem.head _ | apply List.Mem.tail)); done) | (apply Src.own; (repeat (first | exact List.Mem.head _ | apply List.Mem.tail)); done) | (apply Src.rx; (repeat (first | exact List.Mem.head _ | apply List.Mem.tail)); done)) (by rw [entC_length]; omega)) (by repeat (first | exact Takes.nil | exact Take.here | apply Takes.cons | apply Take.there)) ?_
                refine WA.take (i := 10) rfl (by kernel_rfl) (fun _ _ _ h => h) rfl (op_loadS fl23 (lt_ rfl) rfl (by first | (apply Src.rd; (repeat (first | exact List.Mem.head _ | apply List.Mem.tail)); done) | (apply Src.own; (repeat (first | exact List.Mem.head _ | apply List.Mem.tail)); done) | (apply Src.rx; (repeat (first | exact List.Mem.head _ | apply List.Mem.tail)); done)) (by rw [show ((i : Int)).toNat * 2 + 1 = i * 2 + 1 by omega]; exact hye.2)) (by repeat (first | exact Takes.nil | exact Take.here | apply Takes.cons | apply Take.there)) ?_
                refine WA.take (i := 11) rfl (by kernel_rfl) (fun _ _ _ h => h) rfl (op_bytesStr Try.underlying23 Try.underlying5 Try.underlying9 (lt_ rfl) rfl ⟨rowsC true ys, (by repeat (first | exact List.Mem.head _ | apply List.Mem.tail)), rowsC_get (r := y) (List.mem_of_getElem? hy)⟩) (by repeat (first | exact Takes.nil | exact Take.here | apply Takes.cons | apply Take.there)) ?_
                refine WA.stepo (G := []) (i := 12) (by kernel_rfl) rfl rfl (op_mapUpdate Try.underlying37 Try.underlying3 rfl rfl rfl (by repeat (first | exact Take.here | apply Take.there))) (fun h => absurd rfl h) ?_
                refine WA.done (by kernel_rfl) ?_
                refine WX.regs (L' := [(0, _), (3, _), (4, _), (11, _), (16, _), (17, _), (19, _), (20, _)]) ?_
                refine WX.in_normal ?_
                refine WX.next ?_
                refine WC.region ?_
                refine wlv (op_move (lt_ rfl) rfl) rfl ?_
                refine wlv (op_add (lt_ rfl) rfl rfl (by omega)) rfl ?_
                refine wlv (op_assign (lt_ rfl) rfl) rfl ?_
                refine WL.nil ?_
                refine WX.regs (L' := [(0, _), (3, _), (4, _), (11, _), (16, _), (17, _), (19, _), (20, _)]) ?_
                refine WX.chEq (c := mapC b1 (fun x => if x = J6.first + i then some (sv y.s) else (f x).map sv)) (mapC b1 (fun x => (fput f (J6.first + i) y.s x).map sv)) (by repeat (first | exact Take.here | apply Take.there)) (mapC_put ..) ?_
                refine WX.meet ((i + 1, fput f (J6.first + i) y.s)) ⟨⟨by simp only []; omega, map_step hfm hy⟩, by simp only []; omega⟩ (fun a w hs => hs.sub (by repeat (first | exact RS.nil | refine RS.cons (by first | rfl | exact congrArg (fun z : Int => some (Value.int .i64 z)) (by omega)) ?_)) (by repeat (first | exact Takes.nil | exact Take.here | apply Takes.cons | apply Take.there)))
              ·
                refine WC.exit ?_
                refine WX.then_exit ?_
                refine WX.then_exit ?_
                refine WX.in_hit ?_
                refine WX.next ?_
                refine WC.seq ?_
                refine WC.seq ?_
                refine WC.region ?_
                refine wlv (op_assign (lt_ rfl) rfl) rfl ?_
                refine WL.nil ?_
                refine WX.regs (L' := [(0, _), (3, _), (4, _), (11, _), (16, _), (17, _), (19, _), (21, _)]) ?_
                refine WX.next ?_
                refine WC.block ?_
                have htf : Told f J6.first (rs6.map Bs.s) := by
                  intro j p hj
                  rw [← hx6, List.getElem?_map] at hj
                  obtain ⟨y, hy, rfl⟩ := Option.map_eq_some_iff.1 hj
                  exact hfm j (by have := (List.getElem?_eq_some_iff.1 hy).1; omega) y hy
                refine WC.loop (X := JP × Nat × (Int → Option Sec)) (fun q => M2 - q.2.1) (fun q => Strong (sizeM s) 50000 q.1.D q.1.J (q.1.rs.map Bs.s) rs6.length rs6.length ∧ q.1.D.lim = false ∧ q.1.J.fi = 3 ∧ q.1.J.first = J6.first ∧ q.1.D.pend.length ≤ 500 * q.2.1 ∧ Told q.2.2 q.1.J.first (q.1.rs.map Bs.s) ∧ q.2.1 ≤ M2) (fun q => [(0, bv s), (3, .slice A2_ M2 c2_), (4, .slice AL mL cL), (11, .pointer (some ⟨bd, 0, none⟩)), (16, .pointer (some ⟨bk, 0, none⟩)), (17, .slice Ay ys.length cy), (19, .map (some b1)), (21, .int .i64 (q.2.1 : Int))]) (fun q => [blk bd (dcells q.1.D bm q.1.A q.1.c) 66, mapC bm (dmap q.1.D.dur), own (.slice q.1.A q.1.D.pend.length q.1.c) 84 257 q.1.D.pend.length (q.1.D.pend.flatMap wcs), blk bk (jcells q.1.J bd q.1.Aj q.1.rs.length q.1.cj) 76, own (.slice q.1.Aj q.1.rs.length q.1.cj) 23 1 q.1.rs.length (q.1.rs.map Bs.v), rowsC true q.1.rs, mapC b1 (fun x => (q.2.2 x).map sv), rd (.slice A M c) 4 M (l.flatMap OpR.cells), rd (.slice AC mC cC) 1 mC (bvs cs), rd (.slice A2_ M2 c2_) 4 M2 (l2.flatMap OpR.cells), rd (.slice AL mL cL) 1 mL (bvs ls), frameC w0 (MutF [])]) ((⟨D6, A6, c6, J6, Aj6, cj6, rs6⟩, 0, f)) (⟨hs6.up (by omega), hl6, by rw [hfi6, hfi3], rfl, by rw [hp6]; exact Nat.zero_le _, htf, Nat.zero_le _⟩) (fun a w hs => hs.sub (by repeat (first | exact RS.nil | refine RS.cons (by first | rfl | exact congrArg (fun z : Int => some (Value.int .i64 z)) (by omega)) ?_)) (by repeat (first | exact Takes.nil | exact Take.here | apply Takes.cons | apply Take.there))) ?_
                rintro ⟨⟨D7, A7, c7, J7, Aj7, cj7, rs7⟩, i2, f⟩ ⟨hs7, hl7, hfi7, hff7, hp7, ht7, hi7⟩
                try dsimp only at hs7 hl7 hfi7 hff7 hp7 ht7 hi7 ⊢
                refine WC.seq ?_
                refine WC.seq ?_
                refine WC.region ?_
                refine wlv (op_move (lt_ rfl) rfl) rfl ?_
                refine wlv (op_move (lt_ rfl) rfl) rfl ?_
                refine wlv (op_len Try.underlying22 (lt_ rfl) rfl) rfl ?_
                refine wlv (op_lss (lt_ rfl) rfl rfl) rfl ?_
                refine WL.nil ?_
                refine WX.regs (L' := [(0, _), (3, _), (4, _), (11, _), (16, _), (17, _), (19, _), (21, _), (132, _)]) ?_
                refine WX.next ?_
                refine WC.cond rfl (fun h8 => ?_) (fun h8 => ?_)
                ·
                  refine WC.skip ?_
                  refine WX.next ?_
                  refine WC.seq ?_
                  refine WC.block ?_
                  refine WC.seq ?_
                  refine WC.drawn (Hs := [rd (.slice A2_ M2 c2_) 4 M2 (l2.flatMap OpR.cells)]) mo 999 ?_
                  obtain ⟨o, hoo⟩ : ∃ r, l2[i2]? = some r := ⟨l2[i2]'(by omega), List.getElem?_eq_getElem _⟩
                  have ho := hln2 o (List.mem_of_getElem? hoo)
                  have hx : ∀ j, j = i2 * 4 → ((l2.flatMap OpR.cells).drop j).take 4 = o.cells := fun j hj => by rw [hj]; exact flat_at (f := OpR.cells) (sz := 4) (fun _ => rfl) l2 i2 o hoo
                  have hM20 : M2 ≤ 10 := by omega
                  refine WA.take (i := 0) rfl (by kernel_rfl) (fun _ _ _ h => h) rfl (op_move (lt_ rfl) rfl) (by repeat (first | exact Takes.nil | exact Take.here | apply Takes.cons | apply Take.there)) ?_
                  refine WA.take (i := 1) rfl (by kernel_rfl) (fun _ _ _ h => h) rfl (op_move (lt_ rfl) rfl) (by repeat (first | exact Takes.nil | exact Take.here | apply Takes.cons | apply Take.there)) ?_
                  refine WA.take (i := 2) rfl (by kernel_rfl) (fun _ _ _ h => h) rfl (op_move (lt_ rfl) rfl) (by repeat (first | exact Takes.nil | exact Take.here | apply Takes.cons | apply Take.there)) ?_
                  refine WA.take (i := 3) rfl (by kernel_rfl) (fun _ _ _ h => h) rfl (op_index Try.underlying22 sz42 (lt_ rfl) rfl rfl (by omega) (by omega) (by decide) (by first | (apply Src.rd; (repeat (first | exact List.Mem.head _ | apply List.Mem.tail)); done) | (apply Src.own; (repeat (first | exact List.Mem.head _ | apply List.Mem.tail)); done) | (apply Src.rx; (repeat (first | exact List.Mem.head _ | apply List.Mem.tail)); done))) (by repeat (first | exact Takes.nil | exact Take.here | apply Takes.cons | apply Take.there)) ?_
                  refine WA.take (i := 4) rfl (by kernel_rfl) (fun _ _ _ h => h) rfl (op_fieldAddrS fo42_1 (lt_ rfl) rfl (by first | (apply Src.rd; (repeat (first | exact List.Mem.head _ | apply List.Mem.tail)); done) | (apply Src.own; (repeat (first | exact List.Mem.head _ | apply List.Mem.tail)); done) | (apply Src.rx; (repeat (first | exact List.Mem.head _ | apply List.Mem.tail)); done)) (by rw [flat_len (f := OpR.cells) (sz := 4) (fun _ => rfl)]; omega)) (by repeat (first | exact Takes.nil | exact Take.here | apply Takes.cons | apply Take.there)) ?_
                  refine WA.take (i := 5) rfl (by kernel_rfl) (fun _ _ _ h => h) rfl (op_loadS fl40 (lt_ rfl) rfl (by first | (apply Src.rd; (repeat (first | exact List.Mem.head _ | apply List.Mem.tail)); done) | (apply Src.own; (repeat (first | exact List.Mem.head _ | apply List.Mem.tail)); done) | (apply Src.rx; (repeat (first | exact List.Mem.head _ | apply List.Mem.tail)); done)) ((row_get (k := 1) (hx _ (by omega)) (by decide)).trans rfl)) (by repeat (first | exact Takes.nil | exact Take.here | apply Takes.cons | apply Take.there)) ?_
                  refine WA.take (i := 6) rfl (by kernel_rfl) (fun _ _ _ h => h) rfl (op_move (lt_ rfl) rfl) (by repeat (first | exact Takes.nil | exact Take.here | apply Takes.cons | apply Take.there)) ?_
                  refine WA.take (i := 7) rfl (by kernel_rfl) (fun _ _ _ h => h) rfl (op_move (lt_ rfl) rfl) (by repeat (first | exact Takes.nil | exact Take.here | apply Takes.cons | apply Take.there)) ?_
                  refine WA.take (i := 8) rfl (by kernel_rfl) (fun _ _ _ h => h) rfl (op_index Try.underlying22 sz42 (lt_ rfl) rfl rfl (by omega) (by omega) (by decide) (by first | (apply Src.rd; (repeat (first | exact List.Mem.head _ | apply List.Mem.tail)); done) | (apply Src.own; (repeat (first | exact List.Mem.head _ | apply List.Mem.tail)); done) | (apply Src.rx; (repeat (first | exact List.Mem.head _ | apply List.Mem.tail)); done))) (by repeat (first | exact Takes.nil | exact Take.here | apply Takes.cons | apply Take.there)) ?_
                  refine WA.take (i := 9) rfl (by kernel_rfl) (fun _ _ _ h => h) rfl (op_fieldAddrS fo42_2 (lt_ rfl) rfl (by first | (apply Src.rd; (repeat (first | exact List.Mem.head _ | apply List.Mem.tail)); done) | (apply Src.own; (repeat (first | exact List.Mem.head _ | apply List.Mem.tail)); done) | (apply Src.rx; (repeat (first | exact List.Mem.head _ | apply List.Mem.tail)); done)) (by rw [flat_len (f := OpR.cells) (sz := 4) (fun _ => rfl)]; omega)) (by repeat (first | exact Takes.nil | exact Take.here | apply Takes.cons | apply Take.there)) ?_
                  refine WA.take (i := 10) rfl (by kernel_rfl) (fun _ _ _ h => h) rfl (op_loadS fl5 (lt_ rfl) rfl (by first | (apply Src.rd; (repeat (first | exact List.Mem.head _ | apply List.Mem.tail)); done) | (apply Src.own; (repeat (first | exact List.Mem.head _ | apply List.Mem.tail)); done) | (apply Src.rx; (repeat (first | exact List.Mem.head _ | apply List.Mem.tail)); done)) ((row_get (k := 2) (hx _ (by omega)) (by decide)).trans rfl)) (by repeat (first | exact Takes.nil | exact Take.here | apply Takes.cons | apply Take.there)) ?_
                  refine WA.stepx (i := 11) (by kernel_rfl) rfl rfl (op_call (f19_spec o.n ho o.b) ca19 (lt_ rfl) rfl) (fun _ r => (by repeat (first | exact Takes.nil | exact Take.here | apply Takes.cons | apply Take.there))) ?_
                  rintro bb _
                  refine WA.stepx (i := 12) (by kernel_rfl) rfl rfl (op_call (f27_two bd bm bk A7 c7 D7 J7 Aj7 cj7 rs7 hs7 rfl (by omega) (by omega) hl7 (some ⟨bb, 0, none⟩) (o.n % 1500) (o.n % 1500) (bytesM o.n o.b) (bytesM_length ..) (by omega)) ca27 (lt_ rfl) rfl) (fun _ r => (by repeat (first | exact Takes.nil | exact Take.here | apply Takes.cons | apply Take.there))) ?_
                  rintro ⟨⟨D8, A8, c8, J8, Aj8, cj8, rs8⟩, n8, e8⟩ ⟨hn8, hl8, hp8, hf8, hfi8, hor8⟩
                  dsimp only at hn8 hl8 hp8 hf8 hfi8 hor8 ⊢
                  refine WA.take (i := 13) rfl (by kernel_rfl) (fun _ _ _ h => h) rfl (op_move (lt_ rfl) rfl) (by repeat (first | exact Takes.nil | exact Take.here | apply Takes.cons | apply Take.there)) ?_
                  refine WA.take (i := 14) rfl (by kernel_rfl) (fun _ _ _ h => h) rfl (op_extract (lt_ rfl) rfl rfl) (by repeat (first | exact Takes.nil | exact Take.here | apply Takes.cons | apply Take.there)) ?_
                  refine WA.take (i := 15) rfl (by kernel_rfl) (fun _ _ _ h => h) rfl (op_extract (lt_ rfl) rfl rfl) (by repeat (first | exact Takes.nil | exact Take.here | apply Takes.cons | apply Take.there)) ?_
                  refine WA.take (i := 16) rfl (by kernel_rfl) (fun _ _ _ h => h) rfl (op_assign (lt_ rfl) rfl) (by repeat (first | exact Takes.nil | exact Take.here | apply Takes.cons | apply Take.there)) ?_
                  refine WA.take (i := 17) rfl (by kernel_rfl) (fun _ _ _ h => h) rfl (op_assign (lt_ rfl) rfl) (by repeat (first | exact Takes.nil | exact Take.here | apply Takes.cons | apply Take.there)) ?_
                  refine WA.done (by kernel_rfl) ?_
                  refine WX.regs (L' := [(0, _), (3, _), (4, _), (11, _), (16, _), (17, _), (19, _), (21, _), (22, _), (23, _)]) ?_
                  refine WX.next ?_
                  refine WC.seq ?_
                  refine WC.region ?_
                  refine wlv (op_move (lt_ rfl) rfl) rfl ?_
                  refine wlv (op_eql (lt_ rfl) rfl rfl) rfl ?_
                  refine WL.nil ?_
                  refine WX.regs (L' := [(0, _), (3, _), (4, _), (11, _), (16, _), (17, _), (19, _), (21, _), (22, _), (152, _)]) ?_
                  refine WX.next ?_
                  refine WC.cond rfl (fun h9 => ?_) (fun h9 => ?_)
                  ·
                    obtain ⟨he8, hn9, hr8, hs8⟩ := hor8.resolve_right (fun h => h.1 h9)
                    subst hn9
                    refine WC.drawnH mo 14 ?_
                    refine WA.take (i := 0) rfl (by kernel_rfl) (fun _ _ _ h => h) rfl (op_move (lt_ rfl) rfl) (by repeat (first | exact Takes.nil | exact Take.here | apply Takes.cons | apply Take.there)) ?_
                    refine WA.take (i := 1) rfl (by kernel_rfl) (fun _ _ _ h => h) rfl (op_move (lt_ rfl) rfl) (by repeat (first | exact Takes.nil | exact Take.here | apply Takes.cons | apply Take.there)) ?_
                    refine WA.take (i := 2) rfl (by kernel_rfl) (fun _ _ _ h => h) rfl (op_move (lt_ rfl) rfl) (by repeat (first | exact Takes.nil | exact Take.here | apply Takes.cons | apply Take.there)) ?_
                    refine WA.take (i := 3) rfl (by kernel_rfl) (fun _ _ _ h => h) rfl (op_move (lt_ rfl) rfl) (by repeat (first | exact Takes.nil | exact Take.here | apply Takes.cons | apply Take.there)) ?_
                    refine WA.take (i := 4) rfl (by kernel_rfl) (fun _ _ _ h => h) rfl (op_index Try.underlying22 sz42 (lt_ rfl) rfl rfl (by omega) (by omega) (by decide) (by first | (apply Src.rd; (repeat (first | exact List.Mem.head _ | apply List.Mem.tail)); done) | (apply Src.own; (repeat (first | exact List.Mem.head _ | apply List.Mem.tail)); done) | (apply Src.rx; (repeat (first | exact List.Mem.head _ | apply List.Mem.tail)); done))) (by repeat (first | exact Takes.nil | exact Take.here | apply Takes.cons | apply Take.there)) ?_
                    refine WA.take (i := 5) rfl (by kernel_rfl) (fun _ _ _ h => h) rfl (op_fieldAddrS fo42_1 (lt_ rfl) rfl (by first | (apply Src.rd; (repeat (first | exact List.Mem.head _ | apply List.Mem.tail)); done) | (apply Src.own; (repeat (first | exact List.Mem.head _ | apply List.Mem.tail)); done) | (apply Src.rx; (repeat (first | exact List.Mem.head _ | apply List.Mem.tail)); done)) (by rw [flat_len (f := OpR.cells) (sz := 4) (fun _ => rfl)]; omega)) (by repeat (first | exact Takes.nil | exact Take.here | apply Takes.cons | apply Take.there)) ?_
                    refine WA.take (i := 6) rfl (by kernel_rfl) (fun _ _ _ h => h) rfl (op_loadS fl40 (lt_ rfl) rfl (by first | (apply Src.rd; (repeat (first | exact List.Mem.head _ | apply List.Mem.tail)); done) | (apply Src.own; (repeat (first | exact List.Mem.head _ | apply List.Mem.tail)); done) | (apply Src.rx; (repeat (first | exact List.Mem.head _ | apply List.Mem.tail)); done)) ((row_get (k := 1) (hx _ (by omega)) (by decide)).trans rfl)) (by repeat (first | exact Takes.nil | exact Take.here | apply Takes.cons | apply Take.there)) ?_
                    refine WA.take (i := 7) rfl (by kernel_rfl) (fun _ _ _ h => h) rfl (op_move (lt_ rfl) rfl) (by repeat (first | exact Takes.nil | exact Take.here | apply Takes.cons | apply Take.there)) ?_
                    refine WA.take (i := 8) rfl (by kernel_rfl) (fun _ _ _ h => h) rfl (op_move (lt_ rfl) rfl) (by repeat (first | exact Takes.nil | exact Take.here | apply Takes.cons | apply Take.there)) ?_
                    refine WA.take (i := 9) rfl (by kernel_rfl) (fun _ _ _ h => h) rfl (op_index Try.underlying22 sz42 (lt_ rfl) rfl rfl (by omega) (by omega) (by decide) (by first | (apply Src.rd; (repeat (first | exact List.Mem.head _ | apply List.Mem.tail)); done) | (apply Src.own; (repeat (first | exact List.Mem.head _ | apply List.Mem.tail)); done) | (apply Src.rx; (repeat (first | exact List.Mem.head _ | apply List.Mem.tail)); done))) (by repeat (first | exact Takes.nil | exact Take.here | apply Takes.cons | apply Take.there)) ?_
                    refine WA.take (i := 10) rfl (by kernel_rfl) (fun _ _ _ h => h) rfl (op_fieldAddrS fo42_2 (lt_ rfl) rfl (by first | (apply Src.rd; (repeat (first | exact List.Mem.head _ | apply List.Mem.tail)); done) | (apply Src.own; (repeat (first | exact List.Mem.head _ | apply List.Mem.tail)); done) | (apply Src.rx; (repeat (first | exact List.Mem.head _ | apply List.Mem.tail)); done)) (by rw [flat_len (f := OpR.cells) (sz := 4) (fun _ => rfl)]; omega)) (by repeat (first | exact Takes.nil | exact Take.here | apply Takes.cons | apply Take.there)) ?_
                    refine WA.take (i := 11) rfl (by kernel_rfl) (fun _ _ _ h => h) rfl (op_loadS fl5 (lt_ rfl) rfl (by first | (apply Src.rd; (repeat (first | exact List.Mem.head _ | apply List.Mem.tail)); done) | (apply Src.own; (repeat (first | exact List.Mem.head _ | apply List.Mem.tail)); done) | (apply Src.rx; (repeat (first | exact List.Mem.head _ | apply List.Mem.tail)); done)) ((row_get (k := 2) (hx _ (by omega)) (by decide)).trans rfl)) (by repeat (first | exact Takes.nil | exact Take.here | apply Takes.cons | apply Take.there)) ?_
                    refine WA.stepx (i := 12) (by kernel_rfl) rfl rfl (op_call (f19_spec o.n ho o.b) ca19 (lt_ rfl) rfl) (fun _ r => (by repeat (first | exact Takes.nil | exact Take.here | apply Takes.cons | apply Take.there))) ?_
                    rintro bc _
                    refine WA.stepv (i := 13) (by kernel_rfl) rfl rfl (op_bytesStr (bs := bytesM o.n o.b) Try.underlying23 Try.underlying5 Try.underlying9 (lt_ rfl) rfl (Src.own (by repeat (first | exact List.Mem.head _ | apply List.Mem.tail)))) (fun _ => (by repeat (first | exact Takes.nil | exact Take.here | apply Takes.cons | apply Take.there))) ?_
                    refine WA.stepo (G := []) (i := 14) (by kernel_rfl) rfl rfl (op_mapUpdate Try.underlying37 Try.underlying3 rfl rfl rfl (by repeat (first | exact Take.here | apply Take.there))) (fun h => absurd rfl h) ?_
                    refine WA.done (by kernel_rfl) ?_
                    refine WX.regs (L' := [(0, _), (3, _), (4, _), (11, _), (16, _), (17, _), (19, _), (21, _)]) ?_
                    refine WX.in_normal ?_
                    refine WX.next ?_
                    refine WC.region ?_
                    refine wlv (op_move (lt_ rfl) rfl) rfl ?_
                    refine wlv (op_add (lt_ rfl) rfl rfl (by omega)) rfl ?_
                    refine wlv (op_assign (lt_ rfl) rfl) rfl ?_
                    refine WL.nil ?_
                    refine WX.regs (L' := [(0, _), (3, _), (4, _), (11, _), (16, _), (17, _), (19, _), (21, _)]) ?_
                    refine WX.chEq (c := mapC b1 (fun x => if x = J7.first + ((rs7.map Bs.s).length : Nat) then some (sv (bytesM o.n o.b)) else (f x).map sv)) (mapC b1 (fun x => (fput f (J7.first + ((rs7.map Bs.s).length : Nat)) (bytesM o.n o.b) x).map sv)) (by repeat (first | exact Take.here | apply Take.there)) (mapC_put ..) ?_
                    refine WX.meet ((⟨D8, A8, c8, J8, Aj8, cj8, rs8⟩, i2 + 1, fput f (J7.first + ((rs7.map Bs.s).length : Nat)) (bytesM o.n o.b))) ⟨⟨by rw [hr8]; exact hs8, hl8, by rw [hfi8, hfi7], by rw [hf8, hff7], by simp only []; omega, by show Told _ J8.first (rs8.map Bs.s); rw [hr8, hf8]; exact ht7.put _, by simp only []; omega⟩, by simp only []; omega⟩ (fun a w hs => hs.sub (by repeat (first | exact RS.nil | refine RS.cons (by first | rfl | exact congrArg (fun z : Int => some (Value.int .i64 z)) (by omega)) ?_)) (by repeat (first | exact Takes.nil | exact Take.here | apply Takes.cons | apply Take.there)))
                  ·
                    obtain ⟨hr8, hs8⟩ := (hor8.resolve_left (fun h => h9 h.1)).2
                    refine WC.skip ?_
                    refine WX.in_normal ?_
                    refine WX.next ?_
                    refine WC.region ?_
                    refine wlv (op_move (lt_ rfl) rfl) rfl ?_
                    refine wlv (op_add (lt_ rfl) rfl rfl (by omega)) rfl ?_
                    refine wlv (op_assign (lt_ rfl) rfl) rfl ?_
                    refine WL.nil ?_
                    refine WX.regs (L' := [(0, _), (3, _), (4, _), (11, _), (16, _), (17, _), (19, _), (21, _)]) ?_
                    refine WX.meet ((⟨D8, A8, c8, J8, Aj8, cj8, rs8⟩, i2 + 1, f)) ⟨⟨by rw [hr8]; exact hs8, hl8, by rw [hfi8, hfi7], by rw [hf8, hff7], by simp only []; omega, by show Told _ J8.first (rs8.map Bs.s); rw [hr8, hf8]; exact ht7, by simp only []; omega⟩, by simp only []; omega⟩ (fun a w hs => hs.sub (by repeat (first | exact RS.nil | refine RS.cons (by first | rfl | exact congrArg (fun z : Int => some (Value.int .i64 z)) (by omega)) ?_)) (by repeat (first | exact Takes.nil | exact Take.here | apply Takes.cons | apply Take.there)))
                ·
                  refine WC.exit ?_
                  refine WX.then_exit ?_
                  refine WX.then_exit ?_
                  refine WX.in_hit ?_
                  refine WX.next ?_
                  refine WC.seq ?_
                  refine WC.region ?_
                  refine wlv (op_move (lt_ rfl) rfl) rfl ?_
                  refine wlx (op_call (f22_spec bd bm A7 c7 D7) ca22 (lt_ rfl) rfl) rfl ?_
                  rintro _ _
                  refine WL.nil ?_
                  refine WX.regs (L' := [(0, _), (4, _), (11, _), (16, _), (17, _), (19, _)]) ?_
                  refine WX.next ?_
                  refine WC.seq ?_
                  refine WC.seq ?_
                  refine WC.region ?_
                  refine wlv (op_move (lt_ rfl) rfl) rfl ?_
                  refine wlv (op_move (lt_ rfl) rfl) rfl ?_
                  refine wlx (op_call (f24_spec AL mL cL ls hmL (by omega)) ca24 (lt_ rfl) rfl) rfl ?_
                  rintro ⟨Ag, cg⟩ _
                  refine wlx (op_call (f23_weak bd bm A7 c7 { D7 with down := true } hs7.weak.fail rfl (by simp only []; omega) Ag mL cg ls (by simp only [fatesM, List.length_map]; exact hmL)) ca23 (lt_ rfl) rfl) rfl ?_
                  rintro ⟨D9, A9, c9⟩ ⟨hw9, hp9, hd9, hl9, hn9⟩
                  dsimp only at hw9 hp9 hd9 hl9 hn9 ⊢
                  refine wlv (op_neq (lt_ rfl) rfl rfl) rfl ?_
                  refine WL.nil ?_
                  refine WX.regs (L' := [(0, _), (11, _), (16, _), (17, _), (19, _), (173, _)]) ?_
                  refine WX.next ?_
                  refine WC.condF rfl ?_
                  refine WC.skip ?_
                  refine WX.next ?_
                  refine WC.seq ?_
                  refine WC.region ?_
                  refine wlv (op_move (lt_ rfl) rfl) rfl ?_
                  refine wlv (op_move (lt_ rfl) rfl) rfl ?_
                  refine wlx (op_call (f13_spec s) ca13 (lt_ rfl) rfl) rfl ?_
                  rintro _ _
                  refine wlx (op_call (f14_weak bd bm A9 c9 D9 J7 hw9 (by omega) hp9 hd9 hl9 3 hfi7) ca14 (lt_ rfl) rfl) rfl ?_
                  rintro ⟨⟨D10, A10, c10, J10, Aj10, cj10, rs10⟩, bl, ⟨Az, cz⟩, zs⟩ ⟨hx10, hn10, hl10, hp10, hfi10, hs10, hor10⟩
                  dsimp only at hx10 hn10 hl10 hp10 hfi10 hs10 hor10 ⊢
                  obtain ⟨j10, hj1, hj2, hj3, hj4⟩ := hor10.resolve_right (fun ⟨_, h⟩ => by cases h)
                  have hlz : zs.length = j10 := by have := congrArg List.length (hx10.trans hj4); rw [List.length_map, List.length_take] at this; omega
                  rw [hj3]
                  have hfb7 := hs7.geo.fb
                  have hft7 := hs7.fit
                  have hle7 := needs_le (rs7.map Bs.s)
                  refine wlv (op_move (lt_ rfl) rfl) rfl ?_
                  refine wlv (op_extract (lt_ rfl) rfl rfl) rfl ?_
                  refine wlv (op_extract (lt_ rfl) rfl rfl) rfl ?_
                  refine wlv (op_extract (lt_ rfl) rfl rfl) rfl ?_
                  refine wlv (op_assign (lt_ rfl) rfl) rfl ?_
                  refine wlv (op_assign (lt_ rfl) rfl) rfl ?_
                  refine wlv (op_assign (lt_ rfl) rfl) rfl ?_
                  refine WL.nil ?_
                  refine WX.regs (L' := [(16, _), (17, _), (19, _), (25, _), (26, _)]) ?_
                  refine WX.next ?_
                  refine WC.seq ?_
                  refine WC.seq ?_
                  refine WC.region ?_
                  refine wlv (op_move (lt_ rfl) rfl) rfl ?_
                  refine wlv (op_neq (lt_ rfl) rfl rfl) rfl ?_
                  refine wlv (op_move (lt_ rfl) rfl) rfl ?_
                  refine wlgv (op_move (lt_ rfl) rfl) rfl rfl rfl ?_
                  refine wlgv (op_len Try.underlying33 (lt_ rfl) rfl) rfl rfl rfl ?_
                  refine wlgv (op_move (lt_ rfl) rfl) rfl rfl rfl ?_
                  refine wlgv (op_len Try.underlying33 (lt_ rfl) rfl) rfl rfl rfl ?_
                  refine wlgv (op_lss (lt_ rfl) rfl rfl) rfl rfl rfl ?_
                  refine wlv (op_pickF (lt_ rfl) rfl rfl) rfl ?_
                  refine WL.nil ?_
                  refine WX.regs (L' := [(16, _), (19, _), (25, _), (190, _)]) ?_
                  refine WX.next ?_
                  refine WC.cond rfl (fun h11 => ?_) (fun h11 => ?_)
                  ·
                    exact absurd h11 (by omega)
                  ·
                    refine WC.skip ?_
                    refine WX.next ?_
                    refine WC.seq ?_
                    refine WC.seq ?_
                    refine WC.region ?_
                    refine wlv (op_assign (lt_ rfl) rfl) rfl ?_
                    refine WL.nil ?_
                    refine WX.regs (L' := [(16, _), (19, _), (25, _), (27, _)]) ?_
                    refine WX.next ?_
                    refine WC.block ?_
                    refine WC.loop (X := Nat) (fun q => zs.length - q) (fun q => q ≤ zs.length) (fun q => [(16, .pointer (some ⟨bk, 0, none⟩)), (19, .map (some b1)), (25, .slice Az zs.length cz), (27, .int .i64 (q : Int))]) (fun q => [blk bk (jcells J7 bd Aj7 rs7.length cj7) 76, own (.slice Az zs.length cz) 49 2 zs.length (entC J7.first zs), rowsC true zs, mapC b1 (fun x => (f x).map sv), frameC w0 (MutF [])]) (0) (Nat.zero_le _) (fun a w hs => hs.sub (by repeat (first | exact RS.nil | refine RS.cons (by first | rfl | exact congrArg (fun z : Int => some (Value.int .i64 z)) (by omega)) ?_)) (by repeat (first | exact Takes.nil | exact Take.here | apply Takes.cons | apply Take.there))) ?_
                    rintro i3 hi3
                    try dsimp only
                    refine WC.seq ?_
                    refine WC.seq ?_
                    refine WC.region ?_
                    refine wlv (op_move (lt_ rfl) rfl) rfl ?_
                    refine wlv (op_move (lt_ rfl) rfl) rfl ?_
                    refine wlv (op_len Try.underlying33 (lt_ rfl) rfl) rfl ?_
                    refine wlv (op_lss (lt_ rfl) rfl rfl) rfl ?_
                    refine WL.nil ?_
                    refine WX.regs (L' := [(16, _), (19, _), (25, _), (27, _), (194, _)]) ?_
                    refine WX.next ?_
                    refine WC.cond rfl (fun h12 => ?_) (fun h12 => ?_)
                    ·
                      refine WC.skip ?_
                      refine WX.next ?_
                      refine WC.seq ?_
                      refine WC.block ?_
                      refine WC.seq ?_
                      refine WC.region ?_
                      obtain ⟨z, hz⟩ : ∃ r, zs[i3]? = some r := ⟨zs[i3]'(by omega), List.getElem?_eq_getElem _⟩
                      have hze := entC_at hz J7.first
                      have hft := ht7 i3 z.s (take_get (hx10.trans hj4) (by simp [hz]))
                      refine wlv (op_move (lt_ rfl) rfl) rfl ?_
                      refine wlv (op_move (lt_ rfl) rfl) rfl ?_
                      refine wlv (op_move (lt_ rfl) rfl) rfl ?_
                      refine wlv (op_index Try.underlying33 sz49 (lt_ rfl) rfl rfl (by omega) (by omega) (by decide) (by first | (apply Src.rd; (repeat (first | exact List.Mem.head _ | apply List.Mem.tail)); done) | (apply Src.own; (repeat (first | exact List.Mem.head _ | apply List.Mem.tail)); done) | (apply Src.rx; (repeat (first | exact List.Mem.head _ | apply List.Mem.tail)); done))) rfl ?_
                      refine wlv (op_fieldAddrS fo49_0 (lt_ rfl) rfl (by first | (apply Src.rd; (repeat (first | exact List.Mem.head _ | apply List.Mem.tail)); done) | (apply Src.own; (repeat (first | exact List.Mem.head _ | apply List.Mem.tail)); done) | (apply Src.rx; (repeat (first | exact List.Mem.head _ | apply List.Mem.tail)); done)) (by rw [entC_length]; omega)) rfl ?_
                      refine wlv (op_loadS fl3 (lt_ rfl) rfl (by first | (apply Src.rd; (repeat (first | exact List.Mem.head _ | apply List.Mem.tail)); done) | (apply Src.own; (repeat (first | exact List.Mem.head _ | apply List.Mem.tail)); done) | (apply Src.rx; (repeat (first | exact List.Mem.head _ | apply List.Mem.tail)); done)) (by rw [show ((i3 : Int)).toNat * 2 + 0 = i3 * 2 + 0 by omega]; exact hze.1)) rfl ?_
                      refine wlv (op_lookupOk Try.underlying37 Try.underlying3 zf9 (lt_ rfl) rfl rfl (by repeat (first | exact List.Mem.head _ | apply List.Mem.tail))) rfl ?_
                      simp only [hft, Option.map_some, Option.getD_some, Option.isSome_some]
                      refine wlv (op_move (lt_ rfl) rfl) rfl ?_
                      refine wlv (op_extract (lt_ rfl) rfl rfl) rfl ?_
                      refine wlv (op_extract (lt_ rfl) rfl rfl) rfl ?_
                      refine wlv (op_assign (lt_ rfl) rfl) rfl ?_
                      refine wlv (op_assign (lt_ rfl) rfl) rfl ?_
                      refine WL.nil ?_
                      refine WX.regs (L' := [(16, _), (19, _), (25, _), (27, _), (28, _), (29, _)]) ?_
                      refine WX.next ?_
                      refine WC.seq ?_
                      refine WC.drawnH mo 999 ?_
                      refine WA.take (i := 0) rfl (by kernel_rfl) (fun _ _ _ h => h) rfl (op_move (lt_ rfl) rfl) (by repeat (first | exact Takes.nil | exact Take.here | apply Takes.cons | apply Take.there)) ?_
                      refine WA.take (i := 1) rfl (by kernel_rfl) (fun _ _ _ h => h) rfl (op_not (lt_ rfl) rfl) (by repeat (first | exact Takes.nil | exact Take.here | apply Takes.cons | apply Take.there)) ?_
                      refine WA.take (i := 2) rfl (by kernel_rfl) (fun _ _ _ h => h) rfl (op_move (lt_ rfl) rfl) (by repeat (first | exact Takes.nil | exact Take.here | apply Takes.cons | apply Take.there)) ?_
                      refine WA.takeG (i := 3) rfl (by kernel_rfl) (fun _ _ _ h => h) rfl rfl rfl (op_move (lt_ rfl) rfl) (by repeat (first | exact Takes.nil | exact Take.here | apply Takes.cons | apply Take.there)) ?_
                      refine WA.takeG (i := 4) rfl (by kernel_rfl) (fun _ _ _ h => h) rfl rfl rfl (op_move (lt_ rfl) rfl) (by repeat (first | exact Takes.nil | exact Take.here | apply Takes.cons | apply Take.there)) ?_
                      refine WA.takeG (i := 5) rfl (by kernel_rfl) (fun _ _ _ h => h) rfl rfl rfl (op_index Try.underlying33 sz49 (lt_ rfl) rfl rfl (by omega) (by omega) (by decide) (by first | (apply Src.rd; (repeat (first | exact List.Mem.head _ | apply List.Mem.tail)); done) | (apply Src.own; (repeat (first | exact List.Mem.head _ | apply List.Mem.tail)); done) | (apply Src.rx; (repeat (first | exact List.Mem.head _ | apply List.Mem.tail)); done))) (by repeat (first | exact Takes.nil | exact Take.here | apply Takes.cons | apply Take.there)) ?_
                      refine WA.takeG (i := 6) rfl (by kernel_rfl) (fun _ _ _ h => h) rfl rfl rfl (op_fieldAddrS fo49_1 (lt_ rfl) rfl (by first | (apply Src.rd; (repeat (first | exact List.Mem.head _ | apply List.Mem.tail)); done) | (apply Src.own; (repeat (first | exact List.Mem.head _ | apply List.Mem.tail)); done) | (apply Src.rx; (repeat (first | exact List.Mem.head _ | apply List.Mem.tail)); done)) (by rw [entC_length]; omega)) (by repeat (first | exact Takes.nil | exact Take.here | apply Takes.cons | apply Take.there)) ?_
                      refine WA.takeG (i := 7) rfl (by kernel_rfl) (fun _ _ _ h => h) rfl rfl rfl (op_loadS fl23 (lt_ rfl) rfl (by first | (apply Src.rd; (repeat (first | exact List.Mem.head _ | apply List.Mem.tail)); done) | (apply Src.own; (repeat (first | exact List.Mem.head _ | apply List.Mem.tail)); done) | (apply Src.rx; (repeat (first | exact List.Mem.head _ | apply List.Mem.tail)); done)) (by rw [show ((i3 : Int)).toNat * 2 + 1 = i3 * 2 + 1 by omega]; exact hze.2)) (by repeat (first | exact Takes.nil | exact Take.here | apply Takes.cons | apply Take.there)) ?_
                      refine WA.takeG (i := 8) rfl (by kernel_rfl) (fun _ _ _ h => h) rfl rfl rfl (op_bytesStr Try.underlying23 Try.underlying5 Try.underlying9 (lt_ rfl) rfl ⟨rowsC true zs, (by repeat (first | exact List.Mem.head _ | apply List.Mem.tail)), rowsC_get (r := z) (List.mem_of_getElem? hz)⟩) (by repeat (first | exact Takes.nil | exact Take.here | apply Takes.cons | apply Take.there)) ?_
                      refine WA.takeG (i := 9) rfl (by kernel_rfl) (fun _ _ _ h => h) rfl rfl rfl (op_move (lt_ rfl) rfl) (by repeat (first | exact Takes.nil | exact Take.here | apply Takes.cons | apply Take.there)) ?_
                      refine WA.takeG (i := 10) rfl (by kernel_rfl) (fun _ _ _ h => h) rfl rfl rfl (op_neqs (lt_ rfl) rfl rfl) (by repeat (first | exact Takes.nil | exact Take.here | apply Takes.cons | apply Take.there)) ?_
                      refine WA.take (i := 11) rfl (by kernel_rfl) (fun _ _ _ h => h) rfl (op_pickF (lt_ rfl) rfl rfl) (by repeat (first | exact Takes.nil | exact Take.here | apply Takes.cons | apply Take.there)) ?_
                      refine WA.take (i := 12) rfl (by kernel_rfl) (fun _ _ _ h => h) rfl (op_move (lt_ rfl) rfl) (by repeat (first | exact Takes.nil | exact Take.here | apply Takes.cons | apply Take.there)) ?_
                      refine WA.split (t := 219) rfl (fun g219 => ?_) (fun g219 => ?_)
                      ·
                        exact absurd rfl g219
                      ·
                        refine WA.takeG (i := 13) rfl (by kernel_rfl) (fun _ _ _ h => h) rfl rfl rfl (op_move (lt_ rfl) rfl) (by repeat (first | exact Takes.nil | exact Take.here | apply Takes.cons | apply Take.there)) ?_
                        refine WA.takeG (i := 14) rfl (by kernel_rfl) (fun _ _ _ h => h) rfl rfl rfl (op_move (lt_ rfl) rfl) (by repeat (first | exact Takes.nil | exact Take.here | apply Takes.cons | apply Take.there)) ?_
                        refine WA.takeG (i := 15) rfl (by kernel_rfl) (fun _ _ _ h => h) rfl rfl rfl (op_index Try.underlying33 sz49 (lt_ rfl) rfl rfl (by omega) (by omega) (by decide) (by first | (apply Src.rd; (repeat (first | exact List.Mem.head _ | apply List.Mem.tail)); done) | (apply Src.own; (repeat (first | exact List.Mem.head _ | apply List.Mem.tail)); done) | (apply Src.rx; (repeat (first | exact List.Mem.head _ | apply List.Mem.tail)); done))) (by repeat (first | exact Takes.nil | exact Take.here | apply Takes.cons | apply Take.there)) ?_
                        refine WA.takeG (i := 16) rfl (by kernel_rfl) (fun _ _ _ h => h) rfl rfl rfl (op_fieldAddrS fo49_0 (lt_ rfl) rfl (by first | (apply Src.rd; (repeat (first | exact List.Mem.head _ | apply List.Mem.tail)); done) | (apply Src.own; (repeat (first | exact List.Mem.head _ | apply List.Mem.tail)); done) | (apply Src.rx; (repeat (first | exact List.Mem.head _ | apply List.Mem.tail)); done)) (by rw [entC_length]; omega)) (by repeat (first | exact Takes.nil | exact Take.here | apply Takes.cons | apply Take.there)) ?_
                        refine WA.takeG (i := 17) rfl (by kernel_rfl) (fun _ _ _ h => h) rfl rfl rfl (op_loadS fl3 (lt_ rfl) rfl (by first | (apply Src.rd; (repeat (first | exact List.Mem.head _ | apply List.Mem.tail)); done) | (apply Src.own; (repeat (first | exact List.Mem.head _ | apply List.Mem.tail)); done) | (apply Src.rx; (repeat (first | exact List.Mem.head _ | apply List.Mem.tail)); done)) (by rw [show ((i3 : Int)).toNat * 2 + 0 = i3 * 2 + 0 by omega]; exact hze.1)) (by repeat (first | exact Takes.nil | exact Take.here | apply Takes.cons | apply Take.there)) ?_
                        refine WA.takeG (i := 18) rfl (by kernel_rfl) (fun _ _ _ h => h) rfl rfl rfl (op_move (lt_ rfl) rfl) (by repeat (first | exact Takes.nil | exact Take.here | apply Takes.cons | apply Take.there)) ?_
                        refine WA.takeG (i := 20) rfl (by kernel_rfl) (fun _ _ _ h => h) rfl rfl rfl (op_move (lt_ rfl) rfl) (by repeat (first | exact Takes.nil | exact Take.here | apply Takes.cons | apply Take.there)) ?_
                        refine WA.stepGx (i := 19) (by kernel_rfl) rfl rfl rfl rfl (op_call (f18_spec bk bd J7 Aj7 rs7.length cj7) ca18 (lt_ rfl) rfl) (fun _ r => (by repeat (first | exact Takes.nil | exact Take.here | apply Takes.cons | apply Take.there))) ?_
                        rintro _ _
                        refine WA.takeG (i := 21) rfl (by kernel_rfl) (fun _ _ _ h => h) rfl rfl rfl (op_add (lt_ rfl) rfl rfl (by omega)) (by repeat (first | exact Takes.nil | exact Take.here | apply Takes.cons | apply Take.there)) ?_
                        refine WA.takeG (i := 22) rfl (by kernel_rfl) (fun _ _ _ h => h) rfl rfl rfl (op_neq (lt_ rfl) rfl rfl) (by repeat (first | exact Takes.nil | exact Take.here | apply Takes.cons | apply Take.there)) ?_
                        refine WA.take (i := 23) rfl (by kernel_rfl) (fun _ _ _ h => h) rfl (op_pickF (lt_ rfl) rfl rfl) (by repeat (first | exact Takes.nil | exact Take.here | apply Takes.cons | apply Take.there)) ?_
                        refine WA.done (by kernel_rfl) ?_
                        refine WX.regs (L' := [(16, _), (19, _), (25, _), (27, _), (230, _)]) ?_
                        refine WX.next ?_
                        refine WC.cond rfl (fun h13 => ?_) (fun h13 => ?_)
                        ·
                          exact (h13 rfl).elim
                        ·
                          refine WC.skip ?_
                          refine WX.in_normal ?_
                          refine WX.next ?_
                          refine WC.region ?_
                          refine wlv (op_move (lt_ rfl) rfl) rfl ?_
                          refine wlv (op_add (lt_ rfl) rfl rfl (by omega)) rfl ?_
                          refine wlv (op_assign (lt_ rfl) rfl) rfl ?_
                          refine WL.nil ?_
                          refine WX.regs (L' := [(16, _), (19, _), (25, _), (27, _)]) ?_
                          refine WX.meet (i3 + 1) ⟨by omega, by omega⟩ (fun a w hs => hs.sub (by repeat (first | exact RS.nil | refine RS.cons (by first | rfl | exact congrArg (fun z : Int => some (Value.int .i64 z)) (by omega)) ?_)) (by repeat (first | exact Takes.nil | exact Take.here | apply Takes.cons | apply Take.there)))
                    ·
                      refine WC.exit ?_
                      refine WX.then_exit ?_
                      refine WX.then_exit ?_
                      refine WX.in_hit ?_
                      refine WX.next ?_
                      refine WC.seq ?_
                      refine WC.region ?_
                      refine wlv (op_assign (lt_ rfl) rfl) rfl ?_
                      refine WL.nil ?_
                      refine WX.regs (L' := [(10, _)]) ?_
                      refine WX.next ?_
                      refine WC.ret ?_
                      exact Fin.ret1 (by first | exact .inl rfl | exact .inr rfl) (_) (rfl) Try.results8 (.tmp rfl) (by repeat (first | exact Takes.nil | exact Take.here | apply Takes.cons | apply Take.there)) (by simp)
end Go.Proofs.Ytkjlbedebmffgaa.Sx

