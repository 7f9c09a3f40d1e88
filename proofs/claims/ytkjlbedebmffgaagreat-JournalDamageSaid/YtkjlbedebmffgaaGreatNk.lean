import Derived.Test.YtkjlbedebmffgaaGreatNj
import Derived.Test.YtkjlbedebmffgaaGreatNc
set_option linter.unusedVariables false
set_option linter.unusedSimpArgs false
namespace Go.Proofs.YtkjlbedebmffgaaGreat.Sx
structure Weak' (k : Nat) (N : Int) (D : Dk) (J : Jn) (es : List Sec) (c0 k0 : Nat) (alt : Ara) : Prop where
 geo : Geo k N D J
 par : J.gen % 2 = J.cur
 fit : 1 + needs es ≤ k / 2
 ck : c0 ≤ k0 ∧ k0 ≤ es.length
 sy : J.synced = J.first + k0
 pl : ∀ p ∈ es, p.length ≤ 100000
 A : ∀ (i : Nat) s, i < k / 2 → Cand D (J.base k + i) s → (areaC J.gen J.first c0 es)[i]? = some s ∨ ¬ gof s = some J.gen
 Y : ∀ (i : Nat) s, (areaC J.gen J.first c0 (es.take k0))[i]? = some s → ∀ s', Cand D (J.base k + i) s' → s' = s
 B : ∀ a s g', J.fi ≤ a → a < J.fi + k → Cand D a s → gof s = some g' → g' ≤ N + 2
 O : ∀ a s g', J.fi ≤ a → a < J.fi + k → ¬ (J.base k ≤ a ∧ a < J.base k + ((k / 2 : Nat) : Int)) → Cand D a s → gof s = some g' → g' < J.gen ∨
  ∃ g2 f2 es2, ∃ i : Nat, alt = some (g2, f2, es2) ∧ (areaS g2 f2 es2)[i]? = some s ∧ a = J.fi + (1 - J.cur) * ((k / 2 : Nat) : Int) + i
 al : ∀ g2 f2 es2, alt = some (g2, f2, es2) → g2 % 2 = 1 - J.cur ∧ J.gen < g2 ∧ g2 ≤ N + 2 ∧ (0 ≤ f2 ∧ f2 ≤ N + 1000) ∧ 1 + needs es2 ≤ k / 2 ∧ ∀ p ∈ es2, p.length ≤ 100000
theorem Geo.mono {k : Nat} {N N' : Int} {D D' : Dk} {J : Jn} (h : Geo k N D J) (hN : N ≤ N') (hn : D'.n = D.n) : Geo k N' D' J :=
 ⟨h.se, h.k8, h.fi, by rw [hn]; exact h.top, by rw [hn]; exact h.n, h.cur, ⟨h.gb.1, Int.le_trans h.gb.2 hN⟩, ⟨h.fb.1, Int.le_trans h.fb.2 hN⟩⟩
theorem Weak'.mono {k : Nat} {N : Int} {D D' : Dk} {J : Jn} {es : List Sec} {c0 k0 : Nat} {alt : Ara} (h : Weak' k N D J es c0 k0 alt) (hn : D'.n = D.n) (hc : ∀ a s, Cand D' a s → Cand D a s) : Weak' k N D' J es c0 k0 alt :=
 { h with geo := h.geo.mono (Int.le_refl _) hn, A := fun i s hi hs => h.A i s hi (hc _ _ hs), Y := fun i s hs s' h' => h.Y i s hs s' (hc _ _ h'), B := fun a s g' h1 h2 h3 => h.B a s g' h1 h2 (hc _ _ h3), O := fun a s g' h1 h2 h3 h4 => h.O a s g' h1 h2 h3 (hc _ _ h4) }
theorem Strong.weak {k : Nat} {N : Int} {D : Dk} {J : Jn} {es : List Sec} {c0 k0 : Nat} (h : Strong k N D J es c0 k0) : Weak' k N D J es c0 k0 none :=
 { geo := h.geo, par := h.par, fit := h.fit, ck := h.ck, sy := h.sy, pl := h.pl, A := h.A, Y := h.Y, B := fun a s g' h1 h2 h3 h4 => by have := h.B a s g' h1 h2 h3 h4; have := h.geo.gb; omega, O := fun a s g' h1 h2 h3 h4 h5 => .inl (h.O a s g' h1 h2 h3 h4 h5), al := fun g2 f2 es2 h => by cases h }
theorem Strong.up {k : Nat} {N N' : Int} {D : Dk} {J : Jn} {es : List Sec} {c0 k0 : Nat} (h : Strong k N D J es c0 k0) (hN : N ≤ N') : Strong k N' D J es c0 k0 := { h with geo := h.geo.mono hN rfl }
def Out (D D' : Dk) (lo hi : Int) : Prop := ∀ b, (b < lo ∨ hi ≤ b) → D'.vis b = D.vis b ∧ ∀ s, Cand D' b s → Cand D b s
theorem Out.refl (D : Dk) (lo hi : Int) : Out D D lo hi := fun _ _ => ⟨rfl, fun _ h => h⟩
theorem base_eq (J : Jn) {k : Nat} (h : J.se = k) (u : Int) : J.fi + (J.cur * (J.se / 2) + u) = J.base k + u := by
 unfold Jn.base
 rw [h, show (k : Int) / 2 = ((k / 2 : Nat) : Int) by omega]
 omega
theorem areaC_snoc (g f : Int) (c0 : Nat) (es : List Sec) (p : Sec) : areaC g f c0 (es ++ [p]) = areaC g f c0 es ++ sects 2 g ((es.length : Int) + 1) p := by
 rw [areaC_append, Int.add_comm]
 simp [recs]
theorem append_cases {k : Nat} {N : Int} {D : Dk} {J : Jn} {es : List Sec} {c0 k0 : Nat} (h : Strong k N D J es c0 k0) (hN : N ≤ 1000000) {p : Sec} (hp : p.length ≤ 100000) :
  (k / 2 < 1 + needs es + need p.length ∧ appendM D J es p = (D, J, es, 0, 9)) ∨
  (1 + needs es + need p.length ≤ k / 2 ∧ (appendM D J es p).1.n = D.n ∧ (appendM D J es p).1.pend.length ≤ D.pend.length + 500 ∧
   ((Out D (appendM D J es p).1 J.fi (J.fi + ((2 * (k / 2) : Nat) : Int)) ∧ (appendM D J es p).2 = ({ J with used := J.used + (need p.length : Nat) }, es ++ [p], J.first + es.length, 0) ∧ (appendM D J es p).1.lim = D.lim ∧ Strong k N (appendM D J es p).1 (appendM D J es p).2.1 (es ++ [p]) c0 k0) ∨
       ((appendM D J es p).2 = ({ J with failed := 28 }, es, 0, 28) ∧ (appendM D J es p).1.down = true ∧ D.lim = true ∧ Weak' k N (appendM D J es p).1 (appendM D J es p).2.1 (es ++ [p]) c0 k0 none))) := by
 have hf := h.fine hN
 have hfit := h.fit
 have hu := h.used
 have hse := h.geo.se
 have hk := h.geo.k
 have hlo := h.geo.lo
 have hfi := h.geo.fi
 have htop := h.geo.top
 have hnl := need_le (show p.length ≤ 131072 by omega)
 have hfree : J.se / 2 = ((k / 2 : Nat) : Int) := by rw [hse]; omega
 by_cases hfits : k / 2 < 1 + needs es + need p.length
 ·left
  refine ⟨hfits, ?_⟩
  unfold appendM
  rw [if_neg (fun k => k h.fl), if_neg (by omega), if_pos (by rw [hfree, hu]; omega)]
 ·right
  have hle := needs_le es
  have hfineP : fineP 2 J.gen ((es.length : Int) + 1) := by have := hf.g; simp only [fineP]; omega
  have hsl : (sects 2 J.gen ((es.length : Int) + 1) p).length = need p.length := sects_length ..
  obtain ⟨h1, h2⟩ := putM_cases (D := D) (a := J.base k + ((1 + needs es : Nat) : Int)) (ss := sects 2 J.gen ((es.length : Int) + 1) p) h.dn (by omega) (by rw [hsl]; omega) (sects_256 hfineP (by omega))
  have hpk := putM_keep (ss := sects 2 J.gen ((es.length : Int) + 1) p) D (J.base k + ((1 + needs es : Nat) : Int))
  have hplen := putM_len (ss := sects 2 J.gen ((es.length : Int) + 1) p) D (J.base k + ((1 + needs es : Nat) : Int))
  have hbe : J.fi + (J.cur * (J.se / 2) + J.used) = J.base k + ((1 + needs es : Nat) : Int) := by rw [base_eq J hse, hu]
  have hn2 : needs (es ++ [p]) = needs es + need p.length := by rw [needs_append]; rfl
  have hac := areaC_snoc J.gen J.first c0 es p
  have hal := areaC_length J.gen J.first c0 es
  have hgs := sects_gof hfineP (show p.length ≤ 131072 by omega)
  -- what may be there
  have hA : ∀ (i : Nat) s, i < k / 2 → Cand (putM D (J.base k + ((1 + needs es : Nat) : Int)) (sects 2 J.gen ((es.length : Int) + 1) p)).1 (J.base k + i) s → (areaC J.gen J.first c0 (es ++ [p]))[i]? = some s ∨ ¬ gof s = some J.gen := fun i s hi hs => by
   rcases h2 _ s hs with hs | ⟨j, hj, hb⟩
   ·rcases h.A i s hi hs with h3 | h3
    ·left
     rw [hac, List.getElem?_append_left (List.getElem?_eq_some_iff.1 h3).1]
     exact h3
    ·exact .inr h3
   ·left
    rw [hac, List.getElem?_append_right (by rw [hal]; omega), hal, show i - (1 + needs es) = j by omega]
    exact hj
  have hY : ∀ (i : Nat) s, (areaC J.gen J.first c0 ((es ++ [p]).take k0))[i]? = some s → ∀ s', Cand (putM D (J.base k + ((1 + needs es : Nat) : Int)) (sects 2 J.gen ((es.length : Int) + 1) p)).1 (J.base k + i) s' → s' = s := fun i s hs s' h' => by
   rw [List.take_append_of_le_length h.ck.2] at hs
   have hl := (List.getElem?_eq_some_iff.1 hs).1
   rw [areaC_length] at hl
   have := needs_append (es.take k0) (es.drop k0)
   rw [List.take_append_drop] at this
   rcases h2 _ s' h' with h' | ⟨j, hj, hb⟩
   ·exact h.Y i s hs s' h'
   ·omega
  have hB : ∀ a s g', J.fi ≤ a → a < J.fi + k → Cand (putM D (J.base k + ((1 + needs es : Nat) : Int)) (sects 2 J.gen ((es.length : Int) + 1) p)).1 a s → gof s = some g' → g' ≤ J.gen := fun a s g' h3 h4 h5 h6 => by
   rcases h2 _ s h5 with h5 | ⟨j, hj, hb⟩
   ·exact h.B a s g' h3 h4 h5 h6
   ·rw [hgs s (List.mem_of_getElem? hj)] at h6
    simp only [Option.some.injEq] at h6
    omega
  have hO : ∀ a s g', J.fi ≤ a → a < J.fi + k → ¬ (J.base k ≤ a ∧ a < J.base k + ((k / 2 : Nat) : Int)) → Cand (putM D (J.base k + ((1 + needs es : Nat) : Int)) (sects 2 J.gen ((es.length : Int) + 1) p)).1 a s → gof s = some g' → g' < J.gen := fun a s g' h3 h4 h5 h6 h7 => by
   rcases h2 _ s h6 with h6 | ⟨j, hj, hb⟩
   ·exact h.O a s g' h3 h4 h5 h6 h7
   ·have := (List.getElem?_eq_some_iff.1 hj).1
    rw [hsl] at this
    omega
  have hpl : ∀ q ∈ es ++ [p], q.length ≤ 100000 := fun q hq => by
   rcases List.mem_append.1 hq with hq | hq
   ·exact h.pl q hq
   ·rw [List.mem_singleton.1 hq]; exact hp
  have hck : c0 ≤ k0 ∧ k0 ≤ (es ++ [p]).length := ⟨h.ck.1, by rw [List.length_append]; have := h.ck.2; omega⟩
  rcases h1 with ⟨g1, g2, g3, g4, g5⟩ | ⟨g1, g2, g3⟩
  ·have he : appendM D J es p = ((putM D (J.base k + ((1 + needs es : Nat) : Int)) (sects 2 J.gen ((es.length : Int) + 1) p)).1, { J with used := J.used + (need p.length : Nat) }, es ++ [p], J.first + es.length, 0) := by
    unfold appendM
    rw [if_neg (fun k => k h.fl), if_neg (by omega), if_neg (by rw [hfree, hu]; omega), hbe, if_neg (by rw [g1]; decide)]
   rw [he]
   rw [hsl] at g5
   have ho : Out D (putM D (J.base k + ((1 + needs es : Nat) : Int)) (sects 2 J.gen ((es.length : Int) + 1) p)).1 J.fi (J.fi + ((2 * (k / 2) : Nat) : Int)) := fun b hb => ⟨g5 b (by omega), fun s hs => by
    rcases h2 _ s hs with hs | ⟨j, hj, hb2⟩
    ·exact hs
    ·have := (List.getElem?_eq_some_iff.1 hj).1
     rw [hsl] at this
     omega⟩
   refine ⟨by omega, hpk.1, by simp only []; omega, .inl ⟨ho, rfl, g3, ?_⟩⟩
   refine { geo := ⟨hse, h.geo.k8, hfi, by rw [hpk.1]; exact htop, by rw [hpk.1]; exact h.geo.n, h.geo.cur, h.geo.gb, h.geo.fb⟩, dn := g2, fl := h.fl, par := h.par, used := by simp only []; rw [hu, hn2]; omega, fit := by rw [hn2]; omega, ck := hck, sy := h.sy, pl := hpl, A := hA, V := ?_, Y := hY, B := hB, O := hO }
   ·intro i s hs
    show ((putM D (J.base k + ((1 + needs es : Nat) : Int)) (sects 2 J.gen ((es.length : Int) + 1) p)).1.vis (J.base k + i)).s = s
    have hs2 : (areaC J.gen J.first c0 (es ++ [p]))[i]? = some s := hs
    rw [hac] at hs2
    by_cases hi : i < 1 + needs es
    ·rw [List.getElem?_append_left (by rw [hal]; exact hi)] at hs2
     rw [g5 _ (by omega)]
     exact h.V i s hs2
    ·rw [List.getElem?_append_right (by rw [hal]; omega), hal] at hs2
     have := g4 _ s hs2
     rw [show J.base k + ((1 + needs es : Nat) : Int) + ((i - (1 + needs es) : Nat) : Int) = J.base k + i by omega] at this
     exact this
  ·have he : appendM D J es p = ((putM D (J.base k + ((1 + needs es : Nat) : Int)) (sects 2 J.gen ((es.length : Int) + 1) p)).1, { J with failed := 28 }, es, 0, 28) := by
    unfold appendM
    rw [if_neg (fun k => k h.fl), if_neg (by omega), if_neg (by rw [hfree, hu]; omega), hbe, if_pos (by rw [g1]; decide), g1]
    rfl
   rw [he]
   refine ⟨by omega, hpk.1, by simp only []; omega, .inr ⟨rfl, g2, g3, ?_⟩⟩
   ·exact { geo := ⟨hse, h.geo.k8, hfi, by rw [hpk.1]; exact htop, by rw [hpk.1]; exact h.geo.n, h.geo.cur, h.geo.gb, h.geo.fb⟩, par := h.par, fit := by rw [hn2]; omega, ck := hck, sy := h.sy, pl := hpl, A := hA, Y := hY, B := fun a s g' h3 h4 h5 h6 => by have := hB a s g' h3 h4 h5 h6; have := h.geo.gb; omega, O := fun a s g' h3 h4 h5 h6 h7 => .inl (hO a s g' h3 h4 h5 h6 h7), al := fun g2 f2 es2 h => by cases h }
end Go.Proofs.YtkjlbedebmffgaaGreat.Sx
namespace Go.Proofs.YtkjlbedebmffgaaGreat.Sx
theorem watch28 (J : Jn) : J.watch 28 = { J with failed := 28 } := if_pos rfl
theorem Weak'.failed {k : Nat} {N : Int} {D : Dk} {J : Jn} {es : List Sec} {c0 k0 : Nat} {alt : Ara} (h : Weak' k N D J es c0 k0 alt) (e : Int) : Weak' k N D { J with failed := e } es c0 k0 alt :=
 ⟨⟨h.geo.se, h.geo.k8, h.geo.fi, h.geo.top, h.geo.n, h.geo.cur, h.geo.gb, h.geo.fb⟩, h.par, h.fit, h.ck, h.sy, h.pl, h.A, h.Y, h.B, h.O, h.al⟩
theorem sync_cases {k : Nat} {N : Int} {D : Dk} {J : Jn} {es : List Sec} {c0 k0 : Nat} (h : Strong k N D J es c0 k0) :
  (syncM D J es.length).1.n = D.n ∧ (syncM D J es.length).1.pend.length ≤ D.pend.length ∧
  (((syncM D J es.length).2 = ({ J with synced := J.first + es.length }, 0) ∧ Out D (syncM D J es.length).1 J.fi (J.fi + ((2 * (k / 2) : Nat) : Int)) ∧ (syncM D J es.length).1.lim = D.lim ∧ Strong k N (syncM D J es.length).1 (syncM D J es.length).2.1 es c0 es.length) ∨
     ((syncM D J es.length).2 = ({ J with failed := 28 }, 28) ∧ (syncM D J es.length).1.down = true ∧ D.lim = true ∧ Weak' k N (syncM D J es.length).1 (syncM D J es.length).2.1 es c0 k0 none)) := by
 have hck := h.ck
 have hlo := h.geo.lo
 rcases flush_cases h.dn with ⟨f1, f2, f3, f4, f5, f6⟩ | ⟨f1, f2, f3, f4, f5, f6⟩
 ·have he : syncM D J es.length = (D.flush.1, { J with synced := J.first + es.length }, 0) := by
   unfold syncM
   rw [if_neg (fun k => k h.fl), if_neg (fun k => k f1)]
  rw [he]
  have hc : ∀ a s, Cand D.flush.1 a s → s = (D.vis a).s := fun a s hs => by rw [cand_nil f4 hs, f5]
  refine ⟨f6, by rw [f4]; exact Nat.zero_le _, .inl ⟨rfl, fun b _ => ⟨by rw [vis_nil f4, f5], fun s hs => cand_flush h.dn hs⟩, f3, ?_⟩⟩
  refine { geo := ⟨h.geo.se, h.geo.k8, h.geo.fi, by rw [f6]; exact h.geo.top, by rw [f6]; exact h.geo.n, h.geo.cur, h.geo.gb, h.geo.fb⟩, dn := f2, fl := h.fl, par := h.par, used := h.used, fit := h.fit, ck := ⟨by omega, Nat.le_refl _⟩, sy := rfl, pl := h.pl, A := fun i s hi hs => h.A i s hi (cand_flush h.dn hs), V := fun i s hs => (by rw [vis_nil f4, f5]; exact h.V i s hs), Y := fun i s hs s' h' => ?_, B := fun a s g' h1 h2 h3 => h.B a s g' h1 h2 (cand_flush h.dn h3), O := fun a s g' h1 h2 h3 h4 => h.O a s g' h1 h2 h3 (cand_flush h.dn h4) }
  rw [List.take_of_length_le (Nat.le_refl _)] at hs
  rw [hc _ _ h']
  exact h.V i s hs
 ·have he : syncM D J es.length = (D.flush.1, { J with failed := 28 }, 28) := by
   unfold syncM
   rw [if_neg (fun k => k h.fl), if_pos (by rw [f1]; decide), f1, watch28]
  rw [he]
  exact ⟨f6, by rw [f4]; exact Nat.le_refl _, .inr ⟨rfl, f2, f3, (h.weak.mono f6 fun a s hs => cand_flush h.dn hs).failed 28⟩⟩
theorem Strong.gens {k : Nat} {N : Int} {D : Dk} {J : Jn} {es : List Sec} {c0 k0 : Nat} (h : Strong k N D J es c0 k0) : ∀ a g', J.fi ≤ a → a < J.fi + k → gof (D.vis a).s = some g' → g' ≤ J.gen := fun a g' h1 h2 h3 => h.B a _ g' h1 h2 (cand_vis D a) h3
theorem Strong.head {k : Nat} {N : Int} {D : Dk} {J : Jn} {es : List Sec} {c0 k0 : Nat} (h : Strong k N D J es c0 k0) (hk : k ≤ 1000) (hgb : 0 ≤ J.gen ∧ J.gen ≤ N) (hN : N ≤ 1000000 := by omega) : gof (D.vis (J.base k + ((0 : Nat) : Int))).s = some J.gen := by
 have h0 := h.V 0 (sect 1 J.gen 0 (headP J.first c0) 0) (by
  unfold areaC
  rw [List.getElem?_append_left (by rw [sects_length, headP_length]; decide), sects_at (by rw [headP_length]; decide)])
 have h00 := dec_sect (k := 1) (g := J.gen) (n := 0) (p := headP J.first c0) (i := 0) (by simp only [fineP]; omega) (by rw [headP_length]; decide) (by rw [headP_length]; decide)
 rw [h0]
 exact gof_some.2 ⟨by rw [h00], by rw [h00]; rfl⟩
theorem pl_drop {es : List Sec} {n m : Nat} (h : ∀ p ∈ es, p.length ≤ n) : ∀ p ∈ es.drop m, p.length ≤ n := fun p hp => h p (List.mem_of_mem_drop hp)
theorem writeM_pend {D : Dk} {base g f : Int} {es : List Sec} : (writeM D base g f es).1.pend.length ≤ D.pend.length + (1 + needs es) := by
 have hl := putM_len (ss := areaS g f es) D base
 rw [areaS_length] at hl
 unfold writeM
 split
 ·simp only []
  have hk := op_keep (putM D base (areaS g f es)).1
  unfold Dk.flush
  split
  ·exact hl
  ·split
   ·exact Nat.zero_le _
   ·rw [hk.2.1]; exact hl
 ·exact hl
theorem changeM_pend {D : Dk} {J : Jn} {f : Int} {es : List Sec} : (changeM D J f es).1.pend.length ≤ D.pend.length + (1 + needs es) := by
 unfold changeM
 split
 ·simp only []; omega
 ·split
  ·exact writeM_pend
  ·exact writeM_pend
theorem trunc_cases {k : Nat} {N : Int} {D : Dk} {J : Jn} {es : List Sec} {c0 k0 : Nat} (h : Strong k N D J es c0 k0) (hN : 0 ≤ N ∧ N ≤ 900000) (before : Int) :
  (truncM D J before es).1.n = D.n ∧ (truncM D J before es).1.pend.length ≤ D.pend.length + 500 ∧
  ((truncM D J before es = (D, J, es, 2) ∧ (before < J.first ∨ J.first + es.length < before)) ∨ (truncM D J before es = (D, J, es, 0) ∧ before = J.first) ∨
     (∃ m : Nat, 1 ≤ m ∧ m ≤ es.length ∧ before = J.first + m ∧
   (((truncM D J before es).2.2 = (es.drop m, 0) ∧ (truncM D J before es).2.1.first = before ∧ (truncM D J before es).2.1.fi = J.fi ∧ (truncM D J before es).2.1.gen = J.gen + 1 ∧ Out D (truncM D J before es).1 J.fi (J.fi + ((2 * (k / 2) : Nat) : Int)) ∧ (truncM D J before es).1.lim = D.lim ∧
     Strong k (N + 1000) (truncM D J before es).1 (truncM D J before es).2.1 (es.drop m) (es.length - m) (es.length - m)) ∨
       ((truncM D J before es).2 = ({ J with failed := 28 }, es, 28) ∧ (truncM D J before es).1.down = true ∧ D.lim = true ∧ ∃ g, Weak' k N (truncM D J before es).1 (truncM D J before es).2.1 es c0 k0 (some (g, before, es.drop m)))))) := by
 have hle := needs_le es
 have hfit := h.fit
 have hk := h.geo.k
 have hgb := h.geo.gb
 have hfb := h.geo.fb
 have hlo := h.geo.lo
 by_cases h1 : before < J.first ∨ J.first + es.length < before
 ·have he : truncM D J before es = (D, J, es, 2) := by unfold truncM; rw [if_neg (fun k => k h.fl), if_pos (by omega)]
  rw [he]
  exact ⟨rfl, by simp only []; omega, .inl ⟨rfl, h1⟩⟩
 by_cases h2 : before = J.first
 ·have he : truncM D J before es = (D, J, es, 0) := by unfold truncM; rw [if_neg (fun k => k h.fl), if_neg (by omega), if_pos h2]
  rw [he]
  exact ⟨rfl, by simp only []; omega, .inr (.inl ⟨rfl, h2⟩)⟩
 obtain ⟨m, hm⟩ : ∃ m : Nat, before = J.first + m := ⟨(before - J.first).toNat, by omega⟩
 have hm1 : (before - J.first).toNat = m := by omega
 have hnd := needs_drop es m
 have hdl : (es.drop m).length = es.length - m := List.length_drop
 have hcp := changeM_pend (D := D) (J := J) (f := before) (es := es.drop m)
 obtain ⟨g, g1, g2, g3, g4, gn, gc⟩ := change_cases (B := J.gen) (N := N) h.geo h.dn h.fl (by omega) (by omega) h.gens (f := before) (es := es.drop m) (by omega) (by omega) (pl_drop h.pl) (N' := N + 1000) (by omega)
 have hgg : J.gen < g := g4 _ J.gen (by omega) (by omega) (h.head hk hgb)
 have hpar := h.par
 have hg1 : g = J.gen + 1 := by rcases h.geo.cur with e | e <;> rw [e] at hpar g1 <;> omega
 rcases gc with ⟨c1, c2, c3, c4, c5, c6, c7, c8, c9⟩ | ⟨c1, c2, c3, c4, c5⟩
 ·have he : truncM D J before es = ((changeM D J before (es.drop m)).1, (changeM D J before (es.drop m)).2.1, es.drop m, 0) := by
   unfold truncM
   rw [hm1, if_neg (fun k => k h.fl), if_neg (by omega), if_neg h2, if_pos c1]
  rw [he]
  rw [hdl] at c8
  refine ⟨gn, by simp only []; omega, .inr (.inr ⟨m, by omega, by omega, hm, .inl ⟨rfl, c3, c5, by simp only []; rw [c2]; exact hg1, fun b hb => ?_, c6, c8⟩⟩)⟩
  have hob : J.fi ≤ J.fi + (1 - J.cur) * ((k / 2 : Nat) : Int) ∧ J.fi + (1 - J.cur) * ((k / 2 : Nat) : Int) + ((k / 2 : Nat) : Int) ≤ J.fi + ((2 * (k / 2) : Nat) : Int) := by
   rcases h.geo.cur with e | e <;> rw [e] <;> omega
  have h9 := c9 b (by omega)
  exact ⟨by rw [vis_nil c7]; exact h9, fun s hs => by rw [cand_nil c7 hs, h9]; exact cand_vis D b⟩
 ·have he : truncM D J before es = ((changeM D J before (es.drop m)).1, { J with failed := 28 }, es, 28) := by
   unfold truncM
   rw [hm1, if_neg (fun k => k h.fl), if_neg (by omega), if_neg h2, if_neg (by rw [c1]; decide), c1, c2, watch28]
  rw [he]
  have hfine : Fine g (es.drop m) := fine_pl (by omega) (by omega) hk (pl_drop h.pl)
  have hal := areaC_length g before (es.drop m).length (es.drop m)
  have hoth : ∀ (j : Nat), j < k / 2 → ¬ (J.base k ≤ J.fi + (1 - J.cur) * ((k / 2 : Nat) : Int) + j ∧ J.fi + (1 - J.cur) * ((k / 2 : Nat) : Int) + j < J.base k + ((k / 2 : Nat) : Int)) := fun j hj => by
   unfold Jn.base
   rcases h.geo.cur with e | e <;> rw [e] <;> omega
  have hjl : ∀ (j : Nat) s, (areaS g before (es.drop m))[j]? = some s → j < k / 2 := fun j s hj => by
   have := (List.getElem?_eq_some_iff.1 hj).1
   rw [areaS_length] at this
   omega
  refine ⟨gn, by simp only []; omega, .inr (.inr ⟨m, by omega, by omega, hm, .inr ⟨rfl, c3, c4, g, Weak'.failed ?_ 28⟩⟩)⟩
  refine { geo := h.geo.mono (Int.le_refl _) gn, par := h.par, fit := h.fit, ck := h.ck, sy := h.sy, pl := h.pl, A := fun i s hi hs => ?_, Y := fun i s hs s' h' => ?_, B := fun a s g' h3 h4 h5 h6 => ?_, O := fun a s g' h3 h4 h5 h6 h7 => ?_, al := fun gg ff ee hh => ?_ }
  ·rcases c5 _ s hs with hs | ⟨j, hj, hb⟩
   ·exact h.A i s hi hs
   ·exact absurd ⟨by omega, by omega⟩ (hoth j (hjl j s hj))
  ·rcases c5 _ s' h' with h' | ⟨j, hj, hb⟩
   ·exact h.Y i s hs s' h'
   ·have hl := (List.getElem?_eq_some_iff.1 hs).1
    rw [areaC_length] at hl
    have := needs_append (es.take k0) (es.drop k0)
    rw [List.take_append_drop] at this
    exact absurd ⟨by omega, by omega⟩ (hoth j (hjl j s' hj))
  ·rcases c5 _ s h5 with h5 | ⟨j, hj, hb⟩
   ·have := h.B a s g' h3 h4 h5 h6; omega
   ·rw [areaC_gof (f := before) (c0 := (es.drop m).length) hfine s (List.mem_of_getElem? hj)] at h6
    simp only [Option.some.injEq] at h6
    omega
  ·rcases c5 _ s h6 with h6 | ⟨j, hj, hb⟩
   ·exact .inl (h.O a s g' h3 h4 h5 h6 h7)
   ·exact .inr ⟨g, before, es.drop m, j, rfl, hj, hb⟩
  ·simp only [Option.some.injEq, Prod.mk.injEq] at hh
   obtain ⟨rfl, rfl, rfl⟩ := hh
   exact ⟨g1, hgg, by omega, by omega, by omega, pl_drop h.pl⟩
end Go.Proofs.YtkjlbedebmffgaaGreat.Sx
namespace Go.Proofs.YtkjlbedebmffgaaGreat.Sx
structure Eff (k : Nat) (J J' : Jn) (es es' : List Sec) (o : OpR) (e : Int) : Prop where
 a : o.k.toNat % 3 = 0 → (e = 0 ∧ es' = es ++ [bytesM o.n o.b] ∧ J'.first = J.first ∧ 1 + needs es + need (o.n % 1500) ≤ k / 2) ∨ (e = 9 ∧ es' = es ∧ J' = J ∧ k / 2 < 1 + needs es + need (o.n % 1500))
 s : o.k.toNat % 3 = 1 → e = 0 ∧ es' = es ∧ J'.first = J.first
 t : o.k.toNat % 3 = 2 → (e = 2 ∧ es' = es ∧ J' = J) ∨ ∃ m : Nat, e = 0 ∧ m ≤ es.length ∧ es' = es.drop m ∧ J'.first = J.first + m ∧ (m : Int) = ((o.n % 12 : Nat) : Int) - 2
theorem jn0_geo {k : Nat} {N : Int} {D : Dk} {fi g f : Int} (h8 : 8 ≤ k) (hfi : 0 ≤ fi) (htop : fi + k ≤ D.n) (hn : D.n ≤ 1000) (hN : 0 ≤ N) (hf : 0 ≤ f ∧ f ≤ N) : Geo k N D (jn0 fi (k : Int) g f) :=
 ⟨rfl, h8, hfi, htop, hn, by show g % 2 = 0 ∨ g % 2 = 1; omega, ⟨Int.le_refl _, hN⟩, hf⟩
theorem check_zero {D : Dk} {fi : Int} {k : Nat} (h8 : 8 ≤ k) (hfi : 0 ≤ fi) (htop : fi + k ≤ D.n) (hd : D.down = false) : D.check fi k = 0 := by
 unfold Dk.check
 rw [if_neg (by omega), if_neg (by rw [hd]; decide)]
theorem pk_pick {D : Dk} {fi : Int} {k : Nat} {cur g f : Int} {es : List Sec} (hc : cur = 0 ∨ cur = 1) (h1 : areaM cur (D.seen (fi + cur * ((k / 2 : Nat) : Int)) (k / 2)) = some (g, f, es))
  (h2 : ∀ g' f' es', areaM (1 - cur) (D.seen (fi + (1 - cur) * ((k / 2 : Nat) : Int)) (k / 2)) = some (g', f', es') → g' < g) : pkM D fi k 2 = some (g, f, es) := by
 rcases hc with rfl | rfl
 ·have e0 : arM D fi k 0 = some (g, f, es) := h1
  simp only [pkM, pickM, e0]
  cases e1 : arM D fi k 1 with
  | none => rfl
  | some y =>
   have := h2 y.1 y.2.1 y.2.2 e1
   simp only []
   rw [if_neg (by omega)]
 ·have e1 : arM D fi k 1 = some (g, f, es) := h1
  simp only [pkM, pickM, e1]
  cases e0 : arM D fi k 0 with
  | none => rfl
  | some y =>
   have := h2 y.1 y.2.1 y.2.2 e0
   simp only []
   rw [if_pos (by omega)]
theorem seen_split {D : Dk} {a : Int} {m : Nat} {S : List Sec} (hm : S.length ≤ m) (h : ∀ (i : Nat) s, S[i]? = some s → (D.vis (a + i)).s = s) : D.seen a m = S ++ (D.seen a m).drop S.length := by
 conv => lhs; rw [← List.take_append_drop S.length (D.seen a m)]
 congr 1
 apply List.ext_getElem?
 intro i
 by_cases hi : i < S.length
 ·rw [List.getElem?_take, if_pos hi, seen_at (by omega), get_of hi, h i _ (get_of hi)]
 ·rw [List.getElem?_take, if_neg hi, List.getElem?_eq_none (by omega)]
theorem Alike.refl (g : Int) (c : List Sec) : Alike g c c := ⟨rfl, fun _ _ h _ => h⟩
theorem other_low {D : Dk} {a : Int} {m : Nat} {n g : Int} (hm : 0 < m) (h : ∀ g', gof (D.vis (a + ((0 : Nat) : Int))).s = some g' → g' < g) : ∀ g' f' es', areaM n (D.seen a m) = some (g', f', es') → g' < g := fun g' f' es' h1 => by
 have h2 := (areaM_gen h1).1
 rw [getD_of (seen_at hm)] at h2
 exact h g' h2
theorem Strong.found {k : Nat} {N : Int} {D : Dk} {J : Jn} {es : List Sec} {c0 k0 : Nat} (h : Strong k N D J es c0 k0) (hN : 0 ≤ N ∧ N ≤ 900000) : D.check J.fi k = 0 ∧ pkM D J.fi k 2 = some (J.gen, J.first, es) := by
 have hk := h.geo.k
 have h8 := h.geo.k8
 have hgb := h.geo.gb
 have hfb := h.geo.fb
 have hlo := h.geo.lo
 have hfit := h.fit
 have hck := h.ck
 have hf := h.fine (by omega)
 have hle := needs_le es
 have hal := areaC_length J.gen J.first c0 es
 refine ⟨check_zero h8 h.geo.fi h.geo.top h.dn, pk_pick h.geo.cur ?_ (other_low (by omega) fun g' hg => ?_)⟩
 ·have hs := seen_split (D := D) (a := J.base k) (m := k / 2) (S := areaC J.gen J.first c0 es) (by omega) h.V
  obtain ⟨kk, k1, k2, k3⟩ := areaM_meant_ge (n := J.cur) (g := J.gen) (f := J.first) (c0 := c0) (k0 := es.length) (es := es) hf (by omega) h.par (by rw [← hs]; exact Alike.refl _ _) (tail := (D.seen (J.base k) (k / 2)).drop (areaC J.gen J.first c0 es).length) (fun s hs2 => by
   rw [List.getElem?_drop, hal, Nat.add_zero] at hs2
   have hlt := (List.getElem?_eq_some_iff.1 hs2).1
   rw [seen_length] at hlt
   rw [seen_at hlt] at hs2
   simp only [Option.some.injEq] at hs2
   rcases h.A (1 + needs es) s hlt (by rw [← hs2]; exact cand_vis D _) with h3 | h3
   ·have := (List.getElem?_eq_some_iff.1 h3).1
    omega
   ·exact h3) ⟨by omega, Nat.le_refl _⟩ (by rw [List.take_of_length_le (Nat.le_refl _)]; exact hs)
  rw [List.take_of_length_le (by omega)] at k3
  exact k3
 ·refine h.O _ _ g' ?_ ?_ ?_ (cand_vis D _) hg
  ·rcases h.geo.cur with e | e <;> rw [e] <;> omega
  ·rcases h.geo.cur with e | e <;> rw [e] <;> omega
  ·unfold Jn.base
   rcases h.geo.cur with e | e <;> rw [e] <;> omega
theorem Strong.open' {k : Nat} {N : Int} {D : Dk} {J : Jn} {es : List Sec} {c0 k0 : Nat} (h : Strong k N D J es c0 k0) (hN : 0 ≤ N ∧ N ≤ 900000) (hl : D.lim = false) :
  (changeM D (jn0 J.fi (k : Int) J.gen J.first) J.first es).2.2 = 0 ∧ (changeM D (jn0 J.fi (k : Int) J.gen J.first) J.first es).1.n = D.n ∧ (changeM D (jn0 J.fi (k : Int) J.gen J.first) J.first es).1.lim = false ∧ (changeM D (jn0 J.fi (k : Int) J.gen J.first) J.first es).1.pend = [] ∧
  (changeM D (jn0 J.fi (k : Int) J.gen J.first) J.first es).2.1.first = J.first ∧ (changeM D (jn0 J.fi (k : Int) J.gen J.first) J.first es).2.1.fi = J.fi ∧ (changeM D (jn0 J.fi (k : Int) J.gen J.first) J.first es).2.1.gen = J.gen + 1 ∧
  Out D (changeM D (jn0 J.fi (k : Int) J.gen J.first) J.first es).1 J.fi (J.fi + ((2 * (k / 2) : Nat) : Int)) ∧
  Strong k (N + 1000) (changeM D (jn0 J.fi (k : Int) J.gen J.first) J.first es).1 (changeM D (jn0 J.fi (k : Int) J.gen J.first) J.first es).2.1 es es.length es.length := by
 have hgb := h.geo.gb
 have hfb := h.geo.fb
 have hlo := h.geo.lo
 have hpar := h.par
 have hk := h.geo.k
 have h8 := h.geo.k8
 have hcj : (jn0 J.fi (k : Int) J.gen J.first).cur = J.cur := h.par
 obtain ⟨g, g1, g2, g3, g4, gn, gc⟩ := change_cases (k := k) (N := N) (B := J.gen) (J := jn0 J.fi (k : Int) J.gen J.first) (jn0_geo h.geo.k8 h.geo.fi h.geo.top h.geo.n hN.1 hfb) h.dn rfl (by omega) (by omega) h.gens (f := J.first) (es := es) (by omega) h.fit h.pl (N' := N + 1000) (by omega)
 have hgg : J.gen < g := g4 _ J.gen (by show J.fi ≤ _; omega) (by show _ < J.fi + (k : Int); omega) (h.head hk hgb)
 rw [hcj] at g1 gc
 have hg1 : g = J.gen + 1 := by rcases h.geo.cur with e | e <;> rw [e] at hpar g1 <;> omega
 rcases gc with ⟨c1, c2, c3, c4, c5, c6, c7, c8, c9⟩ | ⟨c1, c2, c3, c4, c5⟩
 ·refine ⟨c1, gn, by rw [c6, hl], c7, c3, c5, by rw [c2]; exact hg1, fun b hb => ?_, c8⟩
  have hob : J.fi ≤ J.fi + (1 - J.cur) * ((k / 2 : Nat) : Int) ∧ J.fi + (1 - J.cur) * ((k / 2 : Nat) : Int) + ((k / 2 : Nat) : Int) ≤ J.fi + ((2 * (k / 2) : Nat) : Int) := by
   rcases h.geo.cur with e | e <;> rw [e] <;> omega
  have h9 := c9 b (by show b < J.fi + _ ∨ J.fi + _ + _ ≤ b; omega)
  exact ⟨by rw [vis_nil c7]; exact h9, fun s hs => by rw [cand_nil c7 hs, h9]; exact cand_vis D b⟩
 ·rw [hl] at c4; cases c4
theorem format_new {D : Dk} {fi : Int} {k : Nat} (h8 : 8 ≤ k) (hfi : 0 ≤ fi) (htop : fi + k ≤ D.n) (hn : D.n ≤ 1000) (hd : D.down = false) (hl : D.lim = false) (hv : ∀ a, fi ≤ a → a < fi + k → gof (D.vis a).s = none) :
  (formatM D fi (k : Int)).2 = 0 ∧ (formatM D fi (k : Int)).1.n = D.n ∧ (formatM D fi (k : Int)).1.lim = false ∧ (formatM D fi (k : Int)).1.pend = [] ∧ Out D (formatM D fi (k : Int)).1 fi (fi + ((2 * (k / 2) : Nat) : Int)) ∧
  ∃ J, J.fi = fi ∧ J.first = 0 ∧ J.gen = 0 ∧ Strong k 10 (formatM D fi (k : Int)).1 J [] 0 0 := by
 have hgeo : Geo k 10 D ⟨fi, (k : Int), 1, 0, 0, 0, 0, 0⟩ := ⟨rfl, h8, hfi, htop, hn, .inr rfl, ⟨Int.le_refl _, show (0 : Int) ≤ 10 by decide⟩, ⟨Int.le_refl _, show (0 : Int) ≤ 10 by decide⟩⟩
 obtain ⟨g, g1, g2, g3, g4, gn, gc⟩ := change_cases (k := k) (N := 10) (B := -1) hgeo hd rfl (by omega) (by omega) (fun a g' h1 h2 h3 => by rw [hv a h1 h2] at h3; cases h3) (f := 0) (es := []) (by omega) (by simp only [needs]; omega) (fun p hp => by cases hp) (N' := 10) (by omega)
 have hc : D.check fi k = 0 := check_zero h8 hfi htop hd
 have hg0 : g = 0 := by simp only [] at g1; omega
 have hst : ((k : Int)).toNat = k := Int.toNat_natCast k
 have hfm : formatM D fi (k : Int) = ((changeM D ⟨fi, (k : Int), 1, 0, 0, 0, 0, 0⟩ 0 []).1, (changeM D ⟨fi, (k : Int), 1, 0, 0, 0, 0, 0⟩ 0 []).2.2) := by
  unfold formatM changeM
  simp only [show (1 : Int) - 1 = 0 from rfl, Int.zero_mul, Int.add_zero]
  rw [if_neg (fun k => k hc)]
  split
  ·rfl
  ·split
   ·rfl
   ·rename_i h1 h2
    rw [Decidable.not_not.1 h2]
 rw [hfm]
 rcases gc with ⟨c1, c2, c3, c4, c5, c6, c7, c8, c9⟩ | ⟨c1, c2, c3, c4, c5⟩
 ·refine ⟨c1, gn, by rw [c6, hl], c7, fun b hb => ?_, _, c5, c3, by rw [c2]; exact hg0, c8⟩
  have h9 := c9 b (by simp only []; omega)
  exact ⟨by rw [vis_nil c7]; exact h9, fun s hs => by rw [cand_nil c7 hs, h9]; exact cand_vis D b⟩
 ·rw [hl] at c4; cases c4
end Go.Proofs.YtkjlbedebmffgaaGreat.Sx
namespace Go.Proofs.YtkjlbedebmffgaaGreat.Sx
open Go.RowKit Go.Proofs.YtkjlbedebmffgaaGreat.Ty
attribute [local irreducible] blk own rd rx frameC
structure JP where
 D : Dk
 A : Option Addr
 c : Nat
 J : Jn
 Aj : Option Addr
 cj : Nat
 rs : List Bs
theorem Strong.jok {k : Nat} {N : Int} {D : Dk} {J : Jn} {es : List Sec} {c0 k0 : Nat} (h : Strong k N D J es c0 k0) (hN : 0 ≤ N ∧ N ≤ 900000) (hpd : D.pend.length ≤ 800000) : Jok D J es := by
 have hk := h.geo.k
 have h8 := h.geo.k8
 have hgb := h.geo.gb
 have hfb := h.geo.fb
 have hfit := h.fit
 have hle := needs_le es
 have hse := h.geo.se
 have hu := h.used
 have htop := h.geo.top
 have hn := h.geo.n
 exact ⟨⟨h.geo.fi, by omega, by omega⟩, by omega, by rcases h.geo.cur with e | e <;> omega, by omega, by omega, by omega, fun _ => h.dn, by omega, fun p hp => Nat.le_trans (h.pl p hp) (by decide), by omega⟩
theorem weak_refl : ∀ (H : List Ch), Weak H H
 | [] => .nil _
 | _ :: H => .keep (.refl _) (weak_refl H)
theorem sha_zeros : ¬ (sha ((List.replicate 256 (0 : UInt8)).drop 16)).take 16 = (List.replicate 256 (0 : UInt8)).take 16 := by decide +kernel
set_option maxRecDepth 20000 in
theorem gof_zero : gof Sct.z.s = none := by
 have h : dec (List.replicate 256 0) = (pt0, 22) := dec_sum (List.length_replicate ..) sha_zeros
 show gof (List.replicate 256 0) = none
 unfold gof
 rw [h]
 rfl
theorem f13_new (bd bm : Nat) (A : Option Addr) (c : Nat) (D : Dk) (fi : Int) (k : Nat) (h8 : 8 ≤ k) (hfi : 0 ≤ fi) (htop : fi + k ≤ D.n) (hn : D.n ≤ 1000) (hd : D.down = false) (hl : D.lim = false) (hv : ∀ a, fi ≤ a → a < fi + k → gof (D.vis a).s = none) (hpd : D.pend.length ≤ 800000) :
  Spec Tryz.prog 13 [.pointer (some ⟨bd, 0, none⟩), .int .i64 fi, .int .i64 (k : Int)] [blk bd (dcells D bm A c) 77, mapC bm (dmap D.dur), own (.slice A D.pend.length c) 80 257 D.pend.length (D.pend.flatMap wcs)] [] (R := Dk × Option Addr × Nat)
   (fun q => q.1.n = D.n ∧ q.1.lim = false ∧ q.1.pend = [] ∧ Out D q.1 fi (fi + ((2 * (k / 2) : Nat) : Int)) ∧ ∃ J, J.fi = fi ∧ J.first = 0 ∧ J.gen = 0 ∧ Strong k 10 q.1 J [] 0 0) (fun _ => .int .i64 0) (fun q => [blk bd (dcells q.1 bm q.2.1 q.2.2) 77, mapC bm (dmap q.1.dur), own (.slice q.2.1 q.1.pend.length q.2.2) 80 257 q.1.pend.length (q.1.pend.flatMap wcs)]) := by
 obtain ⟨h1, h2, h3, h4, h5, h6⟩ := format_new h8 hfi htop hn hd hl hv
 refine (f13_spec bd bm A c D fi k (by omega) (by omega) (by omega)).conseq ?_
 rintro ⟨A9, c9⟩ _
 exact ⟨((formatM D fi k).1, A9, c9), ⟨h2, h3, h4, h5, h6⟩, by rw [h1], weak_refl _⟩
theorem f14_live (bd bm : Nat) (A : Option Addr) (c : Nat) (D : Dk) (J : Jn) {k : Nat} {N : Int} {es : List Sec} {c0 k0 : Nat} (h : Strong k N D J es c0 k0) (hN : 0 ≤ N ∧ N ≤ 900000) (hpd : D.pend.length ≤ 800000) (hl : D.lim = false) (fi : Int) (hfi : J.fi = fi) :
  Spec Tryz.prog 14 [.pointer (some ⟨bd, 0, none⟩), .int .i64 fi, .int .i64 (k : Int)] [blk bd (dcells D bm A c) 77, mapC bm (dmap D.dur), own (.slice A D.pend.length c) 80 257 D.pend.length (D.pend.flatMap wcs)] [] (R := JP × Nat × (Option Addr × Nat) × List Bs)
   (fun r => r.1.rs.map Bs.s = es ∧ r.2.2.2.map Bs.s = es ∧ r.1.D.n = D.n ∧ r.1.D.lim = false ∧ r.1.D.pend = [] ∧ r.1.J.first = J.first ∧ r.1.J.fi = J.fi ∧ r.1.J.gen = J.gen + 1 ∧ Out D r.1.D J.fi (J.fi + ((2 * (k / 2) : Nat) : Int)) ∧ Strong k (N + 1000) r.1.D r.1.J es es.length es.length)
   (fun r => .tuple #[.pointer (some ⟨r.2.1, 0, none⟩), .slice r.2.2.1.1 r.2.2.2.length r.2.2.1.2, .int .i64 0])
   (fun r => [blk bd (dcells r.1.D bm r.1.A r.1.c) 77, mapC bm (dmap r.1.D.dur), own (.slice r.1.A r.1.D.pend.length r.1.c) 80 257 r.1.D.pend.length (r.1.D.pend.flatMap wcs), blk r.2.1 (jcells r.1.J bd r.1.Aj r.1.rs.length r.1.cj) 96, own (.slice r.1.Aj r.1.rs.length r.1.cj) 30 1 r.1.rs.length (r.1.rs.map Bs.v), rowsC true r.1.rs, own (.slice r.2.2.1.1 r.2.2.2.length r.2.2.1.2) 100 2 r.2.2.2.length (entC J.first r.2.2.2), rowsC true r.2.2.2]) := by
 subst hfi
 have hgb := h.geo.gb
 have hfb := h.geo.fb
 have hk := h.geo.k
 have hfit := h.fit
 have hnn := h.geo.n
 obtain ⟨h1, h2⟩ := h.found hN
 obtain ⟨g1, g2, g3, g4, g5, g6, g7, g8, g9⟩ := h.open' hN hl
 refine (f14_ok bd bm A c D J.fi k J.gen J.first es h1 h2 (by omega) (by omega) (fun p hp => Nat.le_trans (h.pl p hp) (by decide)) (by omega) (by omega) g1).conseq ?_
 rintro ⟨⟨A9, c9⟩, bj, ⟨Ae, ce⟩, rs, ⟨Ax, cx⟩, xs⟩ ⟨hq1, hq2⟩
 exact ⟨(⟨(changeM D (jn0 J.fi k J.gen J.first) J.first es).1, A9, c9, (changeM D (jn0 J.fi k J.gen J.first) J.first es).2.1, Ae, ce, rs⟩, bj, (Ax, cx), xs), ⟨hq1, hq2, g2, g3, g4, g5, g6, g7, g8, g9⟩, rfl, weak_refl _⟩
theorem f17_live (bd bm bj : Nat) (A : Option Addr) (c : Nat) (D : Dk) (J : Jn) (Aj : Option Addr) (cj : Nat) (rs : List Bs) {k : Nat} {N : Int} {es : List Sec} {c0 k0 : Nat} (h : Strong k N D J es c0 k0) (hrs : rs.map Bs.s = es) (hN : 0 ≤ N ∧ N ≤ 900000) (hpd : D.pend.length ≤ 800000) (hl : D.lim = false) (Ab : Option Addr) (mb cb : Nat) (p : List UInt8) (hp : p.length = mb) (hp2 : mb ≤ 100000) (hfit : 1 + needs es + need mb ≤ k / 2) :
  Spec Tryz.prog 17 [.pointer (some ⟨bj, 0, none⟩), .slice Ab mb cb] [blk bd (dcells D bm A c) 77, mapC bm (dmap D.dur), own (.slice A D.pend.length c) 80 257 D.pend.length (D.pend.flatMap wcs), blk bj (jcells J bd Aj rs.length cj) 96, own (.slice Aj rs.length cj) 30 1 rs.length (rs.map Bs.v), rowsC true rs] [rd (.slice Ab mb cb) 1 mb (bvs p)] (R := JP)
   (fun q => q.rs.map Bs.s = es ++ [p] ∧ q.D.n = D.n ∧ q.D.lim = false ∧ q.D.pend.length ≤ D.pend.length + 500 ∧ q.J.first = J.first ∧ q.J.fi = J.fi ∧ q.J.gen = J.gen ∧ Out D q.D J.fi (J.fi + ((2 * (k / 2) : Nat) : Int)) ∧ Strong k N q.D q.J (es ++ [p]) c0 k0) (fun _ => .tuple #[.int .i64 (J.first + (es.length : Nat)), .int .i64 0])
   (fun q => [blk bd (dcells q.D bm q.A q.c) 77, mapC bm (dmap q.D.dur), own (.slice q.A q.D.pend.length q.c) 80 257 q.D.pend.length (q.D.pend.flatMap wcs), blk bj (jcells q.J bd q.Aj q.rs.length q.cj) 96, own (.slice q.Aj q.rs.length q.cj) 30 1 q.rs.length (q.rs.map Bs.v), rowsC true q.rs]) := by
 have hj := h.jok hN hpd
 have h1 := hj.fs
 have h2 := hj.n
 have h3 := hj.first
 have h4 := hj.len
 have h5 := hj.mx
 subst hrs
 rw [List.length_map] at h4
 subst hp
 rcases append_cases h (by omega) (p := p) (by omega) with ⟨a1, a2⟩ | ⟨a1, a2, a3, ⟨a4, a5, a6, a7⟩ | ⟨a4, a5, a6, a7⟩⟩
 ·omega
 ·refine W225 ?_
  rintro ⟨⟨A9, c9⟩, ⟨Aj9, cj9⟩, rs9⟩ hq
  dsimp only at hq
  rw [a5] at hq
  exact ⟨⟨(appendM D J (rs.map Bs.s) p).1, A9, c9, (appendM D J (rs.map Bs.s) p).2.1, Aj9, cj9, rs9⟩, ⟨hq, a2, by rw [a6, hl], a3, by rw [a5], by rw [a5], by rw [a5], a4, a7⟩, by rw [a5], weak_refl _⟩
 ·rw [hl] at a6; cases a6
theorem f17_full (bd bm bj : Nat) (A : Option Addr) (c : Nat) (D : Dk) (J : Jn) (Aj : Option Addr) (cj : Nat) (rs : List Bs) {k : Nat} {N : Int} {es : List Sec} {c0 k0 : Nat} (h : Strong k N D J es c0 k0) (hrs : rs.map Bs.s = es) (hN : 0 ≤ N ∧ N ≤ 900000) (hpd : D.pend.length ≤ 800000) (Ab : Option Addr) (mb cb : Nat) (p : List UInt8) (hp : p.length = mb) (hp2 : mb ≤ 100000) (hfit : k / 2 < 1 + needs es + need mb) :
  Spec Tryz.prog 17 [.pointer (some ⟨bj, 0, none⟩), .slice Ab mb cb] [blk bd (dcells D bm A c) 77, mapC bm (dmap D.dur), own (.slice A D.pend.length c) 80 257 D.pend.length (D.pend.flatMap wcs), blk bj (jcells J bd Aj rs.length cj) 96, own (.slice Aj rs.length cj) 30 1 rs.length (rs.map Bs.v), rowsC true rs] [rd (.slice Ab mb cb) 1 mb (bvs p)] (R := JP)
   (fun q => q.rs.map Bs.s = es ∧ q.D = D ∧ q.J = J) (fun _ => .tuple #[.int .i64 0, .int .i64 9])
   (fun q => [blk bd (dcells q.D bm q.A q.c) 77, mapC bm (dmap q.D.dur), own (.slice q.A q.D.pend.length q.c) 80 257 q.D.pend.length (q.D.pend.flatMap wcs), blk bj (jcells q.J bd q.Aj q.rs.length q.cj) 96, own (.slice q.Aj q.rs.length q.cj) 30 1 q.rs.length (q.rs.map Bs.v), rowsC true q.rs]) := by
 have hj := h.jok hN hpd
 have h1 := hj.fs
 have h2 := hj.n
 have h3 := hj.first
 have h4 := hj.len
 have h5 := hj.mx
 subst hrs
 rw [List.length_map] at h4
 subst hp
 rcases append_cases h (by omega) (p := p) (by omega) with ⟨a1, a2⟩ | ⟨a1, a2, a3, ⟨a4, a5, a6, a7⟩ | ⟨a4, a5, a6, a7⟩⟩
 ·refine W225 ?_
  rintro ⟨⟨A9, c9⟩, ⟨Aj9, cj9⟩, rs9⟩ hq
  dsimp only at hq
  rw [a2] at hq
  exact ⟨⟨D, A9, c9, J, Aj9, cj9, rs9⟩, ⟨hq, rfl, rfl⟩, by rw [a2], by rw [a2]; exact weak_refl _⟩
 ·omega
 ·omega
theorem f18_live (bd bm bj : Nat) (A : Option Addr) (c : Nat) (D : Dk) (J : Jn) (Aj : Option Addr) (cj : Nat) (rs : List Bs) {k : Nat} {N : Int} {es : List Sec} {c0 k0 : Nat} (h : Strong k N D J es c0 k0) (hrs : rs.map Bs.s = es) (hN : 0 ≤ N ∧ N ≤ 900000) (hpd : D.pend.length ≤ 800000) (hl : D.lim = false) (m : Nat) (hm : m ≤ es.length) (before : Int) (hb : before = J.first + m) :
  Spec Tryz.prog 18 [.pointer (some ⟨bj, 0, none⟩), .int .i64 before] [blk bd (dcells D bm A c) 77, mapC bm (dmap D.dur), own (.slice A D.pend.length c) 80 257 D.pend.length (D.pend.flatMap wcs), blk bj (jcells J bd Aj rs.length cj) 96, own (.slice Aj rs.length cj) 30 1 rs.length (rs.map Bs.v), rowsC true rs] [] (R := JP)
   (fun q => q.rs.map Bs.s = es.drop m ∧ q.D.n = D.n ∧ q.D.lim = false ∧ q.D.pend.length ≤ D.pend.length + 500 ∧ q.J.first = before ∧ q.J.fi = J.fi ∧ q.J.gen = (if m = 0 then J.gen else J.gen + 1) ∧ Out D q.D J.fi (J.fi + ((2 * (k / 2) : Nat) : Int)) ∧ ∃ c1 k1, Strong k (N + 1000) q.D q.J (es.drop m) c1 k1) (fun _ => .int .i64 0)
   (fun q => [blk bd (dcells q.D bm q.A q.c) 77, mapC bm (dmap q.D.dur), own (.slice q.A q.D.pend.length q.c) 80 257 q.D.pend.length (q.D.pend.flatMap wcs), blk bj (jcells q.J bd q.Aj q.rs.length q.cj) 96, own (.slice q.Aj q.rs.length q.cj) 30 1 q.rs.length (q.rs.map Bs.v), rowsC true q.rs]) := by
 have hj := h.jok hN hpd
 have h1 := hj.fs
 have h2 := hj.n
 have h3 := hj.first
 have h4 := hj.len
 have h5 := hj.mx
 subst hrs
 rw [List.length_map] at h4
 have hsp := f18_spec bd bm A c D bj J Aj cj before rs hj.dn hj.fs hj.cur (by omega) (by omega) (fun r hr => hj.pl _ (List.mem_map_of_mem hr)) (by omega) (by omega)
 obtain ⟨a2, a3, a4⟩ := trunc_cases h hN before
 refine hsp.conseq ?_
 rintro ⟨⟨A9, c9⟩, ⟨Aj9, cj9⟩, rs9⟩ hq
 dsimp only at hq
 rcases a4 with ⟨b1, b2⟩ | ⟨b1, b2⟩ | ⟨m', m1, m2, m3, ⟨b1, b2, b3, b4, b5, b6, b7⟩ | ⟨b1, b2, b3, g, b4⟩⟩
 ·omega
 ·obtain rfl : m = 0 := by omega
  rw [b1] at hq
  exact ⟨⟨D, A9, c9, J, Aj9, cj9, rs9⟩, ⟨hq, rfl, hl, by simp only []; omega, b2.symm, rfl, rfl, Out.refl _ _ _, c0, k0, h.up (by omega)⟩, by rw [b1], by rw [b1]; exact weak_refl _⟩
 ·obtain rfl : m = m' := by omega
  rw [b1] at hq
  exact ⟨⟨(truncM D J before (rs.map Bs.s)).1, A9, c9, (truncM D J before (rs.map Bs.s)).2.1, Aj9, cj9, rs9⟩, ⟨hq, a2, by rw [b6, hl], a3, b2, b3, by rw [if_neg (by omega)]; exact b4, b5, _, _, b7⟩, by rw [b1], weak_refl _⟩
 ·rw [hl] at b3; cases b3
end Go.Proofs.YtkjlbedebmffgaaGreat.Sx
namespace Go.Proofs.YtkjlbedebmffgaaGreat.Sx
open Go.ChangeShapes Go.WideShapes Go.ChangeAt Go.RowKit
structure RO (w : World) (H : List Ch) : Prop where
 ok : ∀ c ∈ H, c.ok w
 ro : ∀ c ∈ H, c.ex = false
theorem RO.nil {w : World} : RO w [] := ⟨fun c h => (by cases h), fun c h => (by cases h)⟩
theorem RO.cons {w : World} {c : Ch} {H : List Ch} (h : c.ok w) (e : c.ex = false) (k : RO w H) : RO w (c :: H) :=
 ⟨fun d hd => by rcases List.mem_cons.1 hd with rfl | hd; exact h; exact k.ok d hd, fun d hd => by rcases List.mem_cons.1 hd with rfl | hd; exact e; exact k.ro d hd⟩
theorem RO.sat {w : World} {H : List Ch} (h : RO w H) : Sat w ([] ++ H) :=
 ⟨h.ok, List.Pairwise.imp_of_mem (R := fun _ _ => True) (fun ha hb _ hm => by rw [h.ro _ ha, h.ro _ hb] at hm; simp at hm) (List.pairwise_of_forall (fun _ _ => trivial))⟩
section
variable {H : Type} {enc : TypeId × Value → H}
theorem u8_open {P : Program} {r : Reach} {b0 t base : Nat} {sp : Nat → Bool} {hd : Bool} {w : World} {v : Value} {d : DataW H} {p : List MemPlace} (ht : P.underlying t = some (.int .u8)) (hv : Value.okWide P w r b0 t v) (h : DataW.Trod enc P w base sp hd t v d p) :
  ∃ a : UInt8, v = bv a := by
 obtain ⟨a, rfl, _, _, hw⟩ := open_int ht hv h
 have hx : 0 ≤ a ∧ a ≤ 255 := by simpa [Lit.wf, IntKind.min, IntKind.max, IntKind.signed, IntKind.bits] using hw
 refine ⟨UInt8.ofNat a.toNat, ?_⟩
 have e : ((UInt8.ofNat a.toNat).toNat : Int) = a := by
  have : (UInt8.ofNat a.toNat).toNat = a.toNat % 256 := by simp
  omega
 show Value.int .u8 a = .int .u8 _
 rw [e]
end
end Go.Proofs.YtkjlbedebmffgaaGreat.Sx
namespace Go.Proofs.YtkjlbedebmffgaaGreat.Sx
open Go.ChangeShapes Go.WideShapes Go.ChangeAt Go.RowKit
section
variable {H : Type} {enc : TypeId × Value → H}
theorem trod_at1 {P : Program} {w : World} {base : Nat} {sp : Nat → Bool} {hd : Bool} {n t o : Nat} {f : Field} {cs : List Value} {v : Value} (h : ∃ x, DataW.trod enc P w base sp hd n f.type ((cs.drop f.offset).take (P.cellsOf f.type)) = some x) (ht : f.type = t) (hc : P.cellsOf t = 1) (ho : f.offset = o) (hv : cs[o]? = some v) :
  ∃ x, DataW.trod enc P w base sp hd n t [v] = some x := by
 subst ht
 subst ho
 rw [hc] at h
 have hlt := (List.getElem?_eq_some_iff.1 hv).1
 have e : (cs.drop f.offset).take 1 = [v] := by
  rw [List.drop_eq_getElem_cons hlt, List.take_succ_cons, List.take_zero, (List.getElem?_eq_some_iff.1 hv).2]
 rw [e] at h
 exact h
section
variable {P : Program}
theorem struct_at1 {w : World} {base : Nat} {sp : Nat → Bool} {hd : Bool} {n t o i : Nat} {fs : Array Field} {cs : List Value} {xs : List (DataW H × List MemPlace)} {v : Value} {f : Field} (hg : ∀ (i : Nat) (f : Field), fs[i]? = some f → DataW.trod enc P w base sp hd n f.type ((cs.drop f.offset).take (P.cellsOf f.type)) = xs[i]?) (hl : xs.length = fs.size)
  (hf : fs[i]? = some f) (ht : f.type = t) (hc : P.cellsOf t = 1) (ho : f.offset = o) (hv : cs[o]? = some v) : ∃ x, DataW.trod enc P w base sp hd n t [v] = some x ∧ xs[i]? = some x := by
 have hi : i < xs.length := by rw [hl]; exact (Array.getElem?_eq_some_iff.1 hf).1
 have h := (hg i f hf).trans (List.getElem?_eq_getElem hi)
 obtain ⟨x, hx⟩ := trod_at1 ⟨_, h⟩ ht hc ho hv
 refine ⟨xs[i], ?_, List.getElem?_eq_getElem hi⟩
 subst ht
 subst ho
 rw [hc] at h
 have hlt := (List.getElem?_eq_some_iff.1 hv).1
 have e : (cs.drop f.offset).take 1 = [v] := by
  rw [List.drop_eq_getElem_cons hlt, List.take_succ_cons, List.take_zero, (List.getElem?_eq_some_iff.1 hv).2]
 rwa [e] at h
theorem slice_cells {w : World} {r : Reach} {b0 t e : Nat} {v : Value} (ht : P.underlying t = some (.slice e)) (hv : Value.okWide P w r b0 t v) : v.cells.toList = [v] := by
 cases v <;> simp [Value.okWide, Cell.okWide, Cell.ok, ht] at hv <;> rfl
end
set_option maxRecDepth 100000 in
theorem trod_op {w : World} {hd : Bool} {n : Nat} {cs : List Value} {x : DataW H × List MemPlace} (h : DataW.trod enc Tryz.prog w 0 (fun _ => true) hd n 32 cs = some x) : ∃ o : OpR, cs = o.cells ∧ o.n < 65536 := by
 obtain ⟨xs, m, _, _, hl, hlen, hg⟩ := DataW.trod_struct Tryz.underlying32 h
 have e5 : Tryz.prog.cellsOf 5 = 1 := by kernel_rfl
 have e40 : Tryz.prog.cellsOf 29 = 1 := by kernel_rfl
 have e23 : Tryz.prog.cellsOf 30 = 1 := by kernel_rfl
 rw [show Tryz.prog.cellsOf 32 = 4 by kernel_rfl] at hl
 match cs, hl with
 | [v0, v1, v2, v3], _ =>
  obtain ⟨_, h0, _⟩ := struct_at1 hg hlen (i := 0) rfl rfl e5 rfl rfl
  obtain ⟨_, h1, _⟩ := struct_at1 hg hlen (i := 1) rfl rfl e40 rfl rfl
  obtain ⟨_, h2, _⟩ := struct_at1 hg hlen (i := 2) rfl rfl e5 rfl rfl
  obtain ⟨_, h3, _⟩ := struct_at1 hg hlen (i := 3) rfl rfl e23 rfl rfl
  obtain ⟨kd, rfl⟩ := trod_byte Tryz.underlying5 h0
  obtain ⟨a, rfl, hw⟩ := trod_num Tryz.underlying29 h1
  obtain ⟨b, rfl⟩ := trod_byte Tryz.underlying5 h2
  obtain ⟨r, rfl, hr⟩ := trod_bytes Tryz.underlying30 Tryz.underlying5 (by kernel_rfl) h3
  have hx : 0 ≤ a ∧ a ≤ 65535 := by simpa [Lit.wf, IntKind.min, IntKind.max, IntKind.signed, IntKind.bits] using hw
  exact ⟨⟨kd, a.toNat, b, r⟩, by simp only [OpR.cells, Int.toNat_of_nonneg hx.1], by simp only []; omega⟩
set_option maxRecDepth 100000 in
theorem ops_open {w : World} {r : Reach} {b0 : Nat} {v : Value} {d : DataW H} {p : List MemPlace} (hv : Value.okWide Tryz.prog w r b0 22 v) (h : DataW.Trod enc Tryz.prog w 0 (fun _ => true) true 22 v d p) :
  ∃ (A : Option Addr) (M c : Nat) (l : List OpR), v = .slice A M c ∧ l.length = M ∧ (rd (.slice A M c) 4 M (l.flatMap OpR.cells)).ok w ∧ ∀ o ∈ l, o.n < 65536 := by
 obtain ⟨fuel, hf⟩ := h
 rw [slice_cells Tryz.underlying22 hv] at hf
 have e42 : Tryz.prog.cellsOf 32 = 4 := by kernel_rfl
 rcases Deep.open_slice Tryz.underlying22 hf with ⟨h1, _⟩ | ⟨a, len, cap, m, n, D, Pl, h1, _, hl, hm, hmm, hx, hV⟩
 ·simp only [List.cons.injEq, and_true] at h1
  subst h1
  exact ⟨none, 0, 0, [], rfl, rfl, ⟨rfl, by simp [maxLen], none, 0, rfl, Nat.le_refl _, fun hp => absurd hp (by simp)⟩, (by intro x hx; cases hx)⟩
 ·simp only [List.cons.injEq, and_true] at h1
  subst h1
  simp only [if_true] at hmm
  have hB : ∀ i, i < len → ∃ o : OpR, w.cells? 0 (a.add (i * 4)) 4 = some o.cells ∧ o.n < 65536 := fun i hi => by
   obtain ⟨cs, g1, g2⟩ := hV i (by omega)
   rw [e42] at g1
   obtain ⟨o, rfl, ho⟩ := trod_op g2
   exact ⟨o, g1, ho⟩
  obtain ⟨y, hy⟩ : ∃ y : Nat → OpR, ∀ i, i < len → w.cells? 0 (a.add (i * 4)) 4 = some (y i).cells ∧ (y i).n < 65536 := by
   refine ⟨fun i => if hi : i < len then (hB i hi).choose else ⟨0, 0, 0, ⟨none, 0, []⟩⟩, fun i hi => ?_⟩
   have := (hB i hi).choose_spec
   simpa [hi] using this
  have hfl := flat_len (f := OpR.cells) (sz := 4) (fun _ => rfl) ((List.range len).map y)
  refine ⟨some a, len, cap, (List.range len).map y, rfl, by simp, ⟨by rw [hfl]; simp, by omega, some a, cap, rfl, hl, fun hp => ?_⟩, fun s hs => ?_⟩
  ·have hp' : 0 < len := by rw [hfl] at hp; simp at hp; omega
   have hc0 := (World.cells?_some (hy 0 hp').1).2.2 0 (by decide)
   have hs0 : (y 0).cells[0]? = some (bv (y 0).k) := rfl
   rw [hs0] at hc0
   have hs := World.cell?_spot hc0
   obtain ⟨ab, ao, asp⟩ := a
   have hs' : asp = none := by simpa [Addr.add] using hs
   subst hs'
   refine ⟨ab, ao, rfl, fun j u hu => ?_⟩
   have hj : j < len * 4 := by
    have := (List.getElem?_eq_some_iff.1 hu).1
    rw [hfl] at this
    simpa using this
   have hi : j / 4 < len := by omega
   have hfa := flat_at (f := OpR.cells) (sz := 4) (fun _ => rfl) ((List.range len).map y) (j / 4) (y (j / 4)) (by simp [hi])
   have hc := (World.cells?_some (hy (j / 4) hi).1).2.2 (j % 4) (by omega)
   rw [add_at, add_at, ← hfa, List.getElem?_take, if_pos (by omega), List.getElem?_drop] at hc
   have e1 : j / 4 * 4 + j % 4 = j := by omega
   rw [e1, Nat.add_assoc, e1] at hc
   exact hc.trans hu
  ·obtain ⟨i, hi, rfl⟩ := List.mem_map.1 hs
   exact (hy i (List.mem_range.1 hi)).2
end
end Go.Proofs.YtkjlbedebmffgaaGreat.Sx
namespace Go.Proofs.YtkjlbedebmffgaaGreat.Sx
open Go.RowKit Go.Proofs.YtkjlbedebmffgaaGreat.Ty
attribute [local irreducible] blk own rd rx frameC
set_option maxHeartbeats 400000 in
set_option maxRecDepth 10000 in
theorem f4_spec : Spec Tryz.prog 4 [] [] [] (R := Unit) (fun _ => True) (fun _ => .bool true) (fun _ => []) := by
 refine Spec.intro Tryz.func4 Tryz.ntmps4 rfl (by simp) (by simp) fun w0 => ?_
 refine W283 ?_
 refine WX.regs (L' := []) ?_
 refine W249 ?_
 refine wlx (op_call (f12_spec 8 (by omega)) ca12 (lt_ rfl) rfl) rfl ?_
 rintro ⟨bd, bm⟩ _
 refine W341 ?_
 refine W80 ?_
 refine W269 ?_
 refine W256 ?_
 refine W361 ?_
 refine wlgx (op_call (f13_new bd bm none 0 (Dk.new 8) 0 8 (by omega) (by omega) (by decide) (by decide) rfl rfl (fun a _ _ => gof_zero) (by decide)) ca13 (lt_ rfl) rfl) rfl rfl rfl ?_
 rintro ⟨D1, A1, c1⟩ ⟨hn1, hl1, hp1, ho1, J0, hj1, hj2, hj3, hs1⟩
 refine W44 ?_
 refine W285 ?_
 refine WX.regs (L' := [(1, _), (22, _)]) ?_
 refine W281 ?_
 refine W261 ?_
 refine wlx (op_call (f14_live bd bm A1 c1 D1 J0 hs1 (by omega) (by rw [hp1]; decide) hl1 0 hj1) ca14 (lt_ rfl) rfl) rfl ?_
 rintro ⟨⟨D2, A2, c2, J2, Aj2, cj2, rs2⟩, bj, ⟨Ax, cx⟩, xs⟩ ⟨hr2, hx2, hn2, hl2, hp2, hf2, hfi2, hg2, ho2, hs2⟩
 dsimp only at hr2 hx2 hn2 hl2 hp2 hf2 hfi2 hg2 ho2 hs2 ⊢
 obtain rfl : xs = [] := List.map_eq_nil_iff.1 hx2
 have hse2 := hs2.geo.se
 have hu2 := hs2.used
 simp only [needs] at hu2
 refine W296 ?_
 refine W20 ?_
 refine W266 ?_
 refine WX.regs (L' := [(3, _), (4, _), (5, _)]) ?_
 refine W269 ?_
 refine W256 ?_
 refine W361 ?_
 refine wlgv (op_len Tryz.underlying52 (lt_ rfl) rfl) rfl rfl rfl ?_
 refine W44 ?_
 refine W15 ?_
 refine W361 ?_
 refine wlgx (op_call (f15_spec bj bd J2 Aj2 rs2.length cj2) ca15 (lt_ rfl) rfl) rfl rfl rfl ?_
 rintro _ _
 rw [hg2, hj3]
 refine W44 ?_
 refine W15 ?_
 refine W361 ?_
 refine wlgx (op_call (f16_spec bj bd J2 Aj2 rs2.length cj2 (by omega)) ca16 (lt_ rfl) rfl) rfl rfl rfl ?_
 rintro _ _
 rw [show J2.se / 2 - J2.used = 3 by omega]
 refine W44 ?_
 refine W285 ?_
 refine WX.regs (L' := [(3, _), (45, _)]) ?_
 refine W281 ?_
 refine W261 ?_
 refine wl1 (op_make (z1 := (.int .u8 0)) (sz := 1) (zero := []) Tryz.underlying30 ti5 (lt_ rfl) rfl rfl (by omega) (by omega) (by omega) (by omega)) rfl fun b1 => ?_
 rw [show ((200 : Int)).toNat = 200 from rfl]
 refine WL.blkEq (b := b1) (bvs (List.replicate 200 0)) xK (bvs_rep0 200) ?_
 refine WL.turn (c := blk b1 (bvs (List.replicate 200 0)) 5) (d := own (.slice (some ⟨b1, 0, none⟩) 200 200) 5 1 200 (bvs (List.replicate 200 0))) xK (own_le_blk (by rw [bvs_length, List.length_replicate]) (small_len (by omega))) ?_
 refine wlx (op_call (f17_live bd bm bj A2 c2 D2 J2 Aj2 cj2 rs2 hs2 hr2 (by omega) (by rw [hp2]; decide) hl2 (some ⟨b1, 0, none⟩) 200 200 (List.replicate 200 0) (List.length_replicate ..) (by omega) (by decide)) ca17 (lt_ rfl) rfl) rfl ?_
 rintro ⟨D3, A3, c3, J3, Aj3, cj3, rs3⟩ ⟨hr3, hn3, hl3, hp3, hf3, hfi3, hg3, ho3, hs3⟩
 dsimp only at hr3 hn3 hl3 hp3 hf3 hfi3 hg3 ho3 hs3 ⊢
 rw [hp2] at hp3
 simp only [List.length_nil] at hp3
 rw [hf2, hj2]
 refine W341 ?_
 refine WX.regs (L' := [(3, _), (6, _), (7, _)]) ?_
 refine W261 ?_
 refine wl1 (op_make (z1 := (.int .u8 0)) (sz := 1) (zero := []) Tryz.underlying30 ti5 (lt_ rfl) rfl rfl (by omega) (by omega) (by omega) (by omega)) rfl fun b2 => ?_
 rw [show ((300 : Int)).toNat = 300 from rfl]
 refine WL.blkEq (b := b2) (bvs (List.replicate 300 0)) xK (bvs_rep0 300) ?_
 refine WL.turn (c := blk b2 (bvs (List.replicate 300 0)) 5) (d := own (.slice (some ⟨b2, 0, none⟩) 300 300) 5 1 300 (bvs (List.replicate 300 0))) xK (own_le_blk (by rw [bvs_length, List.length_replicate]) (small_len (by omega))) ?_
 refine wlx (op_call (f17_live bd bm bj A3 c3 D3 J3 Aj3 cj3 rs3 hs3 hr3 (by omega) (by omega) hl3 (some ⟨b2, 0, none⟩) 300 300 (List.replicate 300 0) (List.length_replicate ..) (by omega) (by decide)) ca17 (lt_ rfl) rfl) rfl ?_
 rintro ⟨D4, A4, c4, J4, Aj4, cj4, rs4⟩ ⟨hr4, hn4, hl4, hp4, hf4, hfi4, hg4, ho4, hs4⟩
 dsimp only at hr4 hn4 hl4 hp4 hf4 hfi4 hg4 ho4 hs4 ⊢
 rw [hf3, hf2, hj2]
 refine W341 ?_
 refine WX.regs (L' := [(3, _), (6, _), (7, _), (8, _), (9, _)]) ?_
 refine W249 ?_
 refine WL.nilrd 1 ?_
 refine W4 ?_
 refine wlx (op_call (f17_full bd bm bj A4 c4 D4 J4 Aj4 cj4 rs4 hs4 hr4 (by omega) (by omega) none 0 0 [] rfl (by omega) (by decide)) ca17 (lt_ rfl) rfl) rfl ?_
 rintro ⟨D5, A5, c5, J5, Aj5, cj5, rs5⟩ ⟨hr5, hD5, hJ5⟩
 dsimp only at hr5 hD5 hJ5 ⊢
 subst hD5
 subst hJ5
 refine W341 ?_
 refine WX.regs (L' := [(3, _), (6, _), (7, _), (8, _), (9, _), (11, _)]) ?_
 refine W261 ?_
 refine W42 ?_
 refine W361 ?_
 refine W62 ?_
 refine W17 ?_
 refine W361 ?_
 refine W62 ?_
 refine W17 ?_
 refine W361 ?_
 refine W62 ?_
 refine W17 ?_
 refine W361 ?_
 refine W62 ?_
 refine W17 ?_
 refine W361 ?_
 refine wlgx (op_call (f18_live bd bm bj A5 c5 D5 J5 Aj5 cj5 rs5 hs4 hr5 (by omega) (by omega) hl4 1 (by decide) 1 (by omega)) ca18 (lt_ rfl) rfl) rfl rfl rfl ?_
 rintro ⟨D6, A6, c6, J6, Aj6, cj6, rs6⟩ ⟨hr6, hn6, hl6, hp6, hf6, hfi6, hg6, ho6, k6, k7, hs6⟩
 dsimp only at hr6 hn6 hl6 hp6 hf6 hfi6 hg6 ho6 hs6 ⊢
 have hse6 := hs6.geo.se
 have hu6 := hs6.used
 have hnd : needs (([] ++ [List.replicate 200 (0 : UInt8)] ++ [List.replicate 300 0]).drop 1) = 2 := by decide
 rw [hnd] at hu6
 rw [if_neg (by decide)] at hg6
 refine W62 ?_
 refine W17 ?_
 refine W361 ?_
 refine wlgx (op_call (f19_spec bj bd J6 Aj6 rs6.length cj6) ca19 (lt_ rfl) rfl) rfl rfl rfl ?_
 rintro _ _
 rw [hf6]
 refine W62 ?_
 refine W17 ?_
 refine W361 ?_
 refine wlgx (op_call (f15_spec bj bd J6 Aj6 rs6.length cj6) ca15 (lt_ rfl) rfl) rfl rfl rfl ?_
 rintro _ _
 rw [hg6, hg4, hg3, hg2, hj3]
 refine W62 ?_
 refine W17 ?_
 refine W361 ?_
 refine wlgx (op_call (f16_spec bj bd J6 Aj6 rs6.length cj6 (by omega)) ca16 (lt_ rfl) rfl) rfl rfl rfl ?_
 rintro _ _
 rw [show J6.se / 2 - J6.used = 1 by omega]
 refine W62 ?_
 refine W17 ?_
 refine W241 ?_
 refine W31 ?_
 refine W242 ?_
 exact Fin.ret1 xI (()) (trivial) Tryz.results4 (.tmp rfl) xT (by simp)
end Go.Proofs.YtkjlbedebmffgaaGreat.Sx
namespace Go.Proofs.YtkjlbedebmffgaaGreat.Sx
open Go.RowKit Go.Proofs.YtkjlbedebmffgaaGreat.Ty
attribute [local irreducible] blk own rd rx frameC
structure Wb where
 a : Int
 b : Bs
def Wb.cells (w : Wb) : List Value := [.int .i64 w.a, w.b.v]
def Wb.p (w : Wb) : Int × List UInt8 := (w.a, w.b.s)
structure Rd where
 A : Option Addr
 c : Nat
 ds : List Bs
 Aw : Option Addr
 cw : Nat
 ws : List Wb
 ops : Int
def Rd.cells (r : Rd) : List Value := [.slice r.A r.ds.length r.c, .slice r.Aw r.ws.length r.cw, .int .i64 (-1), .bool false, .int .i64 r.ops]
def lastW (ps : List (Int × List UInt8)) (i : Int) (s : List UInt8) : List UInt8 := ps.foldl (fun b p => if p.1 = i then p.2 else b) s
def Rd.V (r : Rd) (i : Int) : List UInt8 := lastW (r.ws.map Wb.p) i ((r.ds.map Bs.s).getD i.toNat [])
structure Rd.Ok (r : Rd) : Prop where
 n : r.ds.length ≤ 4096
 d : ∀ b ∈ r.ds, b.s.length = 256
 m : r.ws.length ≤ 1000000
 w : ∀ w ∈ r.ws, w.b.s.length = 256
def Rd.Like (r' r : Rd) : Prop := r'.ds.map Bs.s = r.ds.map Bs.s ∧ r'.ws.map Wb.p = r.ws.map Wb.p
theorem Rd.Like.V {r' r : Rd} (h : r'.Like r) : r'.V = r.V := by
 funext i
 unfold Rd.V
 rw [h.1, h.2]
theorem Rd.Like.Ok {r' r : Rd} (h : r'.Like r) (k : r.Ok) : r'.Ok := by
 have h1 := congrArg List.length h.1
 have h2 := congrArg List.length h.2
 rw [List.length_map, List.length_map] at h1 h2
 refine ⟨by rw [h1]; exact k.n, fun b hb => ?_, by rw [h2]; exact k.m, fun w hw => ?_⟩
 ·have := List.mem_map_of_mem (f := Bs.s) hb
  rw [h.1] at this
  obtain ⟨b', hb', e⟩ := List.mem_map.1 this
  rw [← e]; exact k.d b' hb'
 ·have := List.mem_map_of_mem (f := Wb.p) hw
  rw [h.2] at this
  obtain ⟨w', hw', e⟩ := List.mem_map.1 this
  have e2 : w'.b.s = w.b.s := congrArg Prod.snd e
  rw [← e2]; exact k.w w' hw'
theorem lastW_snoc (ps : List (Int × List UInt8)) (p : Int × List UInt8) (i : Int) (s : List UInt8) : lastW (ps ++ [p]) i s = if p.1 = i then p.2 else lastW ps i s := by
 unfold lastW
 rw [List.foldl_append]
 rfl
theorem lastW_len {ps : List (Int × List UInt8)} {i : Int} {s : List UInt8} {n : Nat} (h : ∀ p ∈ ps, p.2.length = n) (hs : s.length = n) : (lastW ps i s).length = n := by
 induction ps generalizing s with
 | nil => exact hs
 | cons p ps ih =>
  refine ih (fun q hq => h q (List.mem_cons_of_mem _ hq)) ?_
  show (if p.1 = i then p.2 else s).length = n
  split
  ·exact h p (List.mem_cons_self ..)
  ·exact hs
theorem wb_push (l : List Wb) (w : Wb) : l.flatMap Wb.cells ++ w.cells = (l ++ [w]).flatMap Wb.cells := by simp
theorem wbb_push (l : List Wb) (w : Wb) : l.map Wb.b ++ [w.b] = (l ++ [w]).map Wb.b := by simp
theorem wb_len (l : List Wb) (w : Wb) : l.length + 1 = (l ++ [w]).length := by simp
theorem Wb.p_take {ws : List Wb} {i : Nat} {w : Wb} (hw : ws[i]? = some w) (a : Int) (s : List UInt8) : lastW ((ws.take (i + 1)).map Wb.p) a s = if w.a = a then w.b.s else lastW ((ws.take i).map Wb.p) a s := by
 rw [take_snoc hw, List.map_append]
 exact lastW_snoc _ _ _ _
set_option maxHeartbeats 400000 in
set_option maxRecDepth 10000 in
theorem f82_spec (r : Rd) :
  Spec Tryz.prog 82 [.agg r.cells.toArray] [] [] (R := Unit) (fun _ => True) (fun _ => .tuple #[.agg ({ r with ops := IntKind.i64.wrap (r.ops + 1) } : Rd).cells.toArray, .bool false]) (fun _ => []) := by
 refine Spec.intro Tryz.func82 Tryz.ntmps82 rfl (by simp) (by simp) fun w0 => ?_
 refine W240 ?_
 refine wl1 (op_box (lt_ rfl) rfl rfl) rfl fun b1 => ?_
 refine wl1 (op_alloc ti39 (lt_ rfl)) rfl fun b2 => ?_
 refine W241 ?_
 refine W80 ?_
 refine W269 ?_
 refine wlv (op_fieldAddr fo39_2 (lt_ rfl) rfl) rfl ?_
 refine W21 ?_
 refine W42 ?_
 refine W2 ?_
 refine WX.regs (L' := [(1, _), (2, _), (6, _)]) ?_
 refine W281 ?_
 refine W269 ?_
 refine wlv (op_fieldAddr fo39_2 (lt_ rfl) rfl) rfl ?_
 refine W21 ?_
 refine W56 ?_
 refine W2 ?_
 refine WX.regs (L' := [(1, _), (2, _), (11, _)]) ?_
 refine W281 ?_
 refine W249 ?_
 refine wlv (op_fieldAddr fo39_4 (lt_ rfl) rfl) rfl ?_
 refine W21 ?_
 refine wlv (op_addW (lt_ rfl) rfl rfl) rfl ?_
 refine wlv (op_fieldAddr fo39_4 (lt_ rfl) rfl) rfl ?_
 refine W61 ?_
 refine W252 ?_
 refine WX.blkEq (b := b1) ({ r with ops := IntKind.i64.wrap (r.ops + 1) } : Rd).cells xK (by rfl) ?_
 refine W80 ?_
 refine W249 ?_
 refine W41 ?_
 refine W50 ?_
 refine W271 ?_
 refine W33 ?_
 refine W242 ?_
 exact Fin.ret2 xI (()) (trivial) Tryz.results82 rfl (.cellN rfl ag39 xM xL) (.tmp rfl) xT (by simp)
set_option maxHeartbeats 400000 in
set_option maxRecDepth 10000 in
theorem f33_spec (r : Rd) (i : Int) (h : 0 ≤ i ∧ i < r.ds.length) :
  Spec Tryz.prog 33 [.agg r.cells.toArray, .int .i64 i] [] [] (R := Unit) (fun _ => True) (fun _ => .bool true) (fun _ => []) := by
 refine Spec.intro Tryz.func33 Tryz.ntmps33 rfl (by simp) (by simp) fun w0 => ?_
 refine W240 ?_
 refine wl1 (op_box (lt_ rfl) rfl rfl) rfl fun b1 => ?_
 refine W241 ?_
 refine W80 ?_
 refine W261 ?_
 refine W66 ?_
 rw [show decide (i ≥ 0) = true from decide_eq_true h.1]
 refine W361 ?_
 refine wlgv (op_fieldAddr fo39_0 (lt_ rfl) rfl) rfl rfl rfl ?_
 refine W268 ?_
 refine W98 ?_
 rw [show decide (i < (r.ds.length : Int)) = true from decide_eq_true h.2]
 refine W17 ?_
 refine W241 ?_
 refine W322 ?_
 exact Fin.ret1 xI (()) (trivial) Tryz.results33 (.tmp rfl) xT (by simp)
set_option maxHeartbeats 400000 in
set_option maxRecDepth 10000 in
theorem f83_spec (r : Rd) (i : Int) (h : 0 ≤ i ∧ i < r.ds.length) (hr : r.Ok) :
  Spec Tryz.prog 83 [.agg r.cells.toArray, .int .i64 i] [] [rd (.slice r.A r.ds.length r.c) 1 r.ds.length (r.ds.map Bs.v), rowsC false r.ds, rd (.slice r.Aw r.ws.length r.cw) 2 r.ws.length (r.ws.flatMap Wb.cells), rowsC false (r.ws.map Wb.b)] (R := Option Addr × Nat) (fun _ => True) (fun q => .slice q.1 (r.V i).length q.2) (fun q => [own (.slice q.1 (r.V i).length q.2) 5 1 (r.V i).length (bvs (r.V i))]) := by
 obtain ⟨b0, hb0⟩ : ∃ b, r.ds[i.toNat]? = some b := ⟨r.ds[i.toNat]'(by omega), List.getElem?_eq_getElem _⟩
 have hl0 := hr.d b0 (List.mem_of_getElem? hb0)
 have hrm := hr.m
 have hV : r.V i = lastW (r.ws.map Wb.p) i b0.s := by unfold Rd.V; simp [List.getD_eq_getElem?_getD, hb0]
 refine Spec.intro Tryz.func83 Tryz.ntmps83 rfl (by simp) (by simp) fun w0 => ?_
 refine W240 ?_
 refine wl1 (op_box (lt_ rfl) rfl rfl) rfl fun b1 => ?_
 refine W241 ?_
 refine W80 ?_
 refine W249 ?_
 refine wl1 (op_lit0 Tryz.underlying30 ti5 (lt_ rfl)) rfl fun b2 => ?_
 refine W117 ?_
 refine W65 ?_
 refine W4 ?_
 refine W95 ?_
 refine wlv (op_loadS fl30 (lt_ rfl) rfl xS (rows_at' hb0 (by omega))) rfl ?_
 refine wl2 (op_append0 Tryz.underlying30 ti5 rfl (by decide) (lt_ rfl) rfl rfl xK ⟨rowsC false r.ds, xM, rowsC_get (r := b0) (List.mem_of_getElem? hb0)⟩ xO (by omega) (by omega)) rfl fun A1 c1 => ?_
 refine W241 ?_
 refine WX.regs (L' := [(1, _), (2, _), (5, _)]) ?_
 refine W310 ?_
 refine WX.regs (L' := [(1, _), (2, _), (5, _), (6, _)]) ?_
 refine W294 ?_
 refine WC.loop (X := Nat × Option Addr × Nat) (fun x => r.ws.length - x.1) (fun x => x.1 ≤ r.ws.length) (fun x => [(1, .int .i64 i), (2, .pointer (some ⟨b1, 0, none⟩)), (5, .slice x.2.1 (lastW ((r.ws.take x.1).map Wb.p) i b0.s).length x.2.2), (6, .int .i64 (x.1 : Int))]) (fun x => [own (.slice x.2.1 (lastW ((r.ws.take x.1).map Wb.p) i b0.s).length x.2.2) 5 1 (lastW ((r.ws.take x.1).map Wb.p) i b0.s).length (bvs (lastW ((r.ws.take x.1).map Wb.p) i b0.s)), blk b1 r.cells 39, rd (.slice r.A r.ds.length r.c) 1 r.ds.length (r.ds.map Bs.v), rowsC false r.ds, rd (.slice r.Aw r.ws.length r.cw) 2 r.ws.length (r.ws.flatMap Wb.cells), rowsC false (r.ws.map Wb.b), frameC w0 (MutF [])]) ((0, A1, c1)) (Nat.zero_le _) (fun a w hs => hs.sub xY xT) ?_
 rintro ⟨q, Ab, cb⟩ hq
 try dsimp only at hq ⊢
 refine W328 ?_
 refine W105 ?_
 refine W306 ?_
 refine W265 ?_
 refine WX.regs (L' := [(1, _), (2, _), (5, _), (6, _), (18, _)]) ?_
 refine W0 ?_
 refine WC.cond rfl (fun h1 => ?_) (fun h1 => ?_)
 ·
  refine W298 ?_
  obtain ⟨w, hw⟩ : ∃ w, r.ws[q]? = some w := ⟨r.ws[q]'(by omega), List.getElem?_eq_getElem _⟩
  have hx : ∀ j, j = q * 2 → ((r.ws.flatMap Wb.cells).drop j).take 2 = w.cells := fun j hj => by rw [hj]; exact flat_at (f := Wb.cells) (sz := 2) (fun _ => rfl) r.ws q w hw
  have hwl := hr.w w (List.mem_of_getElem? hw)
  refine W105 ?_
  refine wlv (op_load1 fl37 (lt_ rfl) rfl xM rfl) rfl ?_
  refine W4 ?_
  refine wlv (op_index Tryz.underlying37 sz84 (lt_ rfl) rfl rfl (by omega) (by omega) (by decide) xS) rfl ?_
  refine wlv (op_fieldAddrS fo84_0 (lt_ rfl) rfl xS (by rw [flat_len (f := Wb.cells) (sz := 2) (fun _ => rfl)]; omega)) rfl ?_
  refine wlv (op_loadS fl3 (lt_ rfl) rfl xS ((row_get (k := 0) (hx _ (by omega)) (by decide)).trans rfl)) rfl ?_
  refine W4 ?_
  refine W42 ?_
  refine W2 ?_
  refine WX.regs (L' := [(1, _), (2, _), (5, _), (6, _), (28, _)]) ?_
  refine W0 ?_
  refine WC.cond rfl (fun h2 => ?_) (fun h2 => ?_)
  ·
   have hcur : (lastW ((r.ws.take (q + 1)).map Wb.p) i b0.s) = w.b.s := by rw [Wb.p_take hw, if_pos h2]
   refine W3 ?_
   refine wl1 (op_lit0 Tryz.underlying30 ti5 (lt_ rfl)) rfl fun b3 => ?_
   refine W105 ?_
   refine wlv (op_load1 fl37 (lt_ rfl) rfl xM rfl) rfl ?_
   refine W4 ?_
   refine wlv (op_index Tryz.underlying37 sz84 (lt_ rfl) rfl rfl (by omega) (by omega) (by decide) xS) rfl ?_
   refine wlv (op_fieldAddrS fo84_1 (lt_ rfl) rfl xS (by rw [flat_len (f := Wb.cells) (sz := 2) (fun _ => rfl)]; omega)) rfl ?_
   refine wlv (op_loadS fl30 (lt_ rfl) rfl xS ((row_get (k := 1) (hx _ (by omega)) (by decide)).trans rfl)) rfl ?_
   refine wl2 (op_append0 Tryz.underlying30 ti5 rfl (by decide) (lt_ rfl) rfl rfl xK ⟨rowsC false (r.ws.map Wb.b), xM, rowsC_get (r := w.b) (List.mem_map_of_mem (List.mem_of_getElem? hw))⟩ xO (by omega) (by omega)) rfl fun A2 c2 => ?_
   refine W241 ?_
   rw [← hcur]
   refine WX.regs (L' := [(1, _), (2, _), (5, _), (6, _)]) ?_
   refine W352 ?_
   refine WX.regs (L' := [(1, _), (2, _), (5, _), (6, _)]) ?_
   refine WX.meet ((q + 1, A2, c2)) ⟨by simp only []; omega, by simp only []; omega⟩ (fun a w hs => hs.sub xY xT)
  ·
   have hcur : (lastW ((r.ws.take (q + 1)).map Wb.p) i b0.s) = (lastW ((r.ws.take q).map Wb.p) i b0.s) := by rw [Wb.p_take hw, if_neg h2]
   rw [← hcur]
   refine W291 ?_
   refine W0 ?_
   refine W329 ?_
   refine WX.regs (L' := [(1, _), (2, _), (5, _), (6, _)]) ?_
   refine WX.meet ((q + 1, Ab, cb)) ⟨by simp only []; omega, by simp only []; omega⟩ (fun a w hs => hs.sub xY xT)
 ·
  refine W264 ?_
  refine W261 ?_
  refine W241 ?_
  refine W322 ?_
  obtain rfl : q = r.ws.length := by omega
  rw [List.take_of_length_le (Nat.le_refl _), ← hV]
  exact Fin.ret1 xI ((Ab, cb)) (trivial) Tryz.results83 (.tmp rfl) xT (by simp)
end Go.Proofs.YtkjlbedebmffgaaGreat.Sx
namespace Go.Proofs.YtkjlbedebmffgaaGreat.Sx
open Go.RowKit Go.Proofs.YtkjlbedebmffgaaGreat.Ty
attribute [local irreducible] blk own rd rx frameC
def putV (V : Int → List UInt8) (a : Int) (p : List UInt8) (i : Int) : List UInt8 := if i = a then p else V i
theorem lastW_idem (ps : List (Int × List UInt8)) (i : Int) (s : List UInt8) : lastW ps i (lastW ps i s) = lastW ps i s := by
 have key : ∀ (ps : List (Int × List UInt8)), (∀ s, lastW ps i s = s) ∨ ∃ x, ∀ s, lastW ps i s = x := by
  intro ps
  induction ps with
  | nil => exact .inl fun s => rfl
  | cons p ps ih =>
   rcases ih with h | ⟨x, h⟩
   ·by_cases hp : p.1 = i
    ·exact .inr ⟨p.2, fun s => by show lastW ps i (if p.1 = i then p.2 else s) = _; rw [if_pos hp, h]⟩
    ·exact .inl fun s => by show lastW ps i (if p.1 = i then p.2 else s) = _; rw [if_neg hp, h]
   ·exact .inr ⟨x, fun s => h _⟩
 rcases key ps with h | ⟨x, h⟩
 ·rw [h, h]
 ·rw [h, h]
theorem rows_put {rs : List Bs} {i : Nat} {b : Bs} (h : i < rs.length) : pset (rs.map Bs.v) (i * 1) [b.v] = (rs.set i b).map Bs.v := by
 rw [Nat.mul_one, pset_one _ _ _ (by simpa using h), List.map_set]
structure Rd.Wrote (q r : Rd) (a : Int) (p : List UInt8) : Prop where
 V : q.V = putV r.V a p
 n : q.ds.length = r.ds.length
 m : q.ws.length = r.ws.length + 1
 ok : q.Ok
theorem wrote_of {q r2 r : Rd} {a : Int} {A : Option Addr} {c : Nat} {p : List UInt8} (hl : r2.Like r) (hok : r.Ok) (hm : r.ws.length + 1 ≤ 1000000) (hp : p.length = 256) (hd : q.ds = r2.ds) (hw : q.ws = r2.ws ++ [⟨a, A, c, p⟩]) : q.Wrote r a p := by
 have hk := hl.Ok hok
 have h1 := congrArg List.length hl.1
 have h2 := congrArg List.length hl.2
 rw [List.length_map, List.length_map] at h1 h2
 refine ⟨?_, by rw [hd]; exact h1, by rw [hw, List.length_append, h2]; rfl, ⟨by rw [hd]; exact hk.n, by rw [hd]; exact hk.d, by rw [hw, List.length_append, h2]; exact hm, fun w hm => ?_⟩⟩
 ·funext i
  rw [← hl.V]
  unfold Rd.V putV
  rw [hd, hw, List.map_append]
  show lastW (List.map Wb.p r2.ws ++ [(a, p)]) i _ = _
  rw [lastW_snoc]
  by_cases h : i = a
  ·rw [if_pos h.symm, if_pos h]
  ·rw [if_neg (fun k => h k.symm), if_neg h]
 ·rw [hw] at hm
  rcases List.mem_append.1 hm with hm | hm
  ·exact hk.w w hm
  ·rw [List.mem_singleton.1 hm]; exact hp
theorem Rd.V_in {r : Rd} {i : Int} (h : 0 ≤ i ∧ i < r.ds.length) (k : r.Ok) : (r.V i).length = 256 := by
 refine lastW_len (fun p hp => ?_) ?_
 ·obtain ⟨w, hw, rfl⟩ := List.mem_map.1 hp
  exact k.w w hw
 ·rw [List.getD_eq_getElem?_getD, List.getElem?_map, List.getElem?_eq_getElem (show i.toNat < r.ds.length by omega)]
  exact k.d _ (List.getElem_mem _)
theorem Rd.set_V {r : Rd} {i : Nat} {A : Option Addr} {c : Nat} {x : List UInt8} (hx : x = r.V i) (h : i < r.ds.length) {j : Int} (hj0 : 0 ≤ j) : ({ r with ds := r.ds.set i ⟨A, c, x⟩ } : Rd).V j = r.V j := by
 subst hx
 unfold Rd.V
 simp only [List.map_set]
 by_cases hj : j.toNat = i
 ·rw [hj, List.getD_eq_getElem?_getD, List.getElem?_set_self (by rw [List.length_map]; exact h)]
  obtain rfl : j = i := by omega
  simp only [Option.getD_some, Int.toNat_natCast]
  rw [lastW_idem]
 ·simp only [List.getD_eq_getElem?_getD]
  rw [List.getElem?_set_ne (fun k => hj k.symm)]
structure Rd.Flushing (q r : Rd) (i : Nat) : Prop where
 V : ∀ j, 0 ≤ j → q.V j = r.V j
 n : q.ds.length = r.ds.length
 ok : q.Ok
 d : ∀ j : Nat, j < i → (q.ds.map Bs.s)[j]? = some (r.V j)
theorem Rd.Flushing.step {q r : Rd} {i : Nat} (h : q.Flushing r i) (hi : i < r.ds.length) {A : Option Addr} {c : Nat} : ({ q with ds := q.ds.set i ⟨A, c, q.V i⟩ } : Rd).Flushing r (i + 1) := by
 have hl : (q.V i).length = 256 := Rd.V_in ⟨by omega, by have := h.n; omega⟩ h.ok
 refine ⟨fun j hj => by rw [Rd.set_V rfl (by rw [h.n]; exact hi) hj, h.V j hj], by simp only [List.length_set]; exact h.n, ⟨by simp only [List.length_set]; exact h.ok.n, fun b hb => ?_, h.ok.m, h.ok.w⟩, fun j hj => ?_⟩
 ·rcases List.mem_or_eq_of_mem_set hb with hb | rfl
  ·exact h.ok.d b hb
  ·exact hl
 ·simp only [List.map_set]
  by_cases e : j = i
  ·subst e
   rw [List.getElem?_set_self (by rw [List.length_map, h.n]; exact hi), h.V j (by omega)]
  ·rw [List.getElem?_set_ne (fun k => e k.symm)]
   exact h.d j (by omega)
structure Rd.Flushed (q r : Rd) : Prop where
 V : ∀ i : Int, 0 ≤ i → i < r.ds.length → q.V i = r.V i
 n : q.ds.length = r.ds.length
 m : q.ws = []
 ok : q.Ok
theorem Rd.Flushing.done {q r : Rd} (h : q.Flushing r r.ds.length) {Aw : Option Addr} {cw : Nat} : ({ q with Aw := Aw, cw := cw, ws := [] } : Rd).Flushed r := by
 refine ⟨fun i h1 h2 => ?_, h.n, rfl, ⟨h.ok.n, h.ok.d, Nat.zero_le _, fun w hw => by cases hw⟩⟩
 have := h.d i.toNat (by omega)
 rw [show ((i.toNat : Nat) : Int) = i by omega] at this
 unfold Rd.V
 simp only [List.map_nil, List.getD_eq_getElem?_getD, this, Option.getD_some]
 rfl
theorem Rd.new_V {A : Option Addr} {c n : Nat} {ds : List Bs} {Aw : Option Addr} {cw : Nat} {ops i : Int} (h : ds.map Bs.s = List.replicate n (List.replicate 256 0)) (hi : 0 ≤ i ∧ i < n) : (⟨A, c, ds, Aw, cw, [], ops⟩ : Rd).V i = List.replicate 256 0 := by
 unfold Rd.V
 simp only [h, List.map_nil, List.getD_eq_getElem?_getD, List.getElem?_replicate, if_pos (show i.toNat < n by omega), Option.getD_some]
 rfl
theorem new_ok {A : Option Addr} {c n i : Nat} {ds : List Bs} {Aw : Option Addr} {cw : Nat} {ops : Int} (hi : i = n) (h : ds.map Bs.s = List.replicate i (List.replicate 256 0)) (hl : ds.length = i) (hn : n ≤ 4096) : (∀ j, 0 ≤ j → j < (n : Int) → (⟨A, c, ds, Aw, cw, [], ops⟩ : Rd).V j = List.replicate 256 0) ∧ (⟨A, c, ds, Aw, cw, [], ops⟩ : Rd).ds.length = n ∧ (⟨A, c, ds, Aw, cw, [], ops⟩ : Rd).ws = [] ∧ (⟨A, c, ds, Aw, cw, [], ops⟩ : Rd).Ok := by
 subst hi
 refine ⟨fun j h1 h2 => Rd.new_V h ⟨h1, h2⟩, hl, rfl, ⟨by simp only []; omega, fun b hb => ?_, Nat.zero_le _, fun w hw => by cases hw⟩⟩
 have := List.mem_map_of_mem (f := Bs.s) hb
 rw [h] at this
 rw [(List.mem_replicate.1 this).2, List.length_replicate]
set_option maxHeartbeats 400000 in
set_option maxRecDepth 10000 in
theorem f34_spec (r : Rd) (hr : r.Ok) :
  Spec Tryz.prog 34 [.agg r.cells.toArray] [] [rd (.slice r.A r.ds.length r.c) 1 r.ds.length (r.ds.map Bs.v), rowsC false r.ds, rd (.slice r.Aw r.ws.length r.cw) 2 r.ws.length (r.ws.flatMap Wb.cells), rowsC false (r.ws.map Wb.b)] (R := Rd) (fun q => q.Like r ∧ q.ops = r.ops) (fun q => .agg q.cells.toArray) (fun q => [own (.slice q.A q.ds.length q.c) 30 1 q.ds.length (q.ds.map Bs.v), rowsC true q.ds, own (.slice q.Aw q.ws.length q.cw) 84 2 q.ws.length (q.ws.flatMap Wb.cells), rowsC true (q.ws.map Wb.b)]) := by
 have hrn := hr.n
 have hrm := hr.m
 refine Spec.intro Tryz.func34 Tryz.ntmps34 rfl (by simp) (by simp) fun w0 => ?_
 refine W240 ?_
 refine wl1 (op_box (lt_ rfl) rfl rfl) rfl fun b1 => ?_
 refine wl1 (op_alloc ti39 (lt_ rfl)) rfl fun b2 => ?_
 refine W2 ?_
 refine W80 ?_
 refine W249 ?_
 refine W241 ?_
 refine WX.regs (L' := [(1, _), (2, _), (3, _)]) ?_
 refine W310 ?_
 refine W135 ?_
 refine W294 ?_
 refine W293 ?_
 refine WC.loop (X := Nat × List Bs × Option Addr × Nat) (fun x => r.ds.length - x.1) (fun x => x.1 ≤ r.ds.length ∧ x.2.1.map Bs.s = (r.ds.map Bs.s).take x.1) (fun x => [(1, .pointer (some ⟨b1, 0, none⟩)), (2, .pointer (some ⟨b2, 0, none⟩)), (3, .slice x.2.2.1 x.2.1.length x.2.2.2), (4, .int .i64 (x.1 : Int))]) (fun x => [own (.slice x.2.2.1 x.2.1.length x.2.2.2) 30 1 x.2.1.length (x.2.1.map Bs.v), rowsC true x.2.1, blk b1 r.cells 39, blk b2 [.slice none 0 0, .slice none 0 0, .int .i64 0, .bool false, .int .i64 0] 39, rd (.slice r.A r.ds.length r.c) 1 r.ds.length (r.ds.map Bs.v), rowsC false r.ds, rd (.slice r.Aw r.ws.length r.cw) 2 r.ws.length (r.ws.flatMap Wb.cells), rowsC false (r.ws.map Wb.b), frameC w0 (MutF [])]) ((0, [], none, 0)) (⟨Nat.zero_le _, rfl⟩) (fun a w hs => hs.sub xY xT) ?_
 rintro ⟨i, ds, Ad, cd⟩ ⟨hi, hds⟩
 try dsimp only at hi hds ⊢
 have hdl : ds.length = i := by have := congrArg List.length hds; rw [List.length_map, List.length_take, List.length_map] at this; omega
 refine W328 ?_
 refine W117 ?_
 refine W65 ?_
 refine W40 ?_
 refine W265 ?_
 refine WX.regs (L' := [(1, _), (2, _), (3, _), (4, _), (11, _)]) ?_
 refine W0 ?_
 refine WC.cond rfl (fun h1 => ?_) (fun h1 => ?_)
 ·
  refine W270 ?_
  refine W3 ?_
  obtain ⟨d0, hd0⟩ : ∃ b, r.ds[i]? = some b := ⟨r.ds[i]'(by omega), List.getElem?_eq_getElem _⟩
  have hl0 := hr.d d0 (List.mem_of_getElem? hd0)
  refine W4 ?_
  refine wl1 (op_lit0 Tryz.underlying30 ti5 (lt_ rfl)) rfl fun b3 => ?_
  refine W117 ?_
  refine W65 ?_
  refine W4 ?_
  refine W95 ?_
  refine wlv (op_loadS fl30 (lt_ rfl) rfl xS (rows_at' hd0 (by omega))) rfl ?_
  refine wl2 (op_append0 Tryz.underlying30 ti5 rfl (by decide) (lt_ rfl) rfl rfl xK ⟨rowsC false r.ds, xM, rowsC_get (r := d0) (List.mem_of_getElem? hd0)⟩ xO (by omega) (by omega)) rfl fun A1 c1 => ?_
  refine wl1 (op_lit1 Tryz.underlying36 ti30 rfl (by decide) (lt_ rfl) rfl rfl) rfl fun b4 => ?_
  refine wl2 (op_append Tryz.underlying36 ti30 rfl (by decide) (lt_ rfl) rfl rfl xK xS (by rfl) (by omega) (by omega)) rfl fun A2 c2 => ?_
  refine W241 ?_
  refine W135 ?_
  refine W352 ?_
  refine W135 ?_
  refine WX.ownEq (v := .slice A2 (ds.length + 1) c2) ((ds ++ [(⟨A1, c1, d0.s⟩ : Bs)]).map Bs.v) xK (by rw [← map_push]; rfl) ?_
  refine WX.merge2 (c1 := rowsC true ds) (c2 := own (.slice A1 d0.s.length c1) 5 1 d0.s.length (bvs d0.s)) (d := rowsC true (ds ++ [⟨A1, c1, d0.s⟩])) xK xK (rowsC_snoc (own_le_bs rfl) (fun _ => by simp)) ?_
  rw [len_push ds ⟨A1, c1, d0.s⟩]
  refine WX.meet ((i + 1, ds ++ [⟨A1, c1, d0.s⟩], A2, c2)) ⟨⟨by simp only []; omega, by rw [take_snoc (x := d0.s) (by simp [hd0]), List.map_append, hds]; rfl⟩, by simp only []; omega⟩ (fun a w hs => hs.sub xY xT)
 ·
  refine W284 ?_
  refine W241 ?_
  refine WX.regs (L' := [(1, _), (2, _), (3, _), (5, _)]) ?_
  refine W310 ?_
  refine WX.regs (L' := [(1, _), (2, _), (3, _), (5, _), (6, _)]) ?_
  refine W294 ?_
  refine WC.nilrows true ?_
  refine WC.nilslice 84 2 ?_
  refine WC.loop (X := Nat × List Wb × Option Addr × Nat) (fun x => r.ws.length - x.1) (fun x => x.1 ≤ r.ws.length ∧ x.2.1.map Wb.p = (r.ws.map Wb.p).take x.1) (fun x => [(1, .pointer (some ⟨b1, 0, none⟩)), (2, .pointer (some ⟨b2, 0, none⟩)), (3, .slice Ad ds.length cd), (5, .slice x.2.2.1 x.2.1.length x.2.2.2), (6, .int .i64 (x.1 : Int))]) (fun x => [own (.slice x.2.2.1 x.2.1.length x.2.2.2) 84 2 x.2.1.length (x.2.1.flatMap Wb.cells), rowsC true (x.2.1.map Wb.b), own (.slice Ad ds.length cd) 30 1 ds.length (ds.map Bs.v), rowsC true ds, blk b1 r.cells 39, blk b2 [.slice none 0 0, .slice none 0 0, .int .i64 0, .bool false, .int .i64 0] 39, rd (.slice r.A r.ds.length r.c) 1 r.ds.length (r.ds.map Bs.v), rowsC false r.ds, rd (.slice r.Aw r.ws.length r.cw) 2 r.ws.length (r.ws.flatMap Wb.cells), rowsC false (r.ws.map Wb.b), frameC w0 (MutF [])]) ((0, [], none, 0)) (⟨Nat.zero_le _, rfl⟩) (fun a w hs => hs.sub xY xT) ?_
  rintro ⟨j, ws, Aw, cw⟩ ⟨hj, hws⟩
  try dsimp only at hj hws ⊢
  have hwl : ws.length = j := by have := congrArg List.length hws; rw [List.length_map, List.length_take, List.length_map] at this; omega
  refine W328 ?_
  refine W105 ?_
  refine W306 ?_
  refine W265 ?_
  refine WX.regs (L' := [(1, _), (2, _), (3, _), (5, _), (6, _), (28, _)]) ?_
  refine W0 ?_
  refine WC.cond rfl (fun h2 => ?_) (fun h2 => ?_)
  ·
   refine W270 ?_
   refine WC.drawn (Hs := [blk b1 r.cells 39, rd (.slice r.Aw r.ws.length r.cw) 2 r.ws.length (r.ws.flatMap Wb.cells)]) mo 999 ?_
   obtain ⟨w, hw⟩ : ∃ w, r.ws[j]? = some w := ⟨r.ws[j]'(by omega), List.getElem?_eq_getElem _⟩
   have hx : ∀ k, k = j * 2 → ((r.ws.flatMap Wb.cells).drop k).take 2 = w.cells := fun k hk => by rw [hk]; exact flat_at (f := Wb.cells) (sz := 2) (fun _ => rfl) r.ws j w hw
   have hwl2 := hr.w w (List.mem_of_getElem? hw)
   refine W29 ?_
   refine WA.take (i := 1) rfl (by kernel_rfl) (fun _ _ _ h => h) rfl (op_fieldAddr fo39_1 (lt_ rfl) rfl) xT ?_
   refine WA.take (i := 2) rfl (by kernel_rfl) (fun _ _ _ h => h) rfl (op_load1 fl37 (lt_ rfl) rfl xM rfl) xT ?_
   refine W77 ?_
   refine WA.take (i := 4) rfl (by kernel_rfl) (fun _ _ _ h => h) rfl (op_index Tryz.underlying37 sz84 (lt_ rfl) rfl rfl (by omega) (by omega) (by decide) xS) xT ?_
   refine WA.take (i := 5) rfl (by kernel_rfl) (fun _ _ _ h => h) rfl (op_fieldAddrS fo84_0 (lt_ rfl) rfl xS (by rw [flat_len (f := Wb.cells) (sz := 2) (fun _ => rfl)]; omega)) xT ?_
   refine WA.take (i := 6) rfl (by kernel_rfl) (fun _ _ _ h => h) rfl (op_loadS fl3 (lt_ rfl) rfl xS ((row_get (k := 0) (hx _ (by omega)) (by decide)).trans rfl)) xT ?_
   refine WA.take (i := 8) rfl (by kernel_rfl) (fun _ _ _ h => h) rfl (op_fieldAddr fo39_1 (lt_ rfl) rfl) xT ?_
   refine WA.take (i := 9) rfl (by kernel_rfl) (fun _ _ _ h => h) rfl (op_load1 fl37 (lt_ rfl) rfl xM rfl) xT ?_
   refine W90 ?_
   refine WA.take (i := 11) rfl (by kernel_rfl) (fun _ _ _ h => h) rfl (op_index Tryz.underlying37 sz84 (lt_ rfl) rfl rfl (by omega) (by omega) (by decide) xS) xT ?_
   refine WA.take (i := 12) rfl (by kernel_rfl) (fun _ _ _ h => h) rfl (op_fieldAddrS fo84_1 (lt_ rfl) rfl xS (by rw [flat_len (f := Wb.cells) (sz := 2) (fun _ => rfl)]; omega)) xT ?_
   refine WA.take (i := 13) rfl (by kernel_rfl) (fun _ _ _ h => h) rfl (op_loadS fl30 (lt_ rfl) rfl xS ((row_get (k := 1) (hx _ (by omega)) (by decide)).trans rfl)) xT ?_
   refine WA.step1 (i := 7) (by kernel_rfl) rfl rfl (op_lit0 Tryz.underlying30 ti5 (lt_ rfl)) (fun _ b => xT) fun b5 => ?_
   refine WA.step2 (i := 14) (by kernel_rfl) rfl rfl (op_append0 Tryz.underlying30 ti5 rfl (by decide) (lt_ rfl) rfl rfl xK ⟨rowsC false (r.ws.map Wb.b), xM, rowsC_get (r := w.b) (List.mem_map_of_mem (List.mem_of_getElem? hw))⟩ xO (by omega) (by omega)) (fun _ A c => xT) fun A3 c3 => ?_
   refine WA.take (i := 15) rfl (by kernel_rfl) (fun _ _ _ h => h) rfl (op_build (cs := [.int .i64 w.a, .slice A3 w.b.s.length c3]) (pv := [(0, _), (1, _)]) (lt_ rfl) rfl (by kernel_rfl)) xT ?_
   refine WA.step1 (i := 16) (by kernel_rfl) rfl rfl (op_lit1 Tryz.underlying37 ti84 rfl (by decide) (lt_ rfl) rfl rfl) (fun _ b => xT) fun b6 => ?_
   refine WA.step2 (i := 17) (by kernel_rfl) rfl rfl (op_append Tryz.underlying37 ti84 rfl (by decide) (lt_ rfl) rfl rfl xK xS (by rfl) (by omega) (by omega)) (fun _ A c => xT) fun A4 c4 => ?_
   refine W100 ?_
   refine W19 ?_
   refine WX.regs (L' := [(1, _), (2, _), (3, _), (5, _), (6, _)]) ?_
   refine W352 ?_
   refine WX.regs (L' := [(1, _), (2, _), (3, _), (5, _), (6, _)]) ?_
   refine WX.ownEq (v := .slice A4 (ws.length + 1) c4) ((ws ++ [(⟨w.a, ⟨A3, c3, w.b.s⟩⟩ : Wb)]).flatMap Wb.cells) xK (by rw [← wb_push]; rfl) ?_
   refine WX.merge2 (c1 := rowsC true (ws.map Wb.b)) (c2 := own (.slice A3 w.b.s.length c3) 5 1 w.b.s.length (bvs w.b.s)) (d := rowsC true ((ws ++ [(⟨w.a, ⟨A3, c3, w.b.s⟩⟩ : Wb)]).map Wb.b)) xK xK (by rw [← wbb_push]; exact rowsC_snoc (own_le_bs rfl) (fun _ => by simp)) ?_
   rw [wb_len ws ⟨w.a, ⟨A3, c3, w.b.s⟩⟩]
   refine WX.meet ((j + 1, ws ++ [⟨w.a, A3, c3, w.b.s⟩], A4, c4)) ⟨⟨by simp only []; omega, by rw [take_snoc (x := w.p) (by simp [hw]), List.map_append, hws]; rfl⟩, by simp only []; omega⟩ (fun a w hs => hs.sub xY xT)
  ·
   refine W284 ?_
   refine W244 ?_
   refine W117 ?_
   refine W134 ?_
   refine W10 ?_
   refine W105 ?_
   refine wl (op_store sz37 rfl rfl xK xL xO (by first | exact Nat.le_of_ble_eq_true rfl | (simp; omega))) rfl ?_
   refine W252 ?_
   refine WX.blkEq (b := b1) (Rd.cells ⟨Ad, cd, ds, Aw, cw, ws, r.ops⟩) xK (by rfl) ?_
   refine W80 ?_
   refine W249 ?_
   refine W41 ?_
   refine W50 ?_
   refine W252 ?_
   refine W250 ?_
   exact Fin.ret1 xI (⟨Ad, cd, ds, Aw, cw, ws, r.ops⟩) (⟨⟨by rw [hds, List.take_of_length_le (by rw [List.length_map]; omega)], by rw [hws, List.take_of_length_le (by rw [List.length_map]; omega)]⟩, rfl⟩) Tryz.results34 (.cellN rfl ag39 xM xL) xT (by simp)
set_option maxHeartbeats 400000 in
set_option maxRecDepth 10000 in
theorem f80_spec (r : Rd) (hr : r.Ok) (hm : r.ws.length + 1 ≤ 1000000) (a : Int) (ha : 0 ≤ a ∧ a < r.ds.length) (Ab : Option Addr) (cb : Nat) (p : List UInt8) (hp : p.length = 256) :
  Spec Tryz.prog 80 [.agg r.cells.toArray, .int .i64 a, .slice Ab 256 cb] [] [rd (.slice r.A r.ds.length r.c) 1 r.ds.length (r.ds.map Bs.v), rowsC false r.ds, rd (.slice r.Aw r.ws.length r.cw) 2 r.ws.length (r.ws.flatMap Wb.cells), rowsC false (r.ws.map Wb.b), rd (.slice Ab 256 cb) 1 256 (bvs p)] (R := Rd) (fun q => q.Wrote r a p) (fun q => .tuple #[.agg q.cells.toArray, .int .i64 0]) (fun q => [own (.slice q.A q.ds.length q.c) 30 1 q.ds.length (q.ds.map Bs.v), rowsC true q.ds, own (.slice q.Aw q.ws.length q.cw) 84 2 q.ws.length (q.ws.flatMap Wb.cells), rowsC true (q.ws.map Wb.b)]) := by
 have hrn := hr.n
 refine Spec.intro Tryz.func80 Tryz.ntmps80 rfl (by simp) (by simp) fun w0 => ?_
 refine W240 ?_
 refine wl1 (op_box (lt_ rfl) rfl rfl) rfl fun b1 => ?_
 refine wl1 (op_alloc ti39 (lt_ rfl)) rfl fun b2 => ?_
 refine W241 ?_
 refine WX.regs (L' := [(1, _), (2, _), (3, _), (6, _)]) ?_
 refine W269 ?_
 refine wlv (op_fieldAddr fo39_3 (lt_ rfl) rfl) rfl ?_
 refine W72 ?_
 refine W2 ?_
 refine WX.regs (L' := [(1, _), (2, _), (3, _), (6, _), (10, _)]) ?_
 refine W281 ?_
 refine W269 ?_
 refine W41 ?_
 refine W4 ?_
 refine wlx (op_call (f33_spec r a ha) ca33 (lt_ rfl) rfl) rfl ?_
 rintro _ _
 refine W85 ?_
 refine W2 ?_
 refine WX.regs (L' := [(1, _), (2, _), (3, _), (6, _), (15, _)]) ?_
 refine W281 ?_
 refine W282 ?_
 refine W38 ?_
 refine W24 ?_
 refine W2 ?_
 refine WX.regs (L' := [(1, _), (2, _), (3, _), (6, _), (19, _)]) ?_
 refine W281 ?_
 refine W249 ?_
 refine W41 ?_
 refine wlx (op_call (f34_spec r hr) ca34 (lt_ rfl) rfl) rfl ?_
 rintro r2 ⟨hr2, _⟩
 have hw2 : r2.ws.length = r.ws.length := by have := congrArg List.length hr2.2; rw [List.length_map, List.length_map] at this; exact this
 refine wlx (op_call (f82_spec r2) ca82 (lt_ rfl) rfl) rfl ?_
 rintro _ _
 refine W296 ?_
 refine W50 ?_
 refine W271 ?_
 refine WX.blkEq (b := b1) ({ r2 with ops := IntKind.i64.wrap (r2.ops + 1) } : Rd).cells xK (by rfl) ?_
 refine WX.regs (L' := [(1, _), (2, _), (3, _), (6, _), (8, _)]) ?_
 refine W269 ?_
 refine W272 ?_
 refine WX.regs (L' := [(1, _), (2, _), (3, _), (6, _), (27, _)]) ?_
 refine W281 ?_
 refine W327 ?_
 refine WC.drawn (Hs := [blk b1 ({ r2 with ops := IntKind.i64.wrap (r2.ops + 1) } : Rd).cells 39]) mo 10 ?_
 refine WA.take (i := 0) rfl (by kernel_rfl) (fun _ _ _ h => h) rfl (op_fieldAddr fo39_1 (lt_ rfl) rfl) xT ?_
 refine WA.take (i := 1) rfl (by kernel_rfl) (fun _ _ _ h => h) rfl (op_load1 fl37 (lt_ rfl) rfl xM rfl) xT ?_
 refine W60 ?_
 refine W51 ?_
 refine WA.step1 (i := 3) (by kernel_rfl) rfl rfl (op_lit0 Tryz.underlying30 ti5 (lt_ rfl)) (fun _ b => xT) fun b3 => ?_
 refine WA.step2 (i := 5) (by kernel_rfl) rfl rfl (op_append0 Tryz.underlying30 ti5 rfl (by decide) (lt_ rfl) rfl rfl xK xS xO (by omega) (by omega)) (fun _ A c => xT) fun A1 c1 => ?_
 refine WA.take (i := 6) rfl (by kernel_rfl) (fun _ _ _ h => h) rfl (op_build (cs := [.int .i64 a, .slice A1 256 c1]) (pv := [(0, _), (1, _)]) (lt_ rfl) rfl (by kernel_rfl)) xT ?_
 refine WA.step1 (i := 7) (by kernel_rfl) rfl rfl (op_lit1 Tryz.underlying37 ti84 rfl (by decide) (lt_ rfl) rfl rfl) (fun _ b => xT) fun b4 => ?_
 refine WA.step2 (i := 8) (by kernel_rfl) rfl rfl (op_append Tryz.underlying37 ti84 rfl (by decide) (lt_ rfl) rfl rfl xK xS (by rfl) (by simp only []; omega) (by simp only []; omega)) (fun _ A c => xT) fun A2 c2 => ?_
 refine WA.take (i := 9) rfl (by kernel_rfl) (fun _ _ _ h => h) rfl (op_fieldAddr fo39_1 (lt_ rfl) rfl) xT ?_
 refine WA.stepo (G := []) (i := 10) (by kernel_rfl) rfl rfl (op_store sz37 rfl rfl xK xL xO (by first | exact Nat.le_of_ble_eq_true rfl | (simp; omega))) (fun h => absurd rfl h) ?_
 refine W19 ?_
 refine WX.ownEq (v := .slice A2 (r2.ws.length + 1) c2) ((r2.ws ++ [(⟨a, ⟨A1, c1, p⟩⟩ : Wb)]).flatMap Wb.cells) xK (by rw [← wb_push]; show _ = r2.ws.flatMap Wb.cells ++ [.int .i64 a, .slice A1 p.length c1]; rw [hp]; rfl) ?_
 refine WX.merge2 (c1 := rowsC true (r2.ws.map Wb.b)) (c2 := own (.slice A1 256 c1) 5 1 256 (bvs p)) (d := rowsC true ((r2.ws ++ [(⟨a, ⟨A1, c1, p⟩⟩ : Wb)]).map Wb.b)) xK xK (by rw [← wbb_push]; exact rowsC_snoc (own_le_bs hp) (fun _ => by simp)) ?_
 rw [wb_len r2.ws ⟨a, ⟨A1, c1, p⟩⟩]
 refine WX.blkEq (b := b1) (Rd.cells ⟨r2.A, r2.c, r2.ds, A2, c2, r2.ws ++ [⟨a, ⟨A1, c1, p⟩⟩], IntKind.i64.wrap (r2.ops + 1)⟩) xK (by rfl) ?_
 refine WX.regs (L' := [(3, _), (6, _)]) ?_
 refine W249 ?_
 refine W41 ?_
 refine W50 ?_
 refine W271 ?_
 refine WX.regs (L' := [(6, _), (7, _)]) ?_
 refine W242 ?_
 exact Fin.ret2 xI (⟨r2.A, r2.c, r2.ds, A2, c2, r2.ws ++ [⟨a, ⟨A1, c1, p⟩⟩], IntKind.i64.wrap (r2.ops + 1)⟩) (wrote_of hr2 hr hm hp rfl rfl) Tryz.results80 rfl (.cellN rfl ag39 xM xL) (.tmp rfl) xT (by simp)
set_option maxHeartbeats 400000 in
set_option maxRecDepth 10000 in
theorem f57_spec (r : Rd) (hr : r.Ok) :
  Spec Tryz.prog 57 [.agg r.cells.toArray] [] [rd (.slice r.A r.ds.length r.c) 1 r.ds.length (r.ds.map Bs.v), rowsC false r.ds, rd (.slice r.Aw r.ws.length r.cw) 2 r.ws.length (r.ws.flatMap Wb.cells), rowsC false (r.ws.map Wb.b)] (R := Rd) (fun q => q.Flushed r) (fun q => .tuple #[.agg q.cells.toArray, .int .i64 0]) (fun q => [own (.slice q.A q.ds.length q.c) 30 1 q.ds.length (q.ds.map Bs.v), rowsC true q.ds, own (.slice q.Aw q.ws.length q.cw) 84 2 q.ws.length (q.ws.flatMap Wb.cells), rowsC true (q.ws.map Wb.b)]) := by
 have hrn := hr.n
 refine Spec.intro Tryz.func57 Tryz.ntmps57 rfl (by simp) (by simp) fun w0 => ?_
 refine W240 ?_
 refine wl1 (op_box (lt_ rfl) rfl rfl) rfl fun b1 => ?_
 refine wl1 (op_alloc ti39 (lt_ rfl)) rfl fun b2 => ?_
 refine W241 ?_
 refine W80 ?_
 refine W269 ?_
 refine wlv (op_fieldAddr fo39_3 (lt_ rfl) rfl) rfl ?_
 refine W72 ?_
 refine W2 ?_
 refine WX.regs (L' := [(1, _), (2, _), (7, _)]) ?_
 refine W281 ?_
 refine W249 ?_
 refine W41 ?_
 refine wlx (op_call (f34_spec r hr) ca34 (lt_ rfl) rfl) rfl ?_
 rintro r2 ⟨hr2, _⟩
 have hn2 : r2.ds.length = r.ds.length := by have := congrArg List.length hr2.1; rw [List.length_map, List.length_map] at this; exact this
 refine wlx (op_call (f82_spec r2) ca82 (lt_ rfl) rfl) rfl ?_
 rintro _ _
 refine W296 ?_
 refine W50 ?_
 refine W271 ?_
 refine WX.blkEq (b := b1) ({ r2 with ops := IntKind.i64.wrap (r2.ops + 1) } : Rd).cells xK (by rfl) ?_
 refine WX.regs (L' := [(1, _), (2, _), (4, _)]) ?_
 refine W269 ?_
 refine W272 ?_
 refine WX.regs (L' := [(1, _), (2, _), (15, _)]) ?_
 refine W281 ?_
 refine W310 ?_
 refine WX.regs (L' := [(1, _), (2, _), (5, _)]) ?_
 refine W294 ?_
 refine WC.loop (X := Rd × Nat) (fun x => r.ds.length - x.2) (fun x => x.1.Flushing r x.2 ∧ x.2 ≤ r.ds.length) (fun x => [(1, .pointer (some ⟨b1, 0, none⟩)), (2, .pointer (some ⟨b2, 0, none⟩)), (5, .int .i64 (x.2 : Int))]) (fun x => [own (.slice x.1.A x.1.ds.length x.1.c) 30 1 x.1.ds.length (x.1.ds.map Bs.v), rowsC true x.1.ds, own (.slice x.1.Aw x.1.ws.length x.1.cw) 84 2 x.1.ws.length (x.1.ws.flatMap Wb.cells), rowsC true (x.1.ws.map Wb.b), blk b1 x.1.cells 39, blk b2 [.slice none 0 0, .slice none 0 0, .int .i64 0, .bool false, .int .i64 0] 39, rd (.slice r.A r.ds.length r.c) 1 r.ds.length (r.ds.map Bs.v), rowsC false r.ds, rd (.slice r.Aw r.ws.length r.cw) 2 r.ws.length (r.ws.flatMap Wb.cells), rowsC false (r.ws.map Wb.b), frameC w0 (MutF [])]) ((({ r2 with ops := IntKind.i64.wrap (r2.ops + 1) } : Rd), 0)) (⟨⟨fun j _ => congrFun hr2.V j, hn2, ⟨(hr2.Ok hr).n, (hr2.Ok hr).d, (hr2.Ok hr).m, (hr2.Ok hr).w⟩, fun j h => absurd h (Nat.not_lt_zero _)⟩, Nat.zero_le _⟩) (fun a w hs => hs.sub xY xT) ?_
 rintro ⟨q, i⟩ ⟨hq, hi⟩
 try dsimp only at hq hi ⊢
 have hqn := hq.n
 refine W328 ?_
 refine W117 ?_
 refine W65 ?_
 refine W40 ?_
 refine W265 ?_
 refine WX.regs (L' := [(1, _), (2, _), (5, _), (21, _)]) ?_
 refine W0 ?_
 refine WC.cond rfl (fun h3 => ?_) (fun h3 => ?_)
 ·
  refine W270 ?_
  refine WC.drawn (Hs := [blk b1 q.cells 39, own (.slice q.A q.ds.length q.c) 30 1 q.ds.length (q.ds.map Bs.v)]) mo 7 ?_
  refine W278 ?_
  refine W60 ?_
  refine W199 ?_
  refine W51 ?_
  refine WA.stepx (i := 5) (by kernel_rfl) rfl rfl (op_call (f83_spec q (i : Int) ⟨by omega, by omega⟩ hq.ok) ca83 (lt_ rfl) rfl) (fun _ r => xT) ?_
  rintro ⟨Av, cv⟩ _
  refine WA.take (i := 6) rfl (by kernel_rfl) (fun _ _ _ h => h) rfl (op_index Tryz.underlying36 sz30 (lt_ rfl) rfl rfl (by omega) (by omega) (by decide) xS) xT ?_
  refine WA.stepo (G := []) (i := 7) (by kernel_rfl) rfl rfl (op_storeS sz30 rfl rfl xK rfl (by rfl) (by simp [Value.cells]; omega) (by decide)) (fun h => absurd rfl h) ?_
  refine W19 ?_
  refine WX.ownEq (v := .slice q.A q.ds.length q.c) ((q.ds.set i ⟨Av, cv, q.V i⟩).map Bs.v) xK (by rw [← rows_put (by omega)]; rfl) ?_
  refine WX.merge2 (c1 := rowsC true q.ds) (c2 := own (.slice Av (q.V i).length cv) 5 1 (q.V i).length (bvs (q.V i))) (d := rowsC true (q.ds.set i ⟨Av, cv, q.V i⟩)) xK xK (rowsC_set (own_le_bs rfl) (fun _ => by simp)) ?_
  refine WX.regs (L' := [(1, _), (2, _), (5, _)]) ?_
  refine W352 ?_
  refine WX.regs (L' := [(1, _), (2, _), (5, _)]) ?_
  have hsl : (q.ds.set i ⟨Av, cv, q.V i⟩).length = q.ds.length := List.length_set
  refine WX.chEq (c := own (.slice q.A q.ds.length q.c) 30 1 q.ds.length ((q.ds.set i ⟨Av, cv, q.V i⟩).map Bs.v)) (own (.slice q.A (q.ds.set i ⟨Av, cv, q.V i⟩).length q.c) 30 1 (q.ds.set i ⟨Av, cv, q.V i⟩).length ((q.ds.set i ⟨Av, cv, q.V i⟩).map Bs.v)) xK (by rw [hsl]) ?_
  refine WX.chEq (c := blk b1 q.cells 39) (blk b1 (Rd.cells { q with ds := q.ds.set i ⟨Av, cv, q.V i⟩ }) 39) xK (by unfold Rd.cells; simp only [hsl]) ?_
  refine WX.meet (({ q with ds := q.ds.set i ⟨Av, cv, q.V i⟩ }, i + 1)) ⟨⟨hq.step (by omega), by simp only []; omega⟩, by simp only []; omega⟩ (fun a w hs => hs.sub xY xT)
 ·
  refine W284 ?_
  refine W105 ?_
  refine wl (op_store sz37 rfl rfl xK xL xO (by first | exact Nat.le_of_ble_eq_true rfl | (simp; omega))) rfl ?_
  refine W252 ?_
  obtain rfl : i = r.ds.length := by omega
  refine W43 ?_
  refine WX.nilown 84 2 ?_
  refine WX.blkEq (b := b1) (Rd.cells ⟨q.A, q.c, q.ds, none, 0, [], q.ops⟩) xK (by rfl) ?_
  refine W80 ?_
  refine W249 ?_
  refine W41 ?_
  refine W50 ?_
  refine W271 ?_
  refine W33 ?_
  refine W242 ?_
  exact Fin.ret2 xI (⟨q.A, q.c, q.ds, none, 0, [], q.ops⟩) (hq.done) Tryz.results57 rfl (.cellN rfl ag39 xM xL) (.tmp rfl) xT (by simp)
set_option maxHeartbeats 400000 in
set_option maxRecDepth 10000 in
theorem f20_spec (n : Nat) (hn : 1 ≤ n ∧ n ≤ 4096) :
  Spec Tryz.prog 20 [.int .i64 (n : Int)] [] [] (R := Rd) (fun q => (∀ i, 0 ≤ i → i < (n : Int) → q.V i = List.replicate 256 0) ∧ q.ds.length = n ∧ q.ws = [] ∧ q.Ok) (fun q => .tuple #[.agg q.cells.toArray, .int .i64 0]) (fun q => [own (.slice q.A q.ds.length q.c) 30 1 q.ds.length (q.ds.map Bs.v), rowsC true q.ds, own (.slice q.Aw q.ws.length q.cw) 84 2 q.ws.length (q.ws.flatMap Wb.cells), rowsC true (q.ws.map Wb.b)]) := by
 refine Spec.intro Tryz.func20 Tryz.ntmps20 rfl (by simp) (by simp) fun w0 => ?_
 refine W240 ?_
 refine wl1 (op_alloc ti39 (lt_ rfl)) rfl fun b1 => ?_
 refine W241 ?_
 refine W63 ?_
 refine W282 ?_
 refine W25 ?_
 rw [show decide ((n : Int) < 1) = false from decide_eq_false (by omega)]
 refine W361 ?_
 refine W36 ?_
 rw [show decide ((n : Int) > 4096) = false from decide_eq_false (by omega)]
 refine W285 ?_
 refine WX.regs (L' := [(0, _), (2, _), (11, _)]) ?_
 refine W281 ?_
 refine W249 ?_
 refine wlv (op_build (cs := (Rd.cells ⟨none, 0, [], none, 0, [], 0⟩)) (pv := [(2, _)]) (lt_ rfl) rfl (by kernel_rfl)) rfl ?_
 refine wl1 (op_alloc ti39 (lt_ rfl)) rfl fun b2 => ?_
 refine W50 ?_
 refine W252 ?_
 refine WX.blkEq (b := b2) (Rd.cells ⟨none, 0, [], none, 0, [], 0⟩) xK (by rfl) ?_
 refine WX.regs (L' := [(0, _), (2, _), (4, _)]) ?_
 refine W310 ?_
 refine WX.regs (L' := [(0, _), (2, _), (4, _), (5, _)]) ?_
 refine W294 ?_
 refine W293 ?_
 refine WC.loop (X := Nat × List Bs × Option Addr × Nat) (fun x => n - x.1) (fun x => x.1 ≤ n ∧ x.2.1.map Bs.s = List.replicate x.1 (List.replicate 256 0)) (fun x => [(0, .int .i64 (n : Int)), (2, .pointer (some ⟨b1, 0, none⟩)), (4, .pointer (some ⟨b2, 0, none⟩)), (5, .int .i64 (x.1 : Int))]) (fun x => [own (.slice x.2.2.1 x.2.1.length x.2.2.2) 30 1 x.2.1.length (x.2.1.map Bs.v), rowsC true x.2.1, blk b1 [.slice none 0 0, .slice none 0 0, .int .i64 0, .bool false, .int .i64 0] 39, blk b2 (Rd.cells ⟨x.2.2.1, x.2.2.2, x.2.1, none, 0, [], 0⟩) 39, frameC w0 (MutF [])]) ((0, [], none, 0)) (⟨Nat.zero_le _, rfl⟩) (fun a w hs => hs.sub xY xT) ?_
 rintro ⟨i, ds, Ad, cd⟩ ⟨hi, hds⟩
 try dsimp only at hi hds ⊢
 have hdl : ds.length = i := by have := congrArg List.length hds; rw [List.length_map, List.length_replicate] at this; exact this
 refine W314 ?_
 refine W265 ?_
 refine WX.regs (L' := [(0, _), (2, _), (4, _), (5, _), (16, _)]) ?_
 refine W0 ?_
 refine WC.cond rfl (fun h2 => ?_) (fun h2 => ?_)
 ·
  refine W270 ?_
  refine WC.drawn (Hs := [blk b2 (Rd.cells ⟨Ad, cd, ds, none, 0, [], 0⟩) 39]) mo 6 ?_
  refine W278 ?_
  refine WA.step1 (i := 2) (by kernel_rfl) rfl rfl (op_make (z1 := (.int .u8 0)) (sz := 1) (zero := []) Tryz.underlying30 ti5 (lt_ rfl) rfl rfl (by omega) (by omega) (by omega) (by omega)) (fun _ b => xT) fun b3 => ?_
  refine WA.turn (c := blk b3 (List.replicate 256 (.int .u8 0)) 5) (d := own (.slice (some ⟨b3, 0, none⟩) 256 256) 5 1 256 (bvs (List.replicate 256 0))) xK (by rw [bvs_rep0]; exact own_le_blk (by rw [bvs_length, List.length_replicate]) (small_len (by omega))) ?_
  refine WA.step1 (i := 3) (by kernel_rfl) rfl rfl (op_lit1 Tryz.underlying36 ti30 rfl (by decide) (lt_ rfl) rfl rfl) (fun _ b => xT) fun b4 => ?_
  refine WA.step2 (i := 4) (by kernel_rfl) rfl rfl (op_append Tryz.underlying36 ti30 rfl (by decide) (lt_ rfl) rfl rfl xK xS (by rfl) (by simp only []; omega) (by simp only []; omega)) (fun _ A c => xT) fun A1 c1 => ?_
  refine WA.take (i := 5) rfl (by kernel_rfl) (fun _ _ _ h => h) rfl (op_fieldAddr fo39_0 (lt_ rfl) rfl) xT ?_
  refine WA.stepo (G := []) (i := 6) (by kernel_rfl) rfl rfl (op_store sz36 rfl rfl xK xL xO (by first | exact Nat.le_of_ble_eq_true rfl | (simp; omega))) (fun h => absurd rfl h) ?_
  refine W19 ?_
  refine WX.ownEq (v := .slice A1 (ds.length + 1) c1) ((ds ++ [(⟨some ⟨b3, 0, none⟩, 256, List.replicate 256 0⟩ : Bs)]).map Bs.v) xK (by rw [← map_push]; unfold Bs.v; rw [List.length_replicate]; rfl) ?_
  refine WX.merge2 (c1 := rowsC true ds) (c2 := own (.slice (some ⟨b3, 0, none⟩) 256 256) 5 1 256 (bvs (List.replicate 256 0))) (d := rowsC true (ds ++ [⟨some ⟨b3, 0, none⟩, 256, List.replicate 256 0⟩])) xK xK (rowsC_snoc (own_le_bs (List.length_replicate ..)) (fun _ => by simp)) ?_
  rw [len_push ds ⟨some ⟨b3, 0, none⟩, 256, List.replicate 256 0⟩]
  refine WX.blkEq (b := b2) (Rd.cells ⟨A1, c1, (ds ++ [⟨some ⟨b3, 0, none⟩, 256, List.replicate 256 0⟩]), none, 0, [], 0⟩) xK (by rfl) ?_
  refine WX.regs (L' := [(0, _), (2, _), (4, _), (5, _)]) ?_
  refine W352 ?_
  refine WX.regs (L' := [(0, _), (2, _), (4, _), (5, _)]) ?_
  refine WX.meet ((i + 1, ds ++ [⟨some ⟨b3, 0, none⟩, 256, List.replicate 256 0⟩], A1, c1)) ⟨⟨by simp only []; omega, by rw [List.map_append, hds]; exact List.replicate_succ'.symm⟩, by simp only []; omega⟩ (fun a w hs => hs.sub xY xT)
 ·
  refine W284 ?_
  refine W41 ?_
  refine W50 ?_
  refine W271 ?_
  refine W33 ?_
  refine W242 ?_
  refine W43 ?_
  refine WX.nilown 84 2 ?_
  exact Fin.ret2 xI (⟨Ad, cd, ds, none, 0, [], 0⟩) (new_ok (by omega) hds hdl (by omega)) Tryz.results20 rfl (.cellN rfl ag39 xM xL) (.tmp rfl) xT (by simp)
end Go.Proofs.YtkjlbedebmffgaaGreat.Sx
