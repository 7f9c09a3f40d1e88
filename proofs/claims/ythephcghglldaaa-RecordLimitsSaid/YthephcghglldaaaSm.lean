/- The engine: regions in which several operations that change memory may come up. -/
import Derived.Test.YthephcghglldaaaSn
set_option linter.unusedVariables false
set_option linter.unusedSimpArgs false
namespace Go.Proofs.Ythephcghglldaaa.Sx
open Go.RowKit
section
variable {P : Program} {ops : Array Oper} {Q : Exit → Act → World → Prop} {n : Nat} {L L' : List (Nat × Value)} {H H' F Hs G : List Ch} {e i : Nat} {fuel : Nat} {listed listed' : Array Bool}
theorem WA.abs {S : World → Prop} (k : ∀ W : Nat → Array Bool → Nat → List (Nat × Value) → List Ch → Prop, W = (fun fuel listed n L H => WA P ops Q S e fuel listed n L H) → W fuel listed n L H) : WA P ops Q S e fuel listed n L H :=
  k _ rfl
theorem WA.pick {l : List Nat} (hr : Region.ready .any ops listed = l) (hne : l.isEmpty = false)
    (h : ∀ i, i ∈ l → ∀ a w, St n L H a w → wpOp P ops Q i (fun a' w' => (i ≠ e → Sat w' Hs) ∧ wpAnyE P ops Q (fun w => Sat w Hs) e fuel (listed.setIfInBounds i true) a' w') a w) :
    WA P ops Q (fun w => Sat w Hs) e (fuel + 1) listed n L H := fun a w hst => by
  refine ⟨fun h0 => (by rw [hr] at h0; subst h0; cases hne), fun j hj => ?_⟩
  rw [hr] at hj
  exact h j hj a w hst
theorem WA.onev {d : Nat} {v : Value} {oi : Oper} (hi : ops[i]? = some oi) (hg : oi.guard = none) (ho : Val P oi n L H d v) (hS : i ≠ e → Takes H Hs G)
    (h : WA P ops Q (fun w => Sat w Hs) e fuel (listed.setIfInBounds i true) n (upd L d v) H) :
    ∀ a w, St n L H a w → wpOp P ops Q i (fun a' w' => (i ≠ e → Sat w' Hs) ∧ wpAnyE P ops Q (fun w => Sat w Hs) e fuel (listed.setIfInBounds i true) a' w') a w :=
  WA.one hi hg ho.opn (fun hne a w hs => hs.sat.only (hS hne)) h
theorem WA.oneo {oi : Oper} (hi : ops[i]? = some oi) (hg : oi.guard = none) (ho : Opn P Q oi n L H (St n L' H')) (hS : i ≠ e → Takes H' Hs G)
    (h : WA P ops Q (fun w => Sat w Hs) e fuel (listed.setIfInBounds i true) n L' H') :
    ∀ a w, St n L H a w → wpOp P ops Q i (fun a' w' => (i ≠ e → Sat w' Hs) ∧ wpAnyE P ops Q (fun w => Sat w Hs) e fuel (listed.setIfInBounds i true) a' w') a w :=
  WA.one hi hg ho (fun hne a w hs => hs.sat.only (hS hne)) h
theorem WA.one1 {X : Type} {LL : X → List (Nat × Value)} {HH : X → List Ch} {G : X → List Ch} {oi : Oper} (hi : ops[i]? = some oi) (hg : oi.guard = none) (ho : Opn P Q oi n L H (fun a w => ∃ b, St n (LL b) (HH b) a w)) (hS : i ≠ e → ∀ b, Takes (HH b) Hs (G b))
    (h : ∀ b, WA P ops Q (fun w => Sat w Hs) e fuel (listed.setIfInBounds i true) n (LL b) (HH b)) :
    ∀ a w, St n L H a w → wpOp P ops Q i (fun a' w' => (i ≠ e → Sat w' Hs) ∧ wpAnyE P ops Q (fun w => Sat w Hs) e fuel (listed.setIfInBounds i true) a' w') a w :=
  WA.one hi hg ho (fun hne a w ⟨b, hs⟩ => hs.sat.only (hS hne b)) fun a w ⟨b, hs⟩ => h b a w hs
theorem WA.one2 {X Y : Type} {LL : X → Y → List (Nat × Value)} {HH : X → Y → List Ch} {G : X → Y → List Ch} {oi : Oper} (hi : ops[i]? = some oi) (hg : oi.guard = none) (ho : Opn P Q oi n L H (fun a w => ∃ b c, St n (LL b c) (HH b c) a w)) (hS : i ≠ e → ∀ b c, Takes (HH b c) Hs (G b c))
    (h : ∀ b c, WA P ops Q (fun w => Sat w Hs) e fuel (listed.setIfInBounds i true) n (LL b c) (HH b c)) :
    ∀ a w, St n L H a w → wpOp P ops Q i (fun a' w' => (i ≠ e → Sat w' Hs) ∧ wpAnyE P ops Q (fun w => Sat w Hs) e fuel (listed.setIfInBounds i true) a' w') a w :=
  WA.one hi hg ho (fun hne a w ⟨b, c, hs⟩ => hs.sat.only (hS hne b c)) fun a w ⟨b, c, hs⟩ => h b c a w hs
theorem WA.onex {X : Type} {φ : X → Prop} {LL : X → List (Nat × Value)} {HH : X → List Ch} {G : X → List Ch} {oi : Oper} (hi : ops[i]? = some oi) (hg : oi.guard = none) (ho : Opn P Q oi n L H (fun a w => ∃ b, φ b ∧ St n (LL b) (HH b) a w)) (hS : i ≠ e → ∀ b, Takes (HH b) Hs (G b))
    (h : ∀ b, φ b → WA P ops Q (fun w => Sat w Hs) e fuel (listed.setIfInBounds i true) n (LL b) (HH b)) :
    ∀ a w, St n L H a w → wpOp P ops Q i (fun a' w' => (i ≠ e → Sat w' Hs) ∧ wpAnyE P ops Q (fun w => Sat w Hs) e fuel (listed.setIfInBounds i true) a' w') a w :=
  WA.one hi hg ho (fun hne a w ⟨b, _, hs⟩ => hs.sat.only (hS hne b)) fun a w ⟨b, hb, hs⟩ => h b hb a w hs
theorem WA.conv {S : World → Prop} (hl : listed' = listed) (k : RS L L') (t : Takes H H' F) (h : WA P ops Q S e fuel listed n L' H') : WA P ops Q S e fuel listed' n L H := fun a w hs => by
  subst hl
  exact h a w (hs.sub k t)
end
end Go.Proofs.Ythephcghglldaaa.Sx
