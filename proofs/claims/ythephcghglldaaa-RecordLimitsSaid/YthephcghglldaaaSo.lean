/- The engine: what a readable slice says of its length. -/
import Derived.Test.YthephcghglldaaaSp
set_option linter.unusedVariables false
set_option linter.unusedSimpArgs false
namespace Go.Proofs.Ythephcghglldaaa.Sx
open Go.RowKit
section
variable {P : Program} {ops : Array Oper} {Q : Exit → Act → World → Prop} {rest : List Oper} {n : Nat} {L L' : List (Nat × Value)} {H H' F : List Ch}
theorem Src.none0 {m c sz : Nat} {xs : List Value} {w : World} (h : Src H (.slice none m c) sz m xs) (hs : Sat w H) (hz : 0 < sz) : m = 0 := by
  obtain ⟨h1, h2, A', c', h3, h4, h5⟩ := h.ok hs
  cases h3
  by_cases hm : m = 0
  · exact hm
  · obtain ⟨b, o, hb, _⟩ := h5 (by rw [h1]; exact Nat.mul_pos (Nat.pos_of_ne_zero hm) hz)
    cases hb
theorem WC.none0 {cd : Code} {m c sz : Nat} {xs : List Value} (h : Src H (.slice none m c) sz m xs) (hz : 0 < sz) (k : m = 0 → WC P cd Q n L H) : WC P cd Q n L H :=
  fun a w hs => k (h.none0 hs.sat hz) a w hs
theorem maxLen_le {m : Nat} (h : m ≤ maxLen) : m ≤ 9223372036854775807 := by
  have : maxLen = 9223372036854775807 := by decide
  omega
theorem WL.capm {A : Option Addr} {m c sz : Nat} {xs : List Value} (h : Src H (.slice A m c) sz m xs) (k : m ≤ c ∧ m ≤ 9223372036854775807 → WL P ops Q rest n L H) : WL P ops Q rest n L H :=
  fun a w hs => k ⟨(h.cap hs.sat).1, maxLen_le (h.cap hs.sat).2.1⟩ a w hs
theorem WC.capm {cd : Code} {A : Option Addr} {m c sz : Nat} {xs : List Value} (h : Src H (.slice A m c) sz m xs) (k : m ≤ c ∧ m ≤ 9223372036854775807 → WC P cd Q n L H) : WC P cd Q n L H :=
  fun a w hs => k ⟨(h.cap hs.sat).1, maxLen_le (h.cap hs.sat).2.1⟩ a w hs
theorem WX.capm {e : Exit} {A : Option Addr} {m c sz : Nat} {xs : List Value} (h : Src H (.slice A m c) sz m xs) (k : m ≤ c ∧ m ≤ 9223372036854775807 → WX Q e n L H) : WX Q e n L H :=
  fun a w hs => k ⟨(h.cap hs.sat).1, maxLen_le (h.cap hs.sat).2.1⟩ a w hs
theorem WA.capm {S : World → Prop} {e fuel : Nat} {listed : Array Bool} {A : Option Addr} {m c sz : Nat} {xs : List Value} (h : Src H (.slice A m c) sz m xs) (k : m ≤ c ∧ m ≤ 9223372036854775807 → WA P ops Q S e fuel listed n L H) : WA P ops Q S e fuel listed n L H :=
  fun a w hs => k ⟨(h.cap hs.sat).1, maxLen_le (h.cap hs.sat).2.1⟩ a w hs
end
end Go.Proofs.Ythephcghglldaaa.Sx
