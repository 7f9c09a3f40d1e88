import Derived.Test.YthephcghglldaaaSv
set_option linter.unusedVariables false
set_option linter.unusedSimpArgs false
namespace Go.Proofs.Ythephcghglldaaa.Sx
open Go.RowKit
section
variable {P : Program} {ops : Array Oper} {Q : Exit → Act → World → Prop} {rest : List Oper} {n : Nat} {L L' : List (Nat × Value)} {H H' F : List Ch}
theorem Src.cap {A : Option Addr} {m c sz : Nat} {xs : List Value} {w : World} (h : Src H (.slice A m c) sz m xs) (hs : Sat w H) : m ≤ c ∧ m ≤ maxLen ∧ xs.length = m * sz := by
  obtain ⟨h1, h2, A', c', h3, h4, _⟩ := h.ok hs
  cases h3
  exact ⟨h4, h2, h1⟩
theorem WL.capx {A : Option Addr} {m c sz : Nat} {xs : List Value} (h : Src H (.slice A m c) sz m xs) (k : m ≤ c → WL P ops Q rest n L H) : WL P ops Q rest n L H :=
  fun a w hs => k (h.cap hs.sat).1 a w hs
theorem WX.capx {e : Exit} {A : Option Addr} {m c sz : Nat} {xs : List Value} (h : Src H (.slice A m c) sz m xs) (k : m ≤ c → WX Q e n L H) : WX Q e n L H :=
  fun a w hs => k (h.cap hs.sat).1 a w hs
theorem WC.capx {cd : Code} {A : Option Addr} {m c sz : Nat} {xs : List Value} (h : Src H (.slice A m c) sz m xs) (k : m ≤ c → WC P cd Q n L H) : WC P cd Q n L H :=
  fun a w hs => k (h.cap hs.sat).1 a w hs
theorem WA.capx {S : World → Prop} {e fuel : Nat} {listed : Array Bool} {A : Option Addr} {m c sz : Nat} {xs : List Value} (h : Src H (.slice A m c) sz m xs) (k : m ≤ c → WA P ops Q S e fuel listed n L H) : WA P ops Q S e fuel listed n L H :=
  fun a w hs => k (h.cap hs.sat).1 a w hs
theorem WL.turn {c d : Ch} (hc : Take H c F) (hl : d.Le c) (h : WL P ops Q rest n L (d :: F)) : WL P ops Q rest n L H :=
  fun a w hs => h a w ⟨hs.regs, (hs.sat.perm hc.perm).weak (.keep hl (by
    have : ∀ G : List Ch, Weak G G := fun G => by
      induction G with
      | nil => exact .nil _
      | cons a G ih => exact .keep (Ch.Le.refl _) ih
    exact this F))⟩
theorem WC.turn {cd : Code} {c d : Ch} (hc : Take H c F) (hl : d.Le c) (h : WC P cd Q n L (d :: F)) : WC P cd Q n L H :=
  fun a w hs => h a w ⟨hs.regs, (hs.sat.perm hc.perm).weak (.keep hl (by
    have : ∀ G : List Ch, Weak G G := fun G => by
      induction G with
      | nil => exact .nil _
      | cons a G ih => exact .keep (Ch.Le.refl _) ih
    exact this F))⟩
end
end Go.Proofs.Ythephcghglldaaa.Sx
