/- The engine: copying that may be of nothing. -/
import Derived.Test.YthephcghglldaaaSl
set_option linter.unusedVariables false
set_option linter.unusedSimpArgs false
namespace Go.Proofs.Ythephcghglldaaa.Sx
open Go.RowKit
section
variable {P : Program} {ops : Array Oper} {Q : Exit → Act → World → Prop} {n : Nat} {L : List (Nat × Value)} {H F : List Ch} {ty : TypeId} {pos : String} {af : Array Edge} {g : Option (Nat × Bool)} {x y : Operand}
theorem op_copyz {t t' e : TypeId} {A B : Option Addr} {m c l k cB d : Nat} {xs ys : List Value} (hu : P.underlying t = some (.slice e)) (hs : (P.info? e).map (·.size) = some 1) (hn : d < n)
    (hx : evr L x = some (sliced A l m c 1)) (hy : evr L y = some (.slice B k cB)) (ht : Take H (own (.slice A m c) e 1 m xs) F) (hsrc : Src H (.slice B k cB) 1 k ys) (h1 : ys.all (·.oneCell') = true) (hk : l + k ≤ m) :
    Opn P Q ⟨some d, .call { callee := .builtin .copy, args := #[x, y], argTypes := #[t, t'] }, ty, pos, af, g⟩ n L H (St n (upd L d (.int .i64 (k : Int))) (own (.slice A m c) e 1 m (pset xs l ys) :: F)) := by
  by_cases hp : 0 < k
  · exact op_copy hu hs hn hx hy ht hsrc h1 hk hp
  · have hk0 : k = 0 := by omega
    subst hk0
    intro a w hst K hK
    have hys : ys = [] := by
      have := (hsrc.ok hst.sat).1
      exact List.eq_nil_of_length_eq_zero (by simpa using this)
    subst hys
    have hps : pset xs l [] = xs := by simp [pset]
    rw [hps] at hK
    have hr : (Builtin.copy_ #[t, t'] ty #[sliced A l m c 1, .slice B 0 cB]).run P w = .ok (.int .i64 ((0 : Nat) : Int)) w := run_copy_none (P := P) w t t' ty e _ B _ _ 0 cB hu hs (Nat.zero_min _)
    have hx' := hst.regs.eval hx
    have hy' := hst.regs.eval hy
    unfold Oper.wp execOp
    simp only [resolve, invoke, builtin, Sem.run_bind, Sem.run_pure, Result.andThen_ok, List.map_toArray, List.map_cons, List.map_nil, hx', hy', hr]
    exact hK _ _ ⟨hst.regs.put hn _, hst.sat.perm ht.perm⟩
end
end Go.Proofs.Ythephcghglldaaa.Sx
