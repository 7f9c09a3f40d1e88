/- The engine: scopes of labels without jumps; lists of records. -/
import Derived.Test.YthephcghglldaaaSm
import Derived.Scope
set_option linter.unusedVariables false
set_option linter.unusedSimpArgs false
namespace Go.Proofs.Ythephcghglldaaa.Sx
open Go.RowKit
section
variable {P : Program} {Q : Exit → Act → World → Prop} {n : Nat} {L : List (Nat × Value)} {H : List Ch} {c : Code} {id : Nat}
theorem WC.scope (h : WC P c (Exit.noGoto Q) n L H) : WC P (.scope c) Q n L H := fun a w hs => wp_scope_straight (h a w hs)
theorem WX.scope_normal (h : WX Q .normal n L H) : WX (Exit.noGoto Q) .normal n L H := fun a w hs => h a w hs
theorem WX.scope_ret (h : WX Q .ret n L H) : WX (Exit.noGoto Q) .ret n L H := fun a w hs => h a w hs
theorem WX.scope_exit (h : WX Q (.exit id) n L H) : WX (Exit.noGoto Q) (.exit id) n L H := fun a w hs => h a w hs
end
theorem Reads.rows {F D : List Ch} {e : Bool} {rs : List Bs} (h : rowsC e rs ∈ F) (k : Reads F D) : Reads F (rowsC false rs :: D) := .cons h rfl (rowsC_read fun _ h => h) k
/-- A record whose bytes are one of the slices. -/
structure Rs where
  (k g n : Int)
  b : Bs
def Rs.cells (r : Rs) : List Value := [.int .i64 r.k, .int .i64 r.g, .int .i64 r.n, r.b.v]
theorem cells_push (l : List Rs) (r : Rs) : l.flatMap Rs.cells ++ r.cells = (l ++ [r]).flatMap Rs.cells := by simp
theorem bs_push (l : List Rs) (r : Rs) : l.map Rs.b ++ [r.b] = (l ++ [r]).map Rs.b := by simp
theorem rd_dropR {A : Option Addr} {c M l : Nat} {rs : List Bs} (h : rs.length = M) (hl : l ≤ M) : (rd (sliced A l M c 1) 1 (M - l) ((rs.drop l).map Bs.v)).Le (rd (.slice A M c) 1 M (rs.map Bs.v)) := by
  have k := rd_sub (A := A) (c := c) (m := M) (sz := 1) (l := l) (h := M) (xs := rs.map Bs.v) hl (Nat.le_refl _)
  have e : ((rs.map Bs.v).drop (l * 1)).take ((M - l) * 1) = (rs.drop l).map Bs.v := by
    rw [Nat.mul_one, Nat.mul_one, List.take_of_length_le (by simp; omega), List.map_drop]
  rwa [e] at k
theorem rd_takeR {A : Option Addr} {c M h : Nat} {rs : List Bs} (hh : h ≤ M) : (rd (sliced A 0 h c 1) 1 (h - 0) ((rs.take h).map Bs.v)).Le (rd (.slice A M c) 1 M (rs.map Bs.v)) := by
  have k := rd_sub (A := A) (c := c) (m := M) (sz := 1) (l := 0) (h := h) (xs := rs.map Bs.v) (Nat.zero_le _) hh
  have e : ((rs.map Bs.v).drop (0 * 1)).take ((h - 0) * 1) = (rs.take h).map Bs.v := by
    rw [Nat.zero_mul, List.drop_zero, Nat.mul_one, Nat.sub_zero, List.map_take]
  rwa [e] at k
theorem rowsC_drop {e : Bool} {rs : List Bs} {l : Nat} : (rowsC false (rs.drop l)).Le (rowsC e rs) := rowsC_read fun _ h => List.mem_of_mem_drop h
theorem rowsC_take {e : Bool} {rs : List Bs} {l : Nat} : (rowsC false (rs.take l)).Le (rowsC e rs) := rowsC_read fun _ h => List.mem_of_mem_take h
end Go.Proofs.Ythephcghglldaaa.Sx
