import Derived.Test.YthephcghglldaaaLw
import Derived.Test.YthephcghglldaaaS20
set_option linter.unusedVariables false
set_option linter.unusedSimpArgs false
namespace Go.Proofs.Ythephcghglldaaa.Sx
open Go.RowKit Go.Proofs.Ythephcghglldaaa.Ty
attribute [local irreducible] blk own rd rx frameC

open Go.ChangeShapes Go.WideShapes Go.ChangeAt
section
variable {H : Type} {enc : TypeId × Value → H}
theorem trod_at1 {P : Program} {w : World} {base : Nat} {sp : Nat → Bool} {hd : Bool} {n t o : Nat} {f : Field} {cs : List Value} {v : Value} (h : ∃ x, DataW.trod enc P w base sp hd n f.type ((cs.drop f.offset).take (P.cellsOf f.type)) = some x) (ht : f.type = t) (hc : P.cellsOf t = 1) (ho : f.offset = o) (hv : cs[o]? = some v) :
    ∃ x, DataW.trod enc P w base sp hd n t [v] = some x := by
  subst ht
  subst ho
  rw [hc] at h
  have hlt := (List.getElem?_eq_some_iff.1 hv).1
  have e : (cs.drop f.offset).take 1 = [v] := by
    rw [List.drop_eq_getElem_cons hlt, List.take_succ_cons, List.take_zero, (List.getElem?_eq_some_iff.1 hv).2]
  rw [e] at h
  exact h
theorem rd_bs {w : World} {r : Bs} (h : r.ch.ok w) : (rd (.slice r.A r.s.length r.c) 1 r.s.length (bvs r.s)).ok w := h
theorem sat_one {w : World} {c : Ch} (h : c.ok w) : Sat w ([] ++ [c]) := ⟨fun x hx => by rw [List.mem_singleton.1 hx]; exact h, List.pairwise_singleton ..⟩
theorem sat_two {w : World} {c d : Ch} (hc : c.ok w) (hd : d.ok w) (ec : c.ex = false) (ed : d.ex = false) : Sat w ([] ++ [c, d]) := by
  refine ⟨fun x hx => ?_, ?_⟩
  · simp only [List.nil_append, List.mem_cons, List.not_mem_nil, or_false] at hx
    rcases hx with rfl | rfl
    · exact hc
    · exact hd
  · refine List.pairwise_cons.2 ⟨fun x hx hm => ?_, List.pairwise_singleton ..⟩
    rw [List.mem_singleton.1 hx, ec, ed] at hm
    simp at hm
set_option maxRecDepth 100000 in
theorem part_open {r : Reach} {b0 : Nat} {w : World} {v : Value} {d : DataW H} {p : List MemPlace} (hv : Value.okWide Try.prog w r b0 24 v) (h : DataW.Trod enc Try.prog w 0 (fun _ => true) true 24 v d p) :
    ∃ (k g n i c : Int) (x : Bs), v = .agg (pcells k g n i c (.slice x.A x.s.length x.c)).toArray ∧ x.ch.ok w := by
  obtain ⟨cs, rfl, hl, f, hf⟩ := trod_fields Try.underlying24 hv h
  have e3 : Try.prog.cellsOf 3 = 1 := by kernel_rfl
  have e22 : Try.prog.cellsOf 22 = 1 := by kernel_rfl
  rw [show Try.prog.cellsOf 24 = 6 by kernel_rfl] at hl
  match cs, hl with
  | [v0, v1, v2, v3, v4, v5], _ =>
    obtain ⟨_, h0⟩ := trod_at1 (hf 0 _ rfl) rfl e3 rfl rfl
    obtain ⟨_, h1⟩ := trod_at1 (hf 1 _ rfl) rfl e3 rfl rfl
    obtain ⟨_, h2⟩ := trod_at1 (hf 2 _ rfl) rfl e3 rfl rfl
    obtain ⟨_, h3⟩ := trod_at1 (hf 3 _ rfl) rfl e3 rfl rfl
    obtain ⟨_, h4⟩ := trod_at1 (hf 4 _ rfl) rfl e3 rfl rfl
    obtain ⟨_, h5⟩ := trod_at1 (hf 5 _ rfl) rfl e22 rfl rfl
    obtain ⟨k, rfl, _⟩ := trod_num Try.underlying3 h0
    obtain ⟨g, rfl, _⟩ := trod_num Try.underlying3 h1
    obtain ⟨n, rfl, _⟩ := trod_num Try.underlying3 h2
    obtain ⟨i, rfl, _⟩ := trod_num Try.underlying3 h3
    obtain ⟨c, rfl, _⟩ := trod_num Try.underlying3 h4
    obtain ⟨x, rfl, hx⟩ := trod_bytes Try.underlying22 Try.underlying5 (by kernel_rfl) h5
    exact ⟨k, g, n, i, c, x, rfl, hx⟩
end
end Go.Proofs.Ythephcghglldaaa.Sx
