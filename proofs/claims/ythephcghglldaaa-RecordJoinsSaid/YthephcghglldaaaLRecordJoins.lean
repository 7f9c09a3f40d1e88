import Derived.SizedLaws
import Derived.Test.YthephcghglldaaaRows
import Derived.Test.YthephcghglldaaaLq
import Derived.Test.YthephcghglldaaaS27
import Derived.WalkKit
import Derived.ProofKit
import Derived.OpenShut
set_option linter.unusedVariables false
set_option linter.unusedSimpArgs false
namespace Go.Proofs.Ythephcghglldaaa.recordJoins
open Go.ChangeShapes Go.WideShapes Go.ChangeAt Go.RowKit Go.Proofs.Ythephcghglldaaa.Sx
theorem knob : ownKnob Try.prog.godebug = none := by kernel_rfl
set_option maxRecDepth 100000 in
theorem lifted (os : Os) (started : os.Started) (H : Type) (enc : TypeId × Value → H) :
    ReturnsInHanded {} Try.checked os 9 .any (Rows.recordJoinsSpec.pre6 enc Try.prog Try.f9 Rows.recordJoinsRow.domain false) (Rows.recordJoinsSpec.post enc Try.prog Try.f9 false true false false) := by
  refine returnsInHanded_of_change_sized (C := Try.checked) knob started (by kernel_rfl) Try.func9
    (ChangeSpec.witness6 (enc := enc) (C := Try.checked) false ⟨#[], #[.slice none 0 0], []⟩ 8 (by kernel_rfl) (by kernel_rfl) (by kernel_rfl) (by kernel_rfl)) ?_
  intro W base args ds gs before hval0 hW hcnd hwt0 _
  have hval : ∀ (j : Nat) t v, Try.f9.params[j]? = some t → args[j]? = some v → Value.okWide Try.prog W .any base t v := hval0
  have hW' := hW
  obtain ⟨p, q, hA0, hV, rfl, hfz, hnd⟩ := hW
  have hA : DataW.TrodAll enc Try.prog W 0 (fun _ => true) true Try.f9.params.toList args.toList ds p := hA0
  rw [Try.params9] at hA hval
  obtain ⟨v0, vs0, d0, ds0, p0, q0, hargs, rfl, rfl, h0, r0⟩ := trodAll_cons hA
  obtain ⟨rfl, rfl, rfl⟩ := trodAll_nil r0
  obtain rfl : args = #[v0] := by cases args; simp_all
  obtain ⟨rfl, rfl⟩ := trodVars_none hV
  have hwt := hwt0
  rw [Try.params9] at hwt
  simp only [List.append_nil] at hwt
  obtain ⟨A0, M0, c0, l0, rfl, hM0, hx0, hr0, hy0⟩ := sectors_open (hval 0 67 v0 rfl rfl) h0 (weights_at hwt 0 67 d0 rfl rfl)
  have hz0 : ∀ s ∈ l0, s.y.s.length ≤ 140737488355328 := fun s hs => Nat.le_trans (hy0 s hs) (by decide)
  refine ((f9_spec A0 M0 c0 l0 hM0 hz0) W (sat_two hx0 hr0 (by simp) rfl)).mono fun e W' ⟨r, he, hr, _, hc, _⟩ => ?_
  subst he
  subst hr
  refine ⟨_, rfl, law_post (tb := 4) (by kernel_rfl) hW' rfl rfl Try.underlying4 ?_ rfl (hc.mono fun i hi => ?_)⟩
  · rw [Try.params9]
    intro t ht
    simp only [List.mem_cons, List.not_mem_nil, or_false] at ht
    subst ht
    exact ⟨by kernel_rfl, of_decide_eq_true (by kernel_rfl)⟩
  · obtain ⟨c, hc1, _⟩ := hi
    cases hc1
theorem over : Rows.recordJoinsRow.holds Try.pinned (OpenSpec.ofChange Rows.recordJoinsSpec) :=
  OpenClaim.holds_of_wide 9 Try.f9 rfl rfl rfl rfl rfl rfl rfl ⟨rfl, rfl, rfl, rfl, rfl⟩ rfl rfl rfl rfl rfl (by kernel_rfl) Try.func9 (by kernel_rfl)
    (of_decide_eq_true (by kernel_rfl)) (by unfold Func.isWrapper; first | (rw [if_pos (by decide +kernel)]; kernel_rfl) | (rw [if_neg (by decide +kernel)]; exact ⟨rfl, rfl⟩))
    (fun os started H enc _ => lifted os started H enc)
theorem proved : Rows.RecordJoinsSaid :=
  over
end Go.Proofs.Ythephcghglldaaa.recordJoins
