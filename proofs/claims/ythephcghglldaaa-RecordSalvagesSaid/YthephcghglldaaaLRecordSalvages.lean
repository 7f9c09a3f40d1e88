import Derived.SizedLaws
import Derived.Test.YthephcghglldaaaRows
import Derived.Test.YthephcghglldaaaLr
import Derived.Test.YthephcghglldaaaS33
import Derived.WalkKit
import Derived.ProofKit
import Derived.OpenShut
set_option linter.unusedVariables false
set_option linter.unusedSimpArgs false
namespace Go.Proofs.Ythephcghglldaaa.recordSalvages
open Go.ChangeShapes Go.WideShapes Go.ChangeAt Go.RowKit Go.Proofs.Ythephcghglldaaa.Sx
theorem knob : ownKnob Try.prog.godebug = none := by kernel_rfl
set_option maxRecDepth 100000 in
theorem lifted (os : Os) (started : os.Started) (H : Type) (enc : TypeId × Value → H) :
    ReturnsInHanded {} Try.checked os 14 .any (Rows.recordSalvagesSpec.pre6 enc Try.prog Try.f14 Rows.recordSalvagesRow.domain false) (Rows.recordSalvagesSpec.post enc Try.prog Try.f14 false true false false) := by
  refine returnsInHanded_of_change_sized (C := Try.checked) knob started (by kernel_rfl) Try.func14
    (ChangeSpec.witness6 (enc := enc) (C := Try.checked) false ⟨#[], #[.agg #[.int .i64 0, .int .i64 0, .slice none 0 0, .slice none 0 0, .slice none 0 0, .int .u8 0], .slice none 0 0], []⟩ 8 (by kernel_rfl) (by kernel_rfl) (by kernel_rfl) (by kernel_rfl)) ?_
  intro W base args ds gs before hval0 hW hcnd hwt0 _
  have hval : ∀ (j : Nat) t v, Try.f14.params[j]? = some t → args[j]? = some v → Value.okWide Try.prog W .any base t v := hval0
  have hW' := hW
  obtain ⟨p, q, hA0, hV, rfl, hfz, hnd⟩ := hW
  have hA : DataW.TrodAll enc Try.prog W 0 (fun _ => true) true Try.f14.params.toList args.toList ds p := hA0
  rw [Try.params14] at hA hval
  obtain ⟨v0, vs0, d0, ds0, p0, q0, hargs, rfl, rfl, h0, r0⟩ := trodAll_cons hA
  obtain ⟨v1, vs1, d1, ds1, p1, q1, rfl, rfl, rfl, h1, r1⟩ := trodAll_cons r0
  obtain ⟨rfl, rfl, rfl⟩ := trodAll_nil r1
  obtain rfl : args = #[v0, v1] := by cases args; simp_all
  obtain ⟨rfl, rfl⟩ := trodVars_none hV
  have hwt := hwt0
  rw [Try.params14] at hwt
  simp only [List.append_nil] at hwt
  obtain ⟨g0, n0, AP0, AO0, AL0, MP0, cP0, MO0, cO0, ML0, cL0, ps0, l0, pl0, cut0, rfl, hMP0, hMO0, hML0, hp0, hq0, ho0, hr0, hl0, hy0⟩ := run_open (hval 0 75 v0 rfl rfl) h0 (weights_at hwt 0 75 d0 rfl rfl)
  have hz0 : ∀ s ∈ l0, s.y.s.length ≤ 140737488355328 := fun s hs => Nat.le_trans (hy0 s hs) (by decide)
  obtain ⟨A1, M1, c1, l1, rfl, hM1, hx1, hr1, hy1⟩ := sectors_open (hval 1 67 v1 rfl rfl) h1 (weights_at hwt 1 67 d1 rfl rfl)
  have hz1 : ∀ s ∈ l1, s.y.s.length ≤ 140737488355328 := fun s hs => Nat.le_trans (hy1 s hs) (by decide)
  refine ((f14_spec g0 n0 AP0 AO0 AL0 MP0 cP0 MO0 cO0 ML0 cL0 ps0 l0 pl0 cut0 hMP0 hMO0 hML0 hz0 A1 M1 c1 l1 hM1 hz1) W ((RO.cons hp0 rfl (.cons hq0 (by simp) (.cons ho0 rfl (.cons hr0 (by simp) (.cons hl0 rfl (.cons hx1 rfl (.cons hr1 (by simp) .nil))))))).sat)).mono fun e W' ⟨r, he, hr, _, hc, _⟩ => ?_
  subst he
  subst hr
  refine ⟨_, rfl, law_post (tb := 4) (by kernel_rfl) hW' rfl rfl Try.underlying4 ?_ rfl (hc.mono fun i hi => ?_)⟩
  · rw [Try.params14]
    intro t ht
    simp only [List.mem_cons, List.not_mem_nil, or_false] at ht
    rcases ht with rfl | rfl
    all_goals exact ⟨by kernel_rfl, of_decide_eq_true (by kernel_rfl)⟩
  · obtain ⟨c, hc1, _⟩ := hi
    cases hc1
theorem over : Rows.recordSalvagesRow.holds Try.pinned (OpenSpec.ofChange Rows.recordSalvagesSpec) :=
  OpenClaim.holds_of_wide 14 Try.f14 rfl rfl rfl rfl rfl rfl rfl ⟨rfl, rfl, rfl, rfl, rfl⟩ rfl rfl rfl rfl rfl (by kernel_rfl) Try.func14 (by kernel_rfl)
    (of_decide_eq_true (by kernel_rfl)) (by unfold Func.isWrapper; first | (rw [if_pos (by decide +kernel)]; kernel_rfl) | (rw [if_neg (by decide +kernel)]; exact ⟨rfl, rfl⟩))
    (fun os started H enc _ => lifted os started H enc)
theorem proved : Rows.RecordSalvagesSaid :=
  over
end Go.Proofs.Ythephcghglldaaa.recordSalvages
