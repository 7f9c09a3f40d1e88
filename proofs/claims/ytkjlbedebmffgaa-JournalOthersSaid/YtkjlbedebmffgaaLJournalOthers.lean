import Derived.SizedLaws
import Derived.Test.YtkjlbedebmffgaaRows
import Derived.Test.YtkjlbedebmffgaaMh
import Derived.Test.YtkjlbedebmffgaaMo
import Derived.WalkKit
import Derived.ProofKit
import Derived.OpenShut
set_option linter.unusedVariables false
set_option linter.unusedSimpArgs false
namespace Go.Proofs.Ytkjlbedebmffgaa.journalOthers
open Go.ChangeShapes Go.WideShapes Go.ChangeAt Go.RowKit Go.Proofs.Ytkjlbedebmffgaa.Sx
theorem knob : ownKnob Try.prog.godebug = none := by kernel_rfl
set_option maxRecDepth 100000 in
theorem lifted (os : Os) (started : os.Started) (H : Type) (enc : TypeId × Value → H) :
    ReturnsInHanded {} Try.checked os 7 .any (Rows.journalOthersSpec.pre6 enc Try.prog Try.f7 Rows.journalOthersRow.domain false) (Rows.journalOthersSpec.post enc Try.prog Try.f7 false true false false) := by
  refine returnsInHanded_of_change (C := Try.checked) knob started (by kernel_rfl) Try.func7
    (ChangeSpec.witness6 (enc := enc) (C := Try.checked) false ⟨#[], #[.slice none 0 0, .slice none 0 0, .int .u8 0], []⟩ 8 (by kernel_rfl) (by kernel_rfl) (by kernel_rfl) (by kernel_rfl)) ?_
  intro W base args ds gs before hval0 hW hcnd _
  have hval : ∀ (j : Nat) t v, Try.f7.params[j]? = some t → args[j]? = some v → Value.okWide Try.prog W .any base t v := hval0
  have hW' := hW
  obtain ⟨p, q, hA0, hV, rfl, hfz, hnd⟩ := hW
  have hA : DataW.TrodAll enc Try.prog W 0 (fun _ => true) true Try.f7.params.toList args.toList ds p := hA0
  rw [Try.params7] at hA hval
  obtain ⟨v0, vs0, d0, ds0, p0, q0, hargs, rfl, rfl, h0, r0⟩ := trodAll_cons hA
  obtain ⟨v1, vs1, d1, ds1, p1, q1, rfl, rfl, rfl, h1, r1⟩ := trodAll_cons r0
  obtain ⟨v2, vs2, d2, ds2, p2, q2, rfl, rfl, rfl, h2, r2⟩ := trodAll_cons r1
  obtain ⟨rfl, rfl, rfl⟩ := trodAll_nil r2
  obtain rfl : args = #[v0, v1, v2] := by cases args; simp_all
  obtain ⟨rfl, rfl⟩ := trodVars_none hV
  obtain ⟨A0, M0, c0, l0, rfl, hM0, hx0, hn0⟩ := ops_open (hval 0 22 v0 rfl rfl) h0
  obtain ⟨A1, M1, c1, l1, rfl, hM1, hx1, hn1⟩ := ops_open (hval 1 22 v1 rfl rfl) h1
  obtain ⟨a2, rfl⟩ := u8_open Try.underlying5 (hval 2 5 v2 rfl rfl) h2
  refine ((f7_spec A0 A1 M0 c0 M1 c1 l0 l1 hM0 hM1 hn0 hn1 a2) W ((RO.cons hx0 rfl (.cons hx1 rfl .nil)).sat)).mono fun e W' ⟨r, he, hr, _, hc, _⟩ => ?_
  subst he
  subst hr
  refine ⟨_, rfl, law_post (tb := 4) (by kernel_rfl) hW' rfl rfl Try.underlying4 ?_ rfl (hc.mono fun i hi => ?_)⟩
  · rw [Try.params7]
    intro t ht
    simp only [List.mem_cons, List.not_mem_nil, or_false] at ht
    rcases ht with rfl | rfl | rfl
    all_goals exact ⟨by kernel_rfl, of_decide_eq_true (by kernel_rfl)⟩
  · obtain ⟨c, hc1, _⟩ := hi
    cases hc1
theorem over : Rows.journalOthersRow.holds Try.pinned (OpenSpec.ofChange Rows.journalOthersSpec) :=
  OpenClaim.holds_of_wide 7 Try.f7 rfl rfl rfl rfl rfl rfl rfl ⟨rfl, rfl, rfl, rfl, rfl⟩ rfl rfl rfl rfl rfl (by kernel_rfl) Try.func7 (by kernel_rfl)
    (of_decide_eq_true (by kernel_rfl)) (by unfold Func.isWrapper; first | (rw [if_pos (by decide +kernel)]; kernel_rfl) | (rw [if_neg (by decide +kernel)]; exact ⟨rfl, rfl⟩))
    (fun os started H enc _ => lifted os started H enc)
theorem proved : Rows.JournalOthersSaid :=
  over
end Go.Proofs.Ytkjlbedebmffgaa.journalOthers
