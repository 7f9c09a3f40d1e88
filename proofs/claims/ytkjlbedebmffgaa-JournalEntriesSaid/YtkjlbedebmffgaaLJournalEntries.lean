import Derived.SizedLaws
import Derived.Test.YtkjlbedebmffgaaRows
import Derived.Test.YtkjlbedebmffgaaMh
import Derived.Test.YtkjlbedebmffgaaMn
import Derived.WalkKit
import Derived.ProofKit
import Derived.OpenShut
set_option linter.unusedVariables false
set_option linter.unusedSimpArgs false
namespace Go.Proofs.Ytkjlbedebmffgaa.journalEntries
open Go.ChangeShapes Go.WideShapes Go.ChangeAt Go.RowKit Go.Proofs.Ytkjlbedebmffgaa.Sx
theorem knob : ownKnob Try.prog.godebug = none := by kernel_rfl
set_option maxRecDepth 100000 in
theorem lifted (os : Os) (started : os.Started) (H : Type) (enc : TypeId × Value → H) :
    ReturnsInHanded {} Try.checked os 6 .any (Rows.journalEntriesSpec.pre6 enc Try.prog Try.f6 Rows.journalEntriesRow.domain false) (Rows.journalEntriesSpec.post enc Try.prog Try.f6 false true false false) := by
  refine returnsInHanded_of_change (C := Try.checked) knob started (by kernel_rfl) Try.func6
    (ChangeSpec.witness6 (enc := enc) (C := Try.checked) false ⟨#[], #[.int .u8 0, .slice none 0 0], []⟩ 8 (by kernel_rfl) (by kernel_rfl) (by kernel_rfl) (by kernel_rfl)) ?_
  intro W base args ds gs before hval0 hW hcnd _
  have hval : ∀ (j : Nat) t v, Try.f6.params[j]? = some t → args[j]? = some v → Value.okWide Try.prog W .any base t v := hval0
  have hW' := hW
  obtain ⟨p, q, hA0, hV, rfl, hfz, hnd⟩ := hW
  have hA : DataW.TrodAll enc Try.prog W 0 (fun _ => true) true Try.f6.params.toList args.toList ds p := hA0
  rw [Try.params6] at hA hval
  obtain ⟨v0, vs0, d0, ds0, p0, q0, hargs, rfl, rfl, h0, r0⟩ := trodAll_cons hA
  obtain ⟨v1, vs1, d1, ds1, p1, q1, rfl, rfl, rfl, h1, r1⟩ := trodAll_cons r0
  obtain ⟨rfl, rfl, rfl⟩ := trodAll_nil r1
  obtain rfl : args = #[v0, v1] := by cases args; simp_all
  obtain ⟨rfl, rfl⟩ := trodVars_none hV
  obtain ⟨a0, rfl⟩ := u8_open Try.underlying5 (hval 0 5 v0 rfl rfl) h0
  obtain ⟨A1, M1, c1, l1, rfl, hM1, hx1, hn1⟩ := ops_open (hval 1 22 v1 rfl rfl) h1
  refine ((f6_spec a0 A1 M1 c1 l1 hM1 hn1) W ((RO.cons hx1 rfl .nil).sat)).mono fun e W' ⟨r, he, hr, _, hc, _⟩ => ?_
  subst he
  subst hr
  refine ⟨_, rfl, law_post (tb := 4) (by kernel_rfl) hW' rfl rfl Try.underlying4 ?_ rfl (hc.mono fun i hi => ?_)⟩
  · rw [Try.params6]
    intro t ht
    simp only [List.mem_cons, List.not_mem_nil, or_false] at ht
    rcases ht with rfl | rfl
    all_goals exact ⟨by kernel_rfl, of_decide_eq_true (by kernel_rfl)⟩
  · obtain ⟨c, hc1, _⟩ := hi
    cases hc1
theorem over : Rows.journalEntriesRow.holds Try.pinned (OpenSpec.ofChange Rows.journalEntriesSpec) :=
  OpenClaim.holds_of_wide 6 Try.f6 rfl rfl rfl rfl rfl rfl rfl ⟨rfl, rfl, rfl, rfl, rfl⟩ rfl rfl rfl rfl rfl (by kernel_rfl) Try.func6 (by kernel_rfl)
    (of_decide_eq_true (by kernel_rfl)) (by unfold Func.isWrapper; first | (rw [if_pos (by decide +kernel)]; kernel_rfl) | (rw [if_neg (by decide +kernel)]; exact ⟨rfl, rfl⟩))
    (fun os started H enc _ => lifted os started H enc)
theorem proved : Rows.JournalEntriesSaid :=
  over
end Go.Proofs.Ytkjlbedebmffgaa.journalEntries
