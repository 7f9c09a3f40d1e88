import Derived.SizedLaws
import Derived.Test.YtkjlbedebmffgaaRows
import Derived.Test.YtkjlbedebmffgaaMh
import Derived.Test.YtkjlbedebmffgaaMp
import Derived.WalkKit
import Derived.ProofKit
import Derived.OpenShut
set_option linter.unusedVariables false
set_option linter.unusedSimpArgs false
namespace Go.Proofs.Ytkjlbedebmffgaa.journalLost
open Go.ChangeShapes Go.WideShapes Go.ChangeAt Go.RowKit Go.Proofs.Ytkjlbedebmffgaa.Sx
theorem knob : ownKnob Try.prog.godebug = none := by kernel_rfl
set_option maxRecDepth 100000 in
theorem lifted (os : Os) (started : os.Started) (H : Type) (enc : TypeId × Value → H) :
    ReturnsInHanded {} Try.checked os 8 .any (Rows.journalLostSpec.pre6 enc Try.prog Try.f8 Rows.journalLostRow.domain false) (Rows.journalLostSpec.post enc Try.prog Try.f8 false true false false) := by
  refine returnsInHanded_of_change (C := Try.checked) knob started (by kernel_rfl) Try.func8
    (ChangeSpec.witness6 (enc := enc) (C := Try.checked) false ⟨#[], #[.int .u8 0, .slice none 0 0, .slice none 0 0, .slice none 0 0, .slice none 0 0], []⟩ 8 (by kernel_rfl) (by kernel_rfl) (by kernel_rfl) (by kernel_rfl)) ?_
  intro W base args ds gs before hval0 hW hcnd _
  have hval : ∀ (j : Nat) t v, Try.f8.params[j]? = some t → args[j]? = some v → Value.okWide Try.prog W .any base t v := hval0
  have hW' := hW
  obtain ⟨p, q, hA0, hV, rfl, hfz, hnd⟩ := hW
  have hA : DataW.TrodAll enc Try.prog W 0 (fun _ => true) true Try.f8.params.toList args.toList ds p := hA0
  rw [Try.params8] at hA hval
  obtain ⟨v0, vs0, d0, ds0, p0, q0, hargs, rfl, rfl, h0, r0⟩ := trodAll_cons hA
  obtain ⟨v1, vs1, d1, ds1, p1, q1, rfl, rfl, rfl, h1, r1⟩ := trodAll_cons r0
  obtain ⟨v2, vs2, d2, ds2, p2, q2, rfl, rfl, rfl, h2, r2⟩ := trodAll_cons r1
  obtain ⟨v3, vs3, d3, ds3, p3, q3, rfl, rfl, rfl, h3, r3⟩ := trodAll_cons r2
  obtain ⟨v4, vs4, d4, ds4, p4, q4, rfl, rfl, rfl, h4, r4⟩ := trodAll_cons r3
  obtain ⟨rfl, rfl, rfl⟩ := trodAll_nil r4
  obtain rfl : args = #[v0, v1, v2, v3, v4] := by cases args; simp_all
  obtain ⟨rfl, rfl⟩ := trodVars_none hV
  obtain ⟨a0, rfl⟩ := u8_open Try.underlying5 (hval 0 5 v0 rfl rfl) h0
  obtain ⟨A1, M1, c1, l1, rfl, hM1, hx1, hn1⟩ := ops_open (hval 1 22 v1 rfl rfl) h1
  obtain ⟨A2, M2, c2, s2, rfl, hM2, hx2⟩ := bytes_open (hval 2 23 v2 rfl rfl) h2
  obtain ⟨A3, M3, c3, l3, rfl, hM3, hx3, hn3⟩ := ops_open (hval 3 22 v3 rfl rfl) h3
  obtain ⟨A4, M4, c4, s4, rfl, hM4, hx4⟩ := bytes_open (hval 4 23 v4 rfl rfl) h4
  refine ((f8_spec a0 A1 A2 A3 A4 M1 c1 M2 c2 M3 c3 M4 c4 l1 l3 s2 s4 hM1 hM3 hM2 hM4 hn1 hn3) W ((RO.cons hx1 rfl (.cons hx2 rfl (.cons hx3 rfl (.cons hx4 rfl .nil)))).sat)).mono fun e W' ⟨r, he, hr, _, hc, _⟩ => ?_
  subst he
  subst hr
  refine ⟨_, rfl, law_post (tb := 4) (by kernel_rfl) hW' rfl rfl Try.underlying4 ?_ rfl (hc.mono fun i hi => ?_)⟩
  · rw [Try.params8]
    intro t ht
    simp only [List.mem_cons, List.not_mem_nil, or_false] at ht
    rcases ht with rfl | rfl | rfl | rfl | rfl
    all_goals exact ⟨by kernel_rfl, of_decide_eq_true (by kernel_rfl)⟩
  · obtain ⟨c, hc1, _⟩ := hi
    cases hc1
theorem over : Rows.journalLostRow.holds Try.pinned (OpenSpec.ofChange Rows.journalLostSpec) :=
  OpenClaim.holds_of_wide 8 Try.f8 rfl rfl rfl rfl rfl rfl rfl ⟨rfl, rfl, rfl, rfl, rfl⟩ rfl rfl rfl rfl rfl (by kernel_rfl) Try.func8 (by kernel_rfl)
    (of_decide_eq_true (by kernel_rfl)) (by unfold Func.isWrapper; first | (rw [if_pos (by decide +kernel)]; kernel_rfl) | (rw [if_neg (by decide +kernel)]; exact ⟨rfl, rfl⟩))
    (fun os started H enc _ => lifted os started H enc)
theorem proved : Rows.JournalLostSaid :=
  over
end Go.Proofs.Ytkjlbedebmffgaa.journalLost
