import Derived.Test.YthephcghglldaaaLo
set_option linter.unusedVariables false
set_option linter.unusedSimpArgs false
namespace Go.Proofs.Ythephcghglldaaa.Sx
open Go.RowKit Go.Proofs.Ythephcghglldaaa.Ty
attribute [local irreducible] blk own rd rx frameC

open Go.ChangeShapes Go.WideShapes Go.ChangeAt
section
variable {H : Type} {enc : TypeId × Value → H}
theorem u8_open {P : Program} {r : Reach} {b0 t base : Nat} {sp : Nat → Bool} {hd : Bool} {w : World} {v : Value} {d : DataW H} {p : List MemPlace} (ht : P.underlying t = some (.int .u8)) (hv : Value.okWide P w r b0 t v) (h : DataW.Trod enc P w base sp hd t v d p) :
    ∃ a : UInt8, v = bv a := by
  obtain ⟨a, rfl, _, _, hw⟩ := open_int ht hv h
  have hx : 0 ≤ a ∧ a ≤ 255 := by simpa [Lit.wf, IntKind.min, IntKind.max, IntKind.signed, IntKind.bits] using hw
  refine ⟨UInt8.ofNat a.toNat, ?_⟩
  have e : ((UInt8.ofNat a.toNat).toNat : Int) = a := by
    have : (UInt8.ofNat a.toNat).toNat = a.toNat % 256 := by simp
    omega
  show Value.int .u8 a = .int .u8 _
  rw [e]
theorem i64_open {P : Program} {r : Reach} {b0 t base : Nat} {sp : Nat → Bool} {hd : Bool} {w : World} {v : Value} {d : DataW H} {p : List MemPlace} (ht : P.underlying t = some (.int .i64)) (hv : Value.okWide P w r b0 t v) (h : DataW.Trod enc P w base sp hd t v d p) :
    ∃ a : Int, v = .int .i64 a ∧ -9223372036854775808 ≤ a ∧ a < 9223372036854775808 := by
  obtain ⟨a, rfl, _, _, hw⟩ := open_int ht hv h
  have hx : -9223372036854775808 ≤ a ∧ a ≤ 9223372036854775807 := by simpa [Lit.wf, IntKind.min, IntKind.max, IntKind.signed, IntKind.bits] using hw
  exact ⟨a, rfl, hx.1, by omega⟩
theorem u16_open {P : Program} {r : Reach} {b0 t base : Nat} {sp : Nat → Bool} {hd : Bool} {w : World} {v : Value} {d : DataW H} {p : List MemPlace} (ht : P.underlying t = some (.int .u16)) (hv : Value.okWide P w r b0 t v) (h : DataW.Trod enc P w base sp hd t v d p) :
    ∃ a : Nat, v = .int .u16 (a : Int) ∧ a < 65536 := by
  obtain ⟨a, rfl, _, _, hw⟩ := open_int ht hv h
  have hx : 0 ≤ a ∧ a ≤ 65535 := by simpa [Lit.wf, IntKind.min, IntKind.max, IntKind.signed, IntKind.bits] using hw
  exact ⟨a.toNat, by rw [Int.toNat_of_nonneg hx.1], by omega⟩
set_option maxRecDepth 100000 in
theorem rec_open {r : Reach} {b0 : Nat} {w : World} {v : Value} {d : DataW H} {p : List MemPlace} (hv : Value.okWide Try.prog w r b0 49 v) (h : DataW.Trod enc Try.prog w 0 (fun _ => true) true 49 v d p) :
    ∃ (k g n : Int) (x : Bs), v = .agg #[.int .i64 k, .int .i64 g, .int .i64 n, .slice x.A x.s.length x.c] ∧ x.ch.ok w := by
  obtain ⟨cs, rfl, hl, f, hf⟩ := trod_fields Try.underlying49 hv h
  have e3 : Try.prog.cellsOf 3 = 1 := by kernel_rfl
  have e22 : Try.prog.cellsOf 22 = 1 := by kernel_rfl
  rw [show Try.prog.cellsOf 49 = 4 by kernel_rfl] at hl
  match cs, hl with
  | [v0, v1, v2, v3], _ =>
    obtain ⟨_, h0⟩ := trod_at1 (hf 0 _ rfl) rfl e3 rfl rfl
    obtain ⟨_, h1⟩ := trod_at1 (hf 1 _ rfl) rfl e3 rfl rfl
    obtain ⟨_, h2⟩ := trod_at1 (hf 2 _ rfl) rfl e3 rfl rfl
    obtain ⟨_, h3⟩ := trod_at1 (hf 3 _ rfl) rfl e22 rfl rfl
    obtain ⟨k, rfl, _⟩ := trod_num Try.underlying3 h0
    obtain ⟨g, rfl, _⟩ := trod_num Try.underlying3 h1
    obtain ⟨n, rfl, _⟩ := trod_num Try.underlying3 h2
    obtain ⟨x, rfl, hx⟩ := trod_bytes Try.underlying22 Try.underlying5 (by kernel_rfl) h3
    exact ⟨k, g, n, x, rfl, hx⟩
end
end Go.Proofs.Ythephcghglldaaa.Sx
