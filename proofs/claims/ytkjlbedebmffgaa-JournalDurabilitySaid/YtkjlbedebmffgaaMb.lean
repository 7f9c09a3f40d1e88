import Derived.Test.YtkjlbedebmffgaaMa
set_option linter.unusedVariables false
set_option linter.unusedSimpArgs false
namespace Go.Proofs.Ytkjlbedebmffgaa.Sx
open Go.RowKit Go.Proofs.Ytkjlbedebmffgaa.Ty
attribute [local irreducible] blk own rd rx frameC

def bvs (l : List UInt8) : List Value := l.map bv
@[simp] theorem bvs_length (l : List UInt8) : (bvs l).length = l.length := by simp [bvs]
theorem bvs_append (l m : List UInt8) : bvs (l ++ m) = bvs l ++ bvs m := by simp [bvs]
theorem bvs_one (l : List UInt8) : (bvs l).all (·.oneCell') = true := by simp [bvs, bv, Value.oneCell']
def wvs (l : List UInt32) : List Value := l.map wv
@[simp] theorem wvs_length (l : List UInt32) : (wvs l).length = l.length := by simp [wvs]
theorem wvs_one (l : List UInt32) : (wvs l).all (·.oneCell') = true := by simp [wvs, wv, Value.oneCell']
def rotr (x : UInt32) (n : Nat) : UInt32 := (x >>> UInt32.ofNat n) ||| (x <<< UInt32.ofNat (32 - n))
structure S8 where
  (a b c d e f g h : UInt32)
def S8.cells (s : S8) : List Value := [wv s.a, wv s.b, wv s.c, wv s.d, wv s.e, wv s.f, wv s.g, wv s.h]
def S8.round (s : S8) (k w : UInt32) : S8 :=
  ⟨(s.h + (rotr s.e 6 ^^^ rotr s.e 11 ^^^ rotr s.e 25) + ((s.e &&& s.f) ^^^ ((~~~ s.e) &&& s.g)) + k + w) + ((rotr s.a 2 ^^^ rotr s.a 13 ^^^ rotr s.a 22) + ((s.a &&& s.b) ^^^ (s.a &&& s.c) ^^^ (s.b &&& s.c))), s.a, s.b, s.c,
   s.d + (s.h + (rotr s.e 6 ^^^ rotr s.e 11 ^^^ rotr s.e 25) + ((s.e &&& s.f) ^^^ ((~~~ s.e) &&& s.g)) + k + w), s.e, s.f, s.g⟩
def S8.plus (s o : S8) : S8 := ⟨s.a + o.a, s.b + o.b, s.c + o.c, s.d + o.d, s.e + o.e, s.f + o.f, s.g + o.g, s.h + o.h⟩
section
variable {P : Program} {n : Fr} {L : List (Nat × Value)} {H : List Ch} {d : Nat} {ty : TypeId} {pos : String} {af : Array Edge} {g : Option (Nat × Bool)} {x y : Operand} {xt yt : TypeId} {src dst : TypeId}
theorem op_convNeg {a : Int} (hs : (P.underlying src).isSome = true) (hd : P.underlying dst = some (.int .u64)) (hn : d < n.n) (hx : evr L x = some (.int .i64 a)) (h0 : -64 ≤ a ∧ a < 0) :
    Val P ⟨some d, .convert src dst x, ty, pos, af, g⟩ n L H d (.int .u64 (a + 18446744073709551616)) := by
  have h := op_conv (P := P) (H := H) (ty := ty) (pos := pos) (af := af) (g := g) (k := .i64) hs hd hn hx
  have e : IntKind.u64.wrap a = a + 18446744073709551616 := by
    simp [IntKind.wrap, IntKind.bits, IntKind.signed]
    omega
  rw [e] at h
  exact h
theorem op_and31 {a : Int} (hn : d < n.n) (hx : evr L x = some (.int .u64 a)) (hy : evr L y = some (.int .u64 31)) (h0 : 0 ≤ a ∧ a < 18446744073709551616) :
    Val P ⟨some d, .binOp .and xt x y yt, ty, pos, af, g⟩ n L H d (.int .u64 (a % 32)) :=
  binop_val hn hx hy (fun _ _ => rfl) fun w => by
    show (binOp .and xt (.int .u64 a) (.int .u64 31)).run P w = _
    rw [binOp_and]
    have e : IntKind.u64.wrap ((BitVec.ofInt 64 a &&& BitVec.ofInt 64 31).toNat : Int) = a % 32 := by
      obtain ⟨k, rfl⟩ := Int.eq_ofNat_of_zero_le h0.1
      have e1 : (BitVec.ofInt 64 (k : Int) &&& BitVec.ofInt 64 31).toNat = k % 32 := by
        have hk : k < 2 ^ 64 := by omega
        have h31 : (BitVec.ofInt 64 31).toNat = 2 ^ 5 - 1 := by decide
        rw [BitVec.toNat_and, h31, Nat.and_two_pow_sub_one_eq_mod, BitVec.ofInt_natCast, BitVec.toNat_ofNat, Nat.mod_eq_of_lt hk]
      rw [e1]
      simp [IntKind.wrap, IntKind.bits, IntKind.signed]
      omega
    exact congrArg (fun z : Int => (Result.ok (Value.int .u64 z) w : Result Value)) e
theorem op_sub64 {a b : Int} (hn : d < n.n) (hx : evr L x = some (.int .u64 a)) (hy : evr L y = some (.int .u64 b)) (hr : 0 ≤ a - b ∧ a - b < 18446744073709551616) :
    Val P ⟨some d, .binOp .sub xt x y yt, ty, pos, af, g⟩ n L H d (.int .u64 (a - b)) :=
  binop_val hn hx hy (fun _ _ => rfl) fun w => by simp [binOp, Op.intArith, IntKind.wrap, IntKind.bits, IntKind.signed]; omega
theorem op_mul64 {a b : Int} (hn : d < n.n) (hx : evr L x = some (.int .u64 a)) (hy : evr L y = some (.int .u64 b)) (hr : 0 ≤ a * b ∧ a * b < 18446744073709551616) :
    Val P ⟨some d, .binOp .mul xt x y yt, ty, pos, af, g⟩ n L H d (.int .u64 (a * b)) :=
  binop_val hn hx hy (fun _ _ => rfl) fun w => by simp [binOp, Op.intArith, IntKind.wrap, IntKind.bits, IntKind.signed]; omega
theorem op_shr64 {a s : Int} {k' : IntKind} (hn : d < n.n) (hx : evr L x = some (.int .u64 a)) (hy : evr L y = some (.int k' s)) (hs : 0 ≤ a ∧ 0 ≤ s ∧ s < 64) :
    Val P ⟨some d, .binOp .shr xt x y yt, ty, pos, af, g⟩ n L H d (.int .u64 (a / (2 ^ s.toNat : Nat))) :=
  binop_val hn hx hy (fun _ _ => rfl) fun w => by
    have h0 : ¬ s < 0 := by omega
    have h1 : min s.toNat 64 = s.toNat := by omega
    simp [binOp_shr, Op.shift, h0, IntKind.bits, h1]
end
set_option maxHeartbeats 400000 in
set_option maxRecDepth 10000 in
theorem f91_spec (x : UInt32) (m : Nat) (hm : 1 ≤ m ∧ m ≤ 31) :
    Spec Try.prog 91 [wv x, .int .i64 (-(m : Int))] [] [] (R := Unit) (fun _ => True) (fun _ => wv (rotr x m)) (fun _ => []) := by
  refine Spec.intro Try.func91 Try.ntmps91 rfl (by simp) (by simp) fun w0 => ?_
  refine WC.seq ?_
  refine WC.region ?_
  refine wlv (op_assign (lt_ rfl) rfl) rfl ?_
  refine WL.nil ?_
  refine WX.regs (L' := [(0, _), (1, _)]) ?_
  refine WX.next ?_
  refine WC.seq ?_
  refine WC.region ?_
  refine wlv (op_move (lt_ rfl) rfl) rfl ?_
  refine wlv (op_convNeg (by kernel_rfl) Try.underlying123 (by decide) rfl (by omega)) rfl ?_
  refine wlv (op_and31 (by decide) rfl rfl (by omega)) rfl ?_
  refine wlv (op_assign (lt_ rfl) rfl) rfl ?_
  refine WL.nil ?_
  refine WX.regs (L' := [(0, _), (5, _)]) ?_
  refine WX.next ?_
  refine WC.seq ?_
  refine WC.region ?_
  refine wlv (op_move (lt_ rfl) rfl) rfl ?_
  refine wlv (op_move (lt_ rfl) rfl) rfl ?_
  refine wlv (op_shl32 (lt_ rfl) rfl rfl (by omega)) rfl ?_
  refine wlv (op_move (lt_ rfl) rfl) rfl ?_
  refine wlv (op_move (lt_ rfl) rfl) rfl ?_
  refine wlv (op_sub64 (lt_ rfl) rfl rfl (by omega)) rfl ?_
  refine wlv (op_shr32 (lt_ rfl) rfl rfl (by omega)) rfl ?_
  refine wlv (op_or32 (lt_ rfl) rfl rfl) rfl ?_
  refine wlv (op_assign (lt_ rfl) rfl) rfl ?_
  refine WL.nil ?_
  refine WX.regs (L' := [(4, _)]) ?_
  refine WX.next ?_
  refine WC.ret ?_
  have e1 : ((-(m : Int) + 18446744073709551616) % 32).toNat = 32 - m := by omega
  have e2 : (32 - (-(m : Int) + 18446744073709551616) % 32).toNat = m := by omega
  rw [e1, e2]
  have e3 : (x <<< UInt32.ofNat (32 - m)) ||| (x >>> UInt32.ofNat m) = rotr x m := UInt32.or_comm _ _
  rw [e3]
  exact Fin.ret1 xI (()) (trivial) Try.results91 (.tmp rfl) xT (by simp)
set_option maxHeartbeats 400000 in
set_option maxRecDepth 10000 in
theorem f88_spec (x : UInt32) (m : Nat) (hm : 1 ≤ m ∧ m ≤ 31) :
    Spec Try.prog 88 [wv x, .int .i64 (m : Int)] [] [] (R := Unit) (fun _ => True) (fun _ => wv (rotr x m)) (fun _ => []) := by
  refine Spec.intro Try.func88 Try.ntmps88 rfl (by simp) (by simp) fun w0 => ?_
  refine WC.seq ?_
  refine WC.region ?_
  refine wlv (op_assign (lt_ rfl) rfl) rfl ?_
  refine WL.nil ?_
  refine WX.regs (L' := [(0, _), (1, _)]) ?_
  refine WX.next ?_
  refine WC.seq ?_
  refine WC.region ?_
  refine wlv (op_move (lt_ rfl) rfl) rfl ?_
  refine wlv (op_move (lt_ rfl) rfl) rfl ?_
  refine wlv (op_neg (lt_ rfl) rfl (by omega)) rfl ?_
  refine wlx (op_call (f91_spec x m hm) ca91 (lt_ rfl) rfl) rfl ?_
  rintro _ _
  refine wlv (op_assign (lt_ rfl) rfl) rfl ?_
  refine WL.nil ?_
  refine WX.regs (L' := [(4, _)]) ?_
  refine WX.next ?_
  refine WC.ret ?_
  exact Fin.ret1 xI (()) (trivial) Try.results88 (.tmp rfl) xT (by simp)
set_option maxHeartbeats 400000 in
set_option maxRecDepth 10000 in
theorem f89_spec (s : S8) (k w : UInt32) :
    Spec Try.prog 89 [.agg s.cells.toArray, wv k, wv w] [] [] (R := Unit) (fun _ => True) (fun _ => .agg (s.round k w).cells.toArray) (fun _ => []) := by
  refine Spec.intro Try.func89 Try.ntmps89 rfl (by simp) (by simp) fun w0 => ?_
  refine WC.seq ?_
  refine WC.region ?_
  refine wl1 (op_box (lt_ rfl) rfl rfl) rfl fun b1 => ?_
  refine wl1 (op_alloc ti141 (lt_ rfl)) rfl fun b2 => ?_
  refine WL.nil ?_
  refine WX.regs (L' := [(1, _), (2, _), (3, _), (6, _)]) ?_
  refine WX.next ?_
  refine WC.seq ?_
  refine WC.drawnH mo 999 ?_
  refine WA.take (i := 0) rfl (by kernel_rfl) (fun _ _ _ h => h) rfl (op_fieldAddr fo141_7 (lt_ rfl) rfl) xT ?_
  refine WA.take (i := 1) rfl (by kernel_rfl) (fun _ _ _ h => h) rfl (op_load1 fl139 (lt_ rfl) rfl xM rfl) xT ?_
  refine WA.take (i := 2) rfl (by kernel_rfl) (fun _ _ _ h => h) rfl (op_fieldAddr fo141_4 (lt_ rfl) rfl) xT ?_
  refine WA.take (i := 3) rfl (by kernel_rfl) (fun _ _ _ h => h) rfl (op_load1 fl139 (lt_ rfl) rfl xM rfl) xT ?_
  refine WA.take (i := 5) rfl (by kernel_rfl) (fun _ _ _ h => h) rfl (op_fieldAddr fo141_4 (lt_ rfl) rfl) xT ?_
  refine WA.take (i := 6) rfl (by kernel_rfl) (fun _ _ _ h => h) rfl (op_load1 fl139 (lt_ rfl) rfl xM rfl) xT ?_
  refine WA.take (i := 9) rfl (by kernel_rfl) (fun _ _ _ h => h) rfl (op_fieldAddr fo141_4 (lt_ rfl) rfl) xT ?_
  refine WA.take (i := 10) rfl (by kernel_rfl) (fun _ _ _ h => h) rfl (op_load1 fl139 (lt_ rfl) rfl xM rfl) xT ?_
  refine WA.take (i := 14) rfl (by kernel_rfl) (fun _ _ _ h => h) rfl (op_fieldAddr fo141_4 (lt_ rfl) rfl) xT ?_
  refine WA.take (i := 15) rfl (by kernel_rfl) (fun _ _ _ h => h) rfl (op_load1 fl139 (lt_ rfl) rfl xM rfl) xT ?_
  refine WA.take (i := 16) rfl (by kernel_rfl) (fun _ _ _ h => h) rfl (op_fieldAddr fo141_5 (lt_ rfl) rfl) xT ?_
  refine WA.take (i := 17) rfl (by kernel_rfl) (fun _ _ _ h => h) rfl (op_load1 fl139 (lt_ rfl) rfl xM rfl) xT ?_
  refine WA.take (i := 18) rfl (by kernel_rfl) (fun _ _ _ h => h) rfl (op_and32 (lt_ rfl) rfl rfl) xT ?_
  refine WA.take (i := 19) rfl (by kernel_rfl) (fun _ _ _ h => h) rfl (op_fieldAddr fo141_4 (lt_ rfl) rfl) xT ?_
  refine WA.take (i := 20) rfl (by kernel_rfl) (fun _ _ _ h => h) rfl (op_load1 fl139 (lt_ rfl) rfl xM rfl) xT ?_
  refine WA.take (i := 21) rfl (by kernel_rfl) (fun _ _ _ h => h) rfl (op_not32 (lt_ rfl) rfl) xT ?_
  refine WA.take (i := 22) rfl (by kernel_rfl) (fun _ _ _ h => h) rfl (op_fieldAddr fo141_6 (lt_ rfl) rfl) xT ?_
  refine WA.take (i := 23) rfl (by kernel_rfl) (fun _ _ _ h => h) rfl (op_load1 fl139 (lt_ rfl) rfl xM rfl) xT ?_
  refine WA.take (i := 24) rfl (by kernel_rfl) (fun _ _ _ h => h) rfl (op_and32 (lt_ rfl) rfl rfl) xT ?_
  refine WA.take (i := 25) rfl (by kernel_rfl) (fun _ _ _ h => h) rfl (op_xor32 (lt_ rfl) rfl rfl) xT ?_
  refine WA.take (i := 27) rfl (by kernel_rfl) (fun _ _ _ h => h) rfl (op_move (lt_ rfl) rfl) xT ?_
  refine WA.take (i := 29) rfl (by kernel_rfl) (fun _ _ _ h => h) rfl (op_move (lt_ rfl) rfl) xT ?_
  refine WA.stepx (i := 4) (by kernel_rfl) rfl rfl (op_call (f88_spec _ _ (by decide)) ca88 (lt_ rfl) rfl) (fun _ r => xT) ?_
  rintro r1 h1
  refine WA.stepx (i := 7) (by kernel_rfl) rfl rfl (op_call (f88_spec _ _ (by decide)) ca88 (lt_ rfl) rfl) (fun _ r => xT) ?_
  rintro r2 h2
  refine WA.take (i := 8) rfl (by kernel_rfl) (fun _ _ _ h => h) rfl (op_xor32 (lt_ rfl) rfl rfl) xT ?_
  refine WA.stepx (i := 11) (by kernel_rfl) rfl rfl (op_call (f88_spec _ _ (by decide)) ca88 (lt_ rfl) rfl) (fun _ r => xT) ?_
  rintro r3 h3
  refine WA.take (i := 12) rfl (by kernel_rfl) (fun _ _ _ h => h) rfl (op_xor32 (lt_ rfl) rfl rfl) xT ?_
  refine WA.take (i := 13) rfl (by kernel_rfl) (fun _ _ _ h => h) rfl (op_add32 (lt_ rfl) rfl rfl) xT ?_
  refine WA.take (i := 26) rfl (by kernel_rfl) (fun _ _ _ h => h) rfl (op_add32 (lt_ rfl) rfl rfl) xT ?_
  refine WA.take (i := 28) rfl (by kernel_rfl) (fun _ _ _ h => h) rfl (op_add32 (lt_ rfl) rfl rfl) xT ?_
  refine WA.take (i := 30) rfl (by kernel_rfl) (fun _ _ _ h => h) rfl (op_add32 (lt_ rfl) rfl rfl) xT ?_
  refine WA.take (i := 31) rfl (by kernel_rfl) (fun _ _ _ h => h) rfl (op_assign (lt_ rfl) rfl) xT ?_
  refine WA.done (by kernel_rfl) ?_
  refine WX.regs (L' := [(3, _), (6, _), (7, _)]) ?_
  refine WX.next ?_
  refine WC.seq ?_
  refine WC.drawnH mo 999 ?_
  refine WA.take (i := 0) rfl (by kernel_rfl) (fun _ _ _ h => h) rfl (op_fieldAddr fo141_0 (lt_ rfl) rfl) xT ?_
  refine WA.take (i := 1) rfl (by kernel_rfl) (fun _ _ _ h => h) rfl (op_load1 fl139 (lt_ rfl) rfl xM rfl) xT ?_
  refine WA.take (i := 3) rfl (by kernel_rfl) (fun _ _ _ h => h) rfl (op_fieldAddr fo141_0 (lt_ rfl) rfl) xT ?_
  refine WA.take (i := 4) rfl (by kernel_rfl) (fun _ _ _ h => h) rfl (op_load1 fl139 (lt_ rfl) rfl xM rfl) xT ?_
  refine WA.take (i := 7) rfl (by kernel_rfl) (fun _ _ _ h => h) rfl (op_fieldAddr fo141_0 (lt_ rfl) rfl) xT ?_
  refine WA.take (i := 8) rfl (by kernel_rfl) (fun _ _ _ h => h) rfl (op_load1 fl139 (lt_ rfl) rfl xM rfl) xT ?_
  refine WA.take (i := 11) rfl (by kernel_rfl) (fun _ _ _ h => h) rfl (op_fieldAddr fo141_0 (lt_ rfl) rfl) xT ?_
  refine WA.take (i := 12) rfl (by kernel_rfl) (fun _ _ _ h => h) rfl (op_load1 fl139 (lt_ rfl) rfl xM rfl) xT ?_
  refine WA.take (i := 13) rfl (by kernel_rfl) (fun _ _ _ h => h) rfl (op_fieldAddr fo141_1 (lt_ rfl) rfl) xT ?_
  refine WA.take (i := 14) rfl (by kernel_rfl) (fun _ _ _ h => h) rfl (op_load1 fl139 (lt_ rfl) rfl xM rfl) xT ?_
  refine WA.take (i := 15) rfl (by kernel_rfl) (fun _ _ _ h => h) rfl (op_and32 (lt_ rfl) rfl rfl) xT ?_
  refine WA.take (i := 16) rfl (by kernel_rfl) (fun _ _ _ h => h) rfl (op_fieldAddr fo141_0 (lt_ rfl) rfl) xT ?_
  refine WA.take (i := 17) rfl (by kernel_rfl) (fun _ _ _ h => h) rfl (op_load1 fl139 (lt_ rfl) rfl xM rfl) xT ?_
  refine WA.take (i := 18) rfl (by kernel_rfl) (fun _ _ _ h => h) rfl (op_fieldAddr fo141_2 (lt_ rfl) rfl) xT ?_
  refine WA.take (i := 19) rfl (by kernel_rfl) (fun _ _ _ h => h) rfl (op_load1 fl139 (lt_ rfl) rfl xM rfl) xT ?_
  refine WA.take (i := 20) rfl (by kernel_rfl) (fun _ _ _ h => h) rfl (op_and32 (lt_ rfl) rfl rfl) xT ?_
  refine WA.take (i := 21) rfl (by kernel_rfl) (fun _ _ _ h => h) rfl (op_xor32 (lt_ rfl) rfl rfl) xT ?_
  refine WA.take (i := 22) rfl (by kernel_rfl) (fun _ _ _ h => h) rfl (op_fieldAddr fo141_1 (lt_ rfl) rfl) xT ?_
  refine WA.take (i := 23) rfl (by kernel_rfl) (fun _ _ _ h => h) rfl (op_load1 fl139 (lt_ rfl) rfl xM rfl) xT ?_
  refine WA.take (i := 24) rfl (by kernel_rfl) (fun _ _ _ h => h) rfl (op_fieldAddr fo141_2 (lt_ rfl) rfl) xT ?_
  refine WA.take (i := 25) rfl (by kernel_rfl) (fun _ _ _ h => h) rfl (op_load1 fl139 (lt_ rfl) rfl xM rfl) xT ?_
  refine WA.take (i := 26) rfl (by kernel_rfl) (fun _ _ _ h => h) rfl (op_and32 (lt_ rfl) rfl rfl) xT ?_
  refine WA.take (i := 27) rfl (by kernel_rfl) (fun _ _ _ h => h) rfl (op_xor32 (lt_ rfl) rfl rfl) xT ?_
  refine WA.stepx (i := 2) (by kernel_rfl) rfl rfl (op_call (f88_spec _ _ (by decide)) ca88 (lt_ rfl) rfl) (fun _ r => xT) ?_
  rintro r4 h4
  refine WA.stepx (i := 5) (by kernel_rfl) rfl rfl (op_call (f88_spec _ _ (by decide)) ca88 (lt_ rfl) rfl) (fun _ r => xT) ?_
  rintro r5 h5
  refine WA.take (i := 6) rfl (by kernel_rfl) (fun _ _ _ h => h) rfl (op_xor32 (lt_ rfl) rfl rfl) xT ?_
  refine WA.stepx (i := 9) (by kernel_rfl) rfl rfl (op_call (f88_spec _ _ (by decide)) ca88 (lt_ rfl) rfl) (fun _ r => xT) ?_
  rintro r6 h6
  refine WA.take (i := 10) rfl (by kernel_rfl) (fun _ _ _ h => h) rfl (op_xor32 (lt_ rfl) rfl rfl) xT ?_
  refine WA.take (i := 28) rfl (by kernel_rfl) (fun _ _ _ h => h) rfl (op_add32 (lt_ rfl) rfl rfl) xT ?_
  refine WA.take (i := 29) rfl (by kernel_rfl) (fun _ _ _ h => h) rfl (op_assign (lt_ rfl) rfl) xT ?_
  refine WA.done (by kernel_rfl) ?_
  refine WX.regs (L' := [(3, _), (6, _), (7, _), (8, _)]) ?_
  refine WX.next ?_
  refine WC.seq ?_
  refine WC.region ?_
  refine wlv (op_move (lt_ rfl) rfl) rfl ?_
  refine wlv (op_move (lt_ rfl) rfl) rfl ?_
  refine wlv (op_add32 (lt_ rfl) rfl rfl) rfl ?_
  refine wlv (op_fieldAddr fo141_0 (lt_ rfl) rfl) rfl ?_
  refine wlv (op_load1 fl139 (lt_ rfl) rfl xM rfl) rfl ?_
  refine wlv (op_fieldAddr fo141_1 (lt_ rfl) rfl) rfl ?_
  refine wlv (op_load1 fl139 (lt_ rfl) rfl xM rfl) rfl ?_
  refine wlv (op_fieldAddr fo141_2 (lt_ rfl) rfl) rfl ?_
  refine wlv (op_load1 fl139 (lt_ rfl) rfl xM rfl) rfl ?_
  refine wlv (op_fieldAddr fo141_3 (lt_ rfl) rfl) rfl ?_
  refine wlv (op_load1 fl139 (lt_ rfl) rfl xM rfl) rfl ?_
  refine wlv (op_move (lt_ rfl) rfl) rfl ?_
  refine wlv (op_add32 (lt_ rfl) rfl rfl) rfl ?_
  refine wlv (op_fieldAddr fo141_4 (lt_ rfl) rfl) rfl ?_
  refine wlv (op_load1 fl139 (lt_ rfl) rfl xM rfl) rfl ?_
  refine wlv (op_fieldAddr fo141_5 (lt_ rfl) rfl) rfl ?_
  refine wlv (op_load1 fl139 (lt_ rfl) rfl xM rfl) rfl ?_
  refine wlv (op_fieldAddr fo141_6 (lt_ rfl) rfl) rfl ?_
  refine wlv (op_load1 fl139 (lt_ rfl) rfl xM rfl) rfl ?_
  refine wlv (op_build (cs := (s.round k w).cells) (pv := [(0, _), (1, _), (2, _), (3, _), (4, _), (5, _), (6, _), (7, _)]) (lt_ rfl) rfl (by kernel_rfl)) rfl ?_
  refine wl (op_storeAll sz141 rfl rfl xK xL xO xL) rfl ?_
  change WL _ _ _ _ _ _ _
  refine WL.nil ?_
  refine WX.regs (L' := [(6, _)]) ?_
  refine WX.next ?_
  refine WC.ret ?_
  exact Fin.ret1 xI (()) (trivial) Try.results89 (.cellN rfl ag141 xM xL) xT (by simp)
end Go.Proofs.Ytkjlbedebmffgaa.Sx

set_option linter.unusedVariables false
set_option linter.unusedSimpArgs false
namespace Go.Proofs.Ytkjlbedebmffgaa.Sx
open Go.RowKit Go.Proofs.Ytkjlbedebmffgaa.Ty
attribute [local irreducible] blk own rd rx frameC
def Kw : List UInt32 := [1116352408, 1899447441, 3049323471, 3921009573, 961987163, 1508970993, 2453635748, 2870763221, 3624381080, 310598401, 607225278, 1426881987, 1925078388, 2162078206, 2614888103, 3248222580, 3835390401, 4022224774, 264347078, 604807628, 770255983, 1249150122, 1555081692, 1996064986, 2554220882, 2821834349, 2952996808, 3210313671, 3336571891, 3584528711, 113926993, 338241895, 666307205, 773529912, 1294757372, 1396182291, 1695183700, 1986661051, 2177026350, 2456956037, 2730485921, 2820302411, 3259730800, 3345764771, 3516065817, 3600352804, 4094571909, 275423344, 430227734, 506948616, 659060556, 883997877, 958139571, 1322822218, 1537002063, 1747873779, 1955562222, 2024104815, 2227730452, 2361852424, 2428436474, 2756734187, 3204031479, 3329325298]
def S8.init : S8 := ⟨1779033703, 3144134277, 1013904242, 2773480762, 1359893119, 2600822924, 528734635, 1541459225⟩

theorem Kw_length : Kw.length = 64 := by decide
/-- Word j of the bytes. -/
def wd (bs : List UInt8) (j : Nat) : UInt32 :=
  (((bs.getD (4 * j) 0).toUInt32 <<< 24 ||| (bs.getD (4 * j + 1) 0).toUInt32 <<< 16) ||| (bs.getD (4 * j + 2) 0).toUInt32 <<< 8) ||| (bs.getD (4 * j + 3) 0).toUInt32
def wds (bs : List UInt8) (n : Nat) : List UInt32 := (List.range n).map (wd bs)
@[simp] theorem wds_length (bs : List UInt8) (n : Nat) : (wds bs n).length = n := by simp [wds]
theorem wds_succ (bs : List UInt8) (n : Nat) : wds bs (n + 1) = wds bs n ++ [wd bs n] := by simp [wds, List.range_succ]
theorem bvs_at {bs : List UInt8} {j k : Nat} (h : j = k) (hk : k < bs.length) : (bvs bs)[j]? = some (bv (bs.getD k 0)) := by
  subst h
  simp [bvs, hk]
theorem wvs_at {ws : List UInt32} {j k : Nat} (h : j = k) (hk : k < ws.length) : (wvs ws)[j]? = some (wv (ws.getD k 0)) := by
  subst h
  simp [wvs, hk]
theorem wvs_put {ws : List UInt32} {j k : Nat} {x : UInt32} (h : j = k) (hk : k < ws.length) : pset (wvs ws) j (wv x).cells.toList = wvs (ws.set k x) := by
  subst h
  show pset (wvs ws) j [wv x] = _
  rw [pset_one _ _ _ (by simpa using hk)]
  simp [wvs, List.map_set]
theorem wds_put (bs : List UInt8) (i : Nat) (h : i < 16) : (wds bs i ++ List.replicate (16 - i) 0).set i (wd bs i) = wds bs (i + 1) ++ List.replicate (16 - (i + 1)) 0 := by
  obtain ⟨k, hk⟩ : ∃ k, 16 - i = k + 1 := ⟨16 - i - 1, by omega⟩
  have e2 : 16 - (i + 1) = k := by omega
  rw [hk, e2, wds_succ, List.replicate_succ, List.set_append_right (h := by simp)]
  simp
/-- One step of the schedule on sixteen words. -/
def pnew (ws : List UInt32) (t : Nat) : UInt32 :=
  ws.getD (t % 16) 0 + ((((rotr (ws.getD ((t - 2) % 16) 0) 17 ^^^ rotr (ws.getD ((t - 2) % 16) 0) 19) ^^^ (ws.getD ((t - 2) % 16) 0 >>> 10)) + ws.getD ((t - 7) % 16) 0) + ((rotr (ws.getD ((t - 15) % 16) 0) 7 ^^^ rotr (ws.getD ((t - 15) % 16) 0) 18) ^^^ (ws.getD ((t - 15) % 16) 0 >>> 3)))
def pw (ws : List UInt32) (t : Nat) : List UInt32 := if 16 ≤ t then ws.set (t % 16) (pnew ws t) else ws
def pst (s : S8) (ws : List UInt32) : Nat → List UInt32 × S8
  | 0 => (ws, s)
  | t + 1 => (pw (pst s ws t).1 t, (pst s ws t).2.round (Kw.getD t 0) ((pw (pst s ws t).1 t).getD (t % 16) 0))
theorem pw_length (ws : List UInt32) (t : Nat) : (pw ws t).length = ws.length := by unfold pw; split <;> simp
theorem pst_length (s : S8) (ws : List UInt32) (t : Nat) : (pst s ws t).1.length = ws.length := by
  induction t with
  | zero => rfl
  | succ t ih => simp [pst, pw_length, ih]
def process (s : S8) (ws : List UInt32) : S8 := (pst s ws 64).2.plus s
set_option maxHeartbeats 400000 in
set_option maxRecDepth 10000 in
theorem f90_spec (s o : S8) :
    Spec Try.prog 90 [.agg s.cells.toArray, .agg o.cells.toArray] [] [] (R := Unit) (fun _ => True) (fun _ => .agg (s.plus o).cells.toArray) (fun _ => []) := by
  refine Spec.intro Try.func90 Try.ntmps90 rfl (by simp) (by simp) fun w0 => ?_
  refine WC.seq ?_
  refine WC.region ?_
  refine wl1 (op_box (lt_ rfl) rfl rfl) rfl fun b1 => ?_
  refine wl1 (op_box (lt_ rfl) rfl rfl) rfl fun b2 => ?_
  refine wl1 (op_alloc ti141 (lt_ rfl)) rfl fun b3 => ?_
  refine WL.nil ?_
  refine WX.regs (L' := [(2, _), (3, _), (4, _)]) ?_
  refine WX.next ?_
  refine WC.seq ?_
  refine WC.region ?_
  refine wlv (op_fieldAddr fo141_0 (lt_ rfl) rfl) rfl ?_
  refine wlv (op_load1 fl139 (lt_ rfl) rfl xM rfl) rfl ?_
  refine wlv (op_fieldAddr fo141_0 (lt_ rfl) rfl) rfl ?_
  refine wlv (op_load1 fl139 (lt_ rfl) rfl xM rfl) rfl ?_
  refine wlv (op_add32 (lt_ rfl) rfl rfl) rfl ?_
  refine wlv (op_fieldAddr fo141_1 (lt_ rfl) rfl) rfl ?_
  refine wlv (op_load1 fl139 (lt_ rfl) rfl xM rfl) rfl ?_
  refine wlv (op_fieldAddr fo141_1 (lt_ rfl) rfl) rfl ?_
  refine wlv (op_load1 fl139 (lt_ rfl) rfl xM rfl) rfl ?_
  refine wlv (op_add32 (lt_ rfl) rfl rfl) rfl ?_
  refine wlv (op_fieldAddr fo141_2 (lt_ rfl) rfl) rfl ?_
  refine wlv (op_load1 fl139 (lt_ rfl) rfl xM rfl) rfl ?_
  refine wlv (op_fieldAddr fo141_2 (lt_ rfl) rfl) rfl ?_
  refine wlv (op_load1 fl139 (lt_ rfl) rfl xM rfl) rfl ?_
  refine wlv (op_add32 (lt_ rfl) rfl rfl) rfl ?_
  refine wlv (op_fieldAddr fo141_3 (lt_ rfl) rfl) rfl ?_
  refine wlv (op_load1 fl139 (lt_ rfl) rfl xM rfl) rfl ?_
  refine wlv (op_fieldAddr fo141_3 (lt_ rfl) rfl) rfl ?_
  refine wlv (op_load1 fl139 (lt_ rfl) rfl xM rfl) rfl ?_
  refine wlv (op_add32 (lt_ rfl) rfl rfl) rfl ?_
  refine wlv (op_fieldAddr fo141_4 (lt_ rfl) rfl) rfl ?_
  refine wlv (op_load1 fl139 (lt_ rfl) rfl xM rfl) rfl ?_
  refine wlv (op_fieldAddr fo141_4 (lt_ rfl) rfl) rfl ?_
  refine wlv (op_load1 fl139 (lt_ rfl) rfl xM rfl) rfl ?_
  refine wlv (op_add32 (lt_ rfl) rfl rfl) rfl ?_
  refine wlv (op_fieldAddr fo141_5 (lt_ rfl) rfl) rfl ?_
  refine wlv (op_load1 fl139 (lt_ rfl) rfl xM rfl) rfl ?_
  refine wlv (op_fieldAddr fo141_5 (lt_ rfl) rfl) rfl ?_
  refine wlv (op_load1 fl139 (lt_ rfl) rfl xM rfl) rfl ?_
  refine wlv (op_add32 (lt_ rfl) rfl rfl) rfl ?_
  refine wlv (op_fieldAddr fo141_6 (lt_ rfl) rfl) rfl ?_
  refine wlv (op_load1 fl139 (lt_ rfl) rfl xM rfl) rfl ?_
  refine wlv (op_fieldAddr fo141_6 (lt_ rfl) rfl) rfl ?_
  refine wlv (op_load1 fl139 (lt_ rfl) rfl xM rfl) rfl ?_
  refine wlv (op_add32 (lt_ rfl) rfl rfl) rfl ?_
  refine wlv (op_fieldAddr fo141_7 (lt_ rfl) rfl) rfl ?_
  refine wlv (op_load1 fl139 (lt_ rfl) rfl xM rfl) rfl ?_
  refine wlv (op_fieldAddr fo141_7 (lt_ rfl) rfl) rfl ?_
  refine wlv (op_load1 fl139 (lt_ rfl) rfl xM rfl) rfl ?_
  refine wlv (op_add32 (lt_ rfl) rfl rfl) rfl ?_
  refine wlv (op_build (cs := (s.plus o).cells) (pv := [(0, _), (1, _), (2, _), (3, _), (4, _), (5, _), (6, _), (7, _)]) (lt_ rfl) rfl (by kernel_rfl)) rfl ?_
  refine wl (op_storeAll sz141 rfl rfl xK xL xO xL) rfl ?_
  change WL _ _ _ _ _ _ _
  refine WL.nil ?_
  refine WX.regs (L' := [(4, _)]) ?_
  refine WX.next ?_
  refine WC.ret ?_
  exact Fin.ret1 xI (()) (trivial) Try.results90 (.cellN rfl ag141 xM xL) xT (by simp)
set_option maxHeartbeats 400000 in
set_option maxRecDepth 10000 in
theorem f82_spec :
    Spec Try.prog 82 [] [] [] (R := Unit) (fun _ => True) (fun _ => .agg S8.init.cells.toArray) (fun _ => []) := by
  refine Spec.intro Try.func82 Try.ntmps82 rfl (by simp) (by simp) fun w0 => ?_
  refine WC.seq ?_
  refine WC.region ?_
  refine wl1 (op_alloc ti141 (lt_ rfl)) rfl fun b1 => ?_
  refine WL.nil ?_
  refine WX.regs (L' := [(0, _)]) ?_
  refine WX.next ?_
  refine WC.seq ?_
  refine WC.region ?_
  refine wlv (op_build (cs := S8.init.cells) (pv := [(0, _), (1, _), (2, _), (3, _), (4, _), (5, _), (6, _), (7, _)]) (lt_ rfl) rfl (by kernel_rfl)) rfl ?_
  refine wl (op_storeAll sz141 rfl rfl xK xL xO xL) rfl ?_
  change WL _ _ _ _ _ _ _
  refine WL.nil ?_
  refine WX.regs (L' := [(0, _)]) ?_
  refine WX.next ?_
  refine WC.ret ?_
  exact Fin.ret1 xI (()) (trivial) Try.results82 (.cellN rfl ag141 xM xL) xT (by simp)
set_option maxHeartbeats 400000 in
set_option maxRecDepth 10000 in
theorem f87_spec :
    Spec Try.prog 87 [] [] [] (R := Unit) (fun _ => True) (fun _ => .agg (wvs Kw).toArray) (fun _ => []) := by
  refine Spec.intro Try.func87 Try.ntmps87 rfl (by simp) (by simp) fun w0 => ?_
  refine WC.seq ?_
  refine WC.region ?_
  refine wl1 (op_alloc ti151 (lt_ rfl)) rfl fun b1 => ?_
  refine WL.nil ?_
  refine WX.regs (L' := [(0, _)]) ?_
  refine WX.next ?_
  refine WC.seq ?_
  refine WC.region ?_
  refine wlv (op_build (cs := (wvs Kw)) (pv := [(0, _), (1, _), (2, _), (3, _), (4, _), (5, _), (6, _), (7, _), (8, _), (9, _), (10, _), (11, _), (12, _), (13, _), (14, _), (15, _), (16, _), (17, _), (18, _), (19, _), (20, _), (21, _), (22, _), (23, _), (24, _), (25, _), (26, _), (27, _), (28, _), (29, _), (30, _), (31, _), (32, _), (33, _), (34, _), (35, _), (36, _), (37, _), (38, _), (39, _), (40, _), (41, _), (42, _), (43, _), (44, _), (45, _), (46, _), (47, _), (48, _), (49, _), (50, _), (51, _), (52, _), (53, _), (54, _), (55, _), (56, _), (57, _), (58, _), (59, _), (60, _), (61, _), (62, _), (63, _)]) (lt_ rfl) rfl (by kernel_rfl)) rfl ?_
  refine wl (op_storeAll sz151 rfl rfl xK xL xO xL) rfl ?_
  change WL _ _ _ _ _ _ _
  refine WL.nil ?_
  refine WX.regs (L' := [(0, _)]) ?_
  refine WX.next ?_
  refine WC.ret ?_
  exact Fin.ret1 xI (()) (trivial) Try.results87 (.cellN rfl ag151 xM xL) xT (by simp)
set_option maxHeartbeats 400000 in
set_option maxRecDepth 10000 in
theorem f86_spec (A : Option Addr) (m c : Nat) (bs : List UInt8) (hm : 64 ≤ m) (hl : bs.length = m) (hm2 : m < 4611686018427387904) :
    Spec Try.prog 86 [.slice A m c] [] [rd (.slice A m c) 1 m (bvs bs)] (R := Unit) (fun _ => True) (fun _ => .agg (wvs (wds bs 16)).toArray) (fun _ => []) := by
  refine Spec.intro Try.func86 Try.ntmps86 rfl (by simp) (by simp) fun w0 => ?_
  refine WC.seq ?_
  refine WC.region ?_
  refine wl1 (op_alloc ti149 (lt_ rfl)) rfl fun b1 => ?_
  refine WL.nil ?_
  refine WX.regs (L' := [(0, _), (2, _)]) ?_
  refine WX.next ?_
  refine WC.seq ?_
  refine WC.region ?_
  refine wl1 (op_alloc ti149 (lt_ rfl)) rfl fun b2 => ?_
  refine WL.nil ?_
  refine WX.regs (L' := [(0, _), (2, _), (3, _)]) ?_
  refine WX.next ?_
  refine WC.seq ?_
  refine WC.seq ?_
  refine WC.region ?_
  refine wlv (op_move (lt_ rfl) rfl) rfl ?_
  refine WL.nil ?_
  refine WX.regs (L' := [(0, _), (2, _), (3, _), (5, _)]) ?_
  refine WX.next ?_
  refine WC.block ?_
  refine WC.loop (X := Nat) (fun i => 16 - i) (fun i => i ≤ 16) (fun i => [(0, .slice A m c), (2, .pointer (some ⟨b1, 0, none⟩)), (3, .pointer (some ⟨b2, 0, none⟩)), (5, .int .i64 (i : Int))]) (fun i => [blk b2 (wvs (wds bs i ++ List.replicate (16 - i) 0)) 149, blk b1 (List.replicate 16 (.int .u32 0)) 149, rd (.slice A m c) 1 m (bvs bs), frameC w0 (MutF [])]) (0) (by omega) (fun a w hs => hs.sub xY xT) ?_
  rintro i hi
  try dsimp only
  refine WC.seq ?_
  refine WC.region ?_
  refine wlv (op_lss (lt_ rfl) rfl rfl) rfl ?_
  refine WL.nil ?_
  refine WX.regs (L' := [(0, _), (2, _), (3, _), (5, _), (6, _)]) ?_
  refine WX.next ?_
  refine WC.seq ?_
  refine WC.cond rfl (fun h1 => ?_) (fun h1 => ?_)
  ·
    refine WC.skip ?_
    refine WX.next ?_
    refine WC.seq ?_
    refine WC.block ?_
    refine WC.seq ?_
    refine WC.region ?_
    refine wlv (op_move (lt_ rfl) rfl) rfl ?_
    refine wlv (op_assign (lt_ rfl) rfl) rfl ?_
    refine WL.nil ?_
    refine WX.regs (L' := [(0, _), (2, _), (3, _), (4, _), (5, _)]) ?_
    refine WX.next ?_
    refine WC.drawnH mo 35 ?_
    refine WA.take (i := 0) rfl (by kernel_rfl) (fun _ _ _ h => h) rfl (op_move (lt_ rfl) rfl) xT ?_
    refine WA.take (i := 1) rfl (by kernel_rfl) (fun _ _ _ h => h) rfl (op_move (lt_ rfl) rfl) xT ?_
    refine WA.take (i := 2) rfl (by kernel_rfl) (fun _ _ _ h => h) rfl (op_move (lt_ rfl) rfl) xT ?_
    refine WA.take (i := 3) rfl (by kernel_rfl) (fun _ _ _ h => h) rfl (op_mul (lt_ rfl) rfl rfl (by omega)) xT ?_
    refine WA.take (i := 4) rfl (by kernel_rfl) (fun _ _ _ h => h) rfl (op_index Try.underlying23 sz5 (lt_ rfl) rfl rfl (by omega) (by omega) (by decide) xS) xT ?_
    refine WA.take (i := 5) rfl (by kernel_rfl) (fun _ _ _ h => h) rfl (op_loadS fl5 (lt_ rfl) rfl xS (bvs_at (k := 4 * i) (by omega) (by omega))) xT ?_
    refine WA.take (i := 6) rfl (by kernel_rfl) (fun _ _ _ h => h) rfl (op_conv832 (by kernel_rfl) Try.underlying139 (lt_ rfl) rfl) xT ?_
    refine WA.take (i := 7) rfl (by kernel_rfl) (fun _ _ _ h => h) rfl (op_shl32 (lt_ rfl) rfl rfl (by decide)) xT ?_
    refine WA.take (i := 8) rfl (by kernel_rfl) (fun _ _ _ h => h) rfl (op_move (lt_ rfl) rfl) xT ?_
    refine WA.take (i := 9) rfl (by kernel_rfl) (fun _ _ _ h => h) rfl (op_move (lt_ rfl) rfl) xT ?_
    refine WA.take (i := 10) rfl (by kernel_rfl) (fun _ _ _ h => h) rfl (op_mul (lt_ rfl) rfl rfl (by omega)) xT ?_
    refine WA.take (i := 11) rfl (by kernel_rfl) (fun _ _ _ h => h) rfl (op_add (lt_ rfl) rfl rfl (by omega)) xT ?_
    refine WA.take (i := 12) rfl (by kernel_rfl) (fun _ _ _ h => h) rfl (op_index Try.underlying23 sz5 (lt_ rfl) rfl rfl (by omega) (by omega) (by decide) xS) xT ?_
    refine WA.take (i := 13) rfl (by kernel_rfl) (fun _ _ _ h => h) rfl (op_loadS fl5 (lt_ rfl) rfl xS (bvs_at (k := 4 * i + 1) (by omega) (by omega))) xT ?_
    refine WA.take (i := 14) rfl (by kernel_rfl) (fun _ _ _ h => h) rfl (op_conv832 (by kernel_rfl) Try.underlying139 (lt_ rfl) rfl) xT ?_
    refine WA.take (i := 15) rfl (by kernel_rfl) (fun _ _ _ h => h) rfl (op_shl32 (lt_ rfl) rfl rfl (by decide)) xT ?_
    refine WA.take (i := 16) rfl (by kernel_rfl) (fun _ _ _ h => h) rfl (op_or32 (lt_ rfl) rfl rfl) xT ?_
    refine WA.take (i := 17) rfl (by kernel_rfl) (fun _ _ _ h => h) rfl (op_move (lt_ rfl) rfl) xT ?_
    refine WA.take (i := 18) rfl (by kernel_rfl) (fun _ _ _ h => h) rfl (op_move (lt_ rfl) rfl) xT ?_
    refine WA.take (i := 19) rfl (by kernel_rfl) (fun _ _ _ h => h) rfl (op_mul (lt_ rfl) rfl rfl (by omega)) xT ?_
    refine WA.take (i := 20) rfl (by kernel_rfl) (fun _ _ _ h => h) rfl (op_add (lt_ rfl) rfl rfl (by omega)) xT ?_
    refine WA.take (i := 21) rfl (by kernel_rfl) (fun _ _ _ h => h) rfl (op_index Try.underlying23 sz5 (lt_ rfl) rfl rfl (by omega) (by omega) (by decide) xS) xT ?_
    refine WA.take (i := 22) rfl (by kernel_rfl) (fun _ _ _ h => h) rfl (op_loadS fl5 (lt_ rfl) rfl xS (bvs_at (k := 4 * i + 2) (by omega) (by omega))) xT ?_
    refine WA.take (i := 23) rfl (by kernel_rfl) (fun _ _ _ h => h) rfl (op_conv832 (by kernel_rfl) Try.underlying139 (lt_ rfl) rfl) xT ?_
    refine WA.take (i := 24) rfl (by kernel_rfl) (fun _ _ _ h => h) rfl (op_shl32 (lt_ rfl) rfl rfl (by decide)) xT ?_
    refine WA.take (i := 25) rfl (by kernel_rfl) (fun _ _ _ h => h) rfl (op_or32 (lt_ rfl) rfl rfl) xT ?_
    refine WA.take (i := 26) rfl (by kernel_rfl) (fun _ _ _ h => h) rfl (op_move (lt_ rfl) rfl) xT ?_
    refine WA.take (i := 27) rfl (by kernel_rfl) (fun _ _ _ h => h) rfl (op_move (lt_ rfl) rfl) xT ?_
    refine WA.take (i := 28) rfl (by kernel_rfl) (fun _ _ _ h => h) rfl (op_mul (lt_ rfl) rfl rfl (by omega)) xT ?_
    refine WA.take (i := 29) rfl (by kernel_rfl) (fun _ _ _ h => h) rfl (op_add (lt_ rfl) rfl rfl (by omega)) xT ?_
    refine WA.take (i := 30) rfl (by kernel_rfl) (fun _ _ _ h => h) rfl (op_index Try.underlying23 sz5 (lt_ rfl) rfl rfl (by omega) (by omega) (by decide) xS) xT ?_
    refine WA.take (i := 31) rfl (by kernel_rfl) (fun _ _ _ h => h) rfl (op_loadS fl5 (lt_ rfl) rfl xS (bvs_at (k := 4 * i + 3) (by omega) (by omega))) xT ?_
    refine WA.take (i := 32) rfl (by kernel_rfl) (fun _ _ _ h => h) rfl (op_conv832 (by kernel_rfl) Try.underlying139 (lt_ rfl) rfl) xT ?_
    refine WA.take (i := 33) rfl (by kernel_rfl) (fun _ _ _ h => h) rfl (op_or32 (lt_ rfl) rfl rfl) xT ?_
    refine WA.take (i := 34) rfl (by kernel_rfl) (fun _ _ _ h => h) rfl (op_indexArr Try.underlying149 sz139 (lt_ rfl) rfl rfl (by omega) (by omega)) xT ?_
    refine WA.stepo (G := []) (i := 35) (by kernel_rfl) rfl rfl (op_store sz139 rfl rfl xK xL xO (by simp; omega)) (fun h => absurd rfl h) ?_
    refine WA.done (by kernel_rfl) ?_
    refine WX.blkEq (b := b2) (wvs (wds bs (i + 1) ++ List.replicate (16 - (i + 1)) 0)) xK ((wvs_put (k := i) (by omega) (by simp; omega)).trans (congrArg wvs (wds_put bs i (by omega)))) ?_
    refine WX.regs (L' := [(0, _), (2, _), (3, _), (5, _)]) ?_
    refine WX.in_normal ?_
    refine WX.next ?_
    refine WC.region ?_
    refine wlv (op_add (lt_ rfl) rfl rfl (by omega)) rfl ?_
    refine wlv (op_move (lt_ rfl) rfl) rfl ?_
    refine WL.nil ?_
    refine WX.regs (L' := [(0, _), (2, _), (3, _), (5, _)]) ?_
    refine WX.meet (i + 1) ⟨by omega, by omega⟩ (fun a w hs => hs.sub xY xT)
  ·
    refine WC.exit ?_
    refine WX.then_exit ?_
    refine WX.then_exit ?_
    refine WX.in_hit ?_
    refine WX.next ?_
    refine WC.seq ?_
    refine WC.region ?_
    obtain rfl : i = 16 := by omega
    rw [show wds bs 16 ++ List.replicate (16 - 16) 0 = wds bs 16 by simp]
    refine wlv (op_loadAll ag149 (lt_ rfl) rfl xM xL) rfl ?_
    refine wl (op_storeAll sz149 rfl rfl xK xL xO xL) rfl ?_
    change WL _ _ _ _ _ _ _
    refine WL.nil ?_
    refine WX.regs (L' := [(2, _)]) ?_
    refine WX.next ?_
    refine WC.ret ?_
    exact Fin.ret1 xI (()) (trivial) Try.results86 (.cellN rfl ag149 xM xL) xT (by simp)
end Go.Proofs.Ytkjlbedebmffgaa.Sx

set_option linter.unusedVariables false
set_option linter.unusedSimpArgs false
namespace Go.Proofs.Ytkjlbedebmffgaa.Sx
open Go.RowKit Go.Proofs.Ytkjlbedebmffgaa.Ty
attribute [local irreducible] blk own rd rx frameC

theorem wvs_atA {ws : List UInt32} {j k : Nat} (h : j = k) (hk : k < ws.length) : (wvs ws).toArray[j]? = some (wv (ws.getD k 0)) := by
  subst h
  simp [wvs, hk]
set_option maxHeartbeats 400000 in
set_option maxRecDepth 10000 in
theorem f85_spec (s : S8) (ws : List UInt32) (hl : ws.length = 16) :
    Spec Try.prog 85 [.agg s.cells.toArray, .agg (wvs ws).toArray] [] [] (R := Unit) (fun _ => True) (fun _ => .agg (process s ws).cells.toArray) (fun _ => []) := by
  refine Spec.intro Try.func85 Try.ntmps85 rfl (by simp) (by simp) fun w0 => ?_
  refine WC.seq ?_
  refine WC.region ?_
  refine wl1 (op_box (lt_ rfl) rfl rfl) rfl fun b1 => ?_
  refine wl1 (op_box (lt_ rfl) rfl rfl) rfl fun b2 => ?_
  refine wl1 (op_alloc ti141 (lt_ rfl)) rfl fun b3 => ?_
  refine WL.nil ?_
  refine WX.regs (L' := [(2, _), (3, _), (4, _)]) ?_
  refine WX.next ?_
  refine WC.seq ?_
  refine WC.region ?_
  refine wlv (op_loadAll ag141 (lt_ rfl) rfl xM xL) rfl ?_
  refine wl1 (op_alloc ti141 (lt_ rfl)) rfl fun b4 => ?_
  refine wl (op_storeAll sz141 rfl rfl xK xL xO xL) rfl ?_
  change WL _ _ _ _ _ _ _
  refine WL.nil ?_
  refine WX.regs (L' := [(2, _), (3, _), (4, _), (5, _)]) ?_
  refine WX.next ?_
  refine WC.seq ?_
  refine WC.seq ?_
  refine WC.region ?_
  refine wlx (op_call (f87_spec) ca87 (lt_ rfl) rfl) rfl ?_
  rintro r1 h1
  refine wlv (op_move (lt_ rfl) rfl) rfl ?_
  refine WL.nil ?_
  refine WX.regs (L' := [(2, _), (3, _), (4, _), (5, _), (12, _), (13, _)]) ?_
  refine WX.next ?_
  refine WC.block ?_
  refine WC.loop (X := Nat) (fun t => 64 - t) (fun t => t ≤ 64) (fun t => [(2, .pointer (some ⟨b1, 0, none⟩)), (3, .pointer (some ⟨b2, 0, none⟩)), (4, .pointer (some ⟨b3, 0, none⟩)), (5, .pointer (some ⟨b4, 0, none⟩)), (12, .agg (wvs Kw).toArray), (13, .int .i64 (t : Int))]) (fun t => [blk b2 (wvs (pst s ws t).1) 149, blk b4 (pst s ws t).2.cells 141, blk b1 s.cells 141, blk b3 (List.replicate 8 (.int .u32 0)) 141, frameC w0 (MutF [])]) (0) (by omega) (fun a w hs => hs.sub xY xT) ?_
  rintro t ht
  try dsimp only
  have hW : (pst s ws t).1.length = 16 := by rw [pst_length]; exact hl
  have hK := Kw_length
  have e16 : ((t : Int) % 16).toNat = t % 16 := by omega
  refine WC.seq ?_
  refine WC.region ?_
  refine wlv (op_lss (lt_ rfl) rfl rfl) rfl ?_
  refine WL.nil ?_
  refine WX.regs (L' := [(2, _), (3, _), (4, _), (5, _), (12, _), (13, _), (14, _)]) ?_
  refine WX.next ?_
  refine WC.seq ?_
  refine WC.cond rfl (fun h1 => ?_) (fun h1 => ?_)
  ·
    refine WC.skip ?_
    refine WX.next ?_
    refine WC.seq ?_
    refine WC.block ?_
    refine WC.seq ?_
    refine WC.region ?_
    refine wlv (op_move (lt_ rfl) rfl) rfl ?_
    refine wlv (op_indexV Try.underlying151 sz139 fl139 (lt_ rfl) rfl rfl (by omega) (by omega) (wvs_atA (k := t) (by omega) (by omega))) rfl ?_
    refine wlv (op_assign (lt_ rfl) rfl) rfl ?_
    refine wlv (op_assign (lt_ rfl) rfl) rfl ?_
    refine WL.nil ?_
    refine WX.regs (L' := [(2, _), (3, _), (4, _), (5, _), (6, _), (7, _), (12, _), (13, _)]) ?_
    refine WX.next ?_
    refine WC.seq ?_
    refine WC.region ?_
    refine wlv (op_move (lt_ rfl) rfl) rfl ?_
    refine wlv (op_rem (lt_ rfl) rfl rfl (by omega) (by omega)) rfl ?_
    refine wlv (op_assign (lt_ rfl) rfl) rfl ?_
    refine WL.nil ?_
    refine WX.regs (L' := [(2, _), (3, _), (4, _), (5, _), (6, _), (7, _), (8, _), (12, _), (13, _)]) ?_
    refine WX.next ?_
    refine WC.cut (X := List UInt32) (fun q => q = pw (pst s ws t).1 t) (fun q => [(2, .pointer (some ⟨b1, 0, none⟩)), (3, .pointer (some ⟨b2, 0, none⟩)), (4, .pointer (some ⟨b3, 0, none⟩)), (5, .pointer (some ⟨b4, 0, none⟩)), (12, .agg (wvs Kw).toArray), (13, .int .i64 (t : Int)), (7, wv (Kw.getD t 0)), (8, .int .i64 ((t : Int) % 16))]) (fun q => [blk b2 (wvs q) 149, blk b4 (pst s ws t).2.cells 141, blk b1 s.cells 141, blk b3 (List.replicate 8 (.int .u32 0)) 141, frameC w0 (MutF [])]) ?_ ?_
    ·
      refine WC.seq ?_
      refine WC.region ?_
      refine wlv (op_move (lt_ rfl) rfl) rfl ?_
      refine wlv (op_geq (lt_ rfl) rfl rfl) rfl ?_
      refine WL.nil ?_
      refine WX.regs (L' := [(2, _), (3, _), (4, _), (5, _), (6, _), (7, _), (8, _), (12, _), (13, _), (20, _)]) ?_
      refine WX.next ?_
      refine WC.cond rfl (fun h2 => ?_) (fun h2 => ?_)
      ·
        refine WC.seq ?_
        refine WC.drawnH mo 999 ?_
        refine WA.take (i := 0) rfl (by kernel_rfl) (fun _ _ _ h => h) rfl (op_move (lt_ rfl) rfl) xT ?_
        refine WA.take (i := 1) rfl (by kernel_rfl) (fun _ _ _ h => h) rfl (op_sub (lt_ rfl) rfl rfl (by omega)) xT ?_
        refine WA.take (i := 2) rfl (by kernel_rfl) (fun _ _ _ h => h) rfl (op_rem (lt_ rfl) rfl rfl (by omega) (by omega)) xT ?_
        refine WA.take (i := 3) rfl (by kernel_rfl) (fun _ _ _ h => h) rfl (op_indexArr Try.underlying149 sz139 (lt_ rfl) rfl rfl (by omega) (by omega)) xT ?_
        refine WA.take (i := 4) rfl (by kernel_rfl) (fun _ _ _ h => h) rfl (op_load1 fl139 (lt_ rfl) rfl xM (wvs_at (k := (t - 15) % 16) (by omega) (by omega))) xT ?_
        refine WA.take (i := 5) rfl (by kernel_rfl) (fun _ _ _ h => h) rfl (op_move (lt_ rfl) rfl) xT ?_
        refine WA.take (i := 6) rfl (by kernel_rfl) (fun _ _ _ h => h) rfl (op_sub (lt_ rfl) rfl rfl (by omega)) xT ?_
        refine WA.take (i := 7) rfl (by kernel_rfl) (fun _ _ _ h => h) rfl (op_rem (lt_ rfl) rfl rfl (by omega) (by omega)) xT ?_
        refine WA.take (i := 8) rfl (by kernel_rfl) (fun _ _ _ h => h) rfl (op_indexArr Try.underlying149 sz139 (lt_ rfl) rfl rfl (by omega) (by omega)) xT ?_
        refine WA.take (i := 9) rfl (by kernel_rfl) (fun _ _ _ h => h) rfl (op_load1 fl139 (lt_ rfl) rfl xM (wvs_at (k := (t - 2) % 16) (by omega) (by omega))) xT ?_
        refine WA.take (i := 10) rfl (by kernel_rfl) (fun _ _ _ h => h) rfl (op_assign (lt_ rfl) rfl) xT ?_
        refine WA.take (i := 11) rfl (by kernel_rfl) (fun _ _ _ h => h) rfl (op_assign (lt_ rfl) rfl) xT ?_
        refine WA.done (by kernel_rfl) ?_
        refine WX.regs (L' := [(2, _), (3, _), (4, _), (5, _), (6, _), (7, _), (8, _), (9, _), (10, _), (12, _), (13, _)]) ?_
        refine WX.next ?_
        refine WC.drawnH mo 28 ?_
        refine WA.take (i := 0) rfl (by kernel_rfl) (fun _ _ _ h => h) rfl (op_move (lt_ rfl) rfl) xT ?_
        refine WA.take (i := 1) rfl (by kernel_rfl) (fun _ _ _ h => h) rfl (op_indexArr Try.underlying149 sz139 (lt_ rfl) rfl rfl (by omega) (by omega)) xT ?_
        refine WA.take (i := 2) rfl (by kernel_rfl) (fun _ _ _ h => h) rfl (op_load1 fl139 (lt_ rfl) rfl xM (wvs_at (k := t % 16) (by omega) (by omega))) xT ?_
        refine WA.take (i := 3) rfl (by kernel_rfl) (fun _ _ _ h => h) rfl (op_move (lt_ rfl) rfl) xT ?_
        refine WA.take (i := 5) rfl (by kernel_rfl) (fun _ _ _ h => h) rfl (op_move (lt_ rfl) rfl) xT ?_
        refine WA.take (i := 8) rfl (by kernel_rfl) (fun _ _ _ h => h) rfl (op_move (lt_ rfl) rfl) xT ?_
        refine WA.take (i := 9) rfl (by kernel_rfl) (fun _ _ _ h => h) rfl (op_shr32 (lt_ rfl) rfl rfl (by decide)) xT ?_
        refine WA.take (i := 11) rfl (by kernel_rfl) (fun _ _ _ h => h) rfl (op_move (lt_ rfl) rfl) xT ?_
        refine WA.take (i := 12) rfl (by kernel_rfl) (fun _ _ _ h => h) rfl (op_sub (lt_ rfl) rfl rfl (by omega)) xT ?_
        refine WA.take (i := 13) rfl (by kernel_rfl) (fun _ _ _ h => h) rfl (op_rem (lt_ rfl) rfl rfl (by omega) (by omega)) xT ?_
        refine WA.take (i := 14) rfl (by kernel_rfl) (fun _ _ _ h => h) rfl (op_indexArr Try.underlying149 sz139 (lt_ rfl) rfl rfl (by omega) (by omega)) xT ?_
        refine WA.take (i := 15) rfl (by kernel_rfl) (fun _ _ _ h => h) rfl (op_load1 fl139 (lt_ rfl) rfl xM (wvs_at (k := (t - 7) % 16) (by omega) (by omega))) xT ?_
        refine WA.take (i := 17) rfl (by kernel_rfl) (fun _ _ _ h => h) rfl (op_move (lt_ rfl) rfl) xT ?_
        refine WA.take (i := 19) rfl (by kernel_rfl) (fun _ _ _ h => h) rfl (op_move (lt_ rfl) rfl) xT ?_
        refine WA.take (i := 22) rfl (by kernel_rfl) (fun _ _ _ h => h) rfl (op_move (lt_ rfl) rfl) xT ?_
        refine WA.take (i := 23) rfl (by kernel_rfl) (fun _ _ _ h => h) rfl (op_shr32 (lt_ rfl) rfl rfl (by decide)) xT ?_
        refine WA.stepx (i := 4) (by kernel_rfl) rfl rfl (op_call (f88_spec _ _ (by decide)) ca88 (lt_ rfl) rfl) (fun _ r => xT) ?_
        rintro r2 h2
        refine WA.stepx (i := 6) (by kernel_rfl) rfl rfl (op_call (f88_spec _ _ (by decide)) ca88 (lt_ rfl) rfl) (fun _ r => xT) ?_
        rintro r3 h3
        refine WA.take (i := 7) rfl (by kernel_rfl) (fun _ _ _ h => h) rfl (op_xor32 (lt_ rfl) rfl rfl) xT ?_
        refine WA.take (i := 10) rfl (by kernel_rfl) (fun _ _ _ h => h) rfl (op_xor32 (lt_ rfl) rfl rfl) xT ?_
        refine WA.take (i := 16) rfl (by kernel_rfl) (fun _ _ _ h => h) rfl (op_add32 (lt_ rfl) rfl rfl) xT ?_
        refine WA.stepx (i := 18) (by kernel_rfl) rfl rfl (op_call (f88_spec _ _ (by decide)) ca88 (lt_ rfl) rfl) (fun _ r => xT) ?_
        rintro r4 h4
        refine WA.stepx (i := 20) (by kernel_rfl) rfl rfl (op_call (f88_spec _ _ (by decide)) ca88 (lt_ rfl) rfl) (fun _ r => xT) ?_
        rintro r5 h5
        refine WA.take (i := 21) rfl (by kernel_rfl) (fun _ _ _ h => h) rfl (op_xor32 (lt_ rfl) rfl rfl) xT ?_
        refine WA.take (i := 24) rfl (by kernel_rfl) (fun _ _ _ h => h) rfl (op_xor32 (lt_ rfl) rfl rfl) xT ?_
        refine WA.take (i := 25) rfl (by kernel_rfl) (fun _ _ _ h => h) rfl (op_add32 (lt_ rfl) rfl rfl) xT ?_
        refine WA.take (i := 26) rfl (by kernel_rfl) (fun _ _ _ h => h) rfl (op_add32 (lt_ rfl) rfl rfl) xT ?_
        refine WA.take (i := 27) rfl (by kernel_rfl) (fun _ _ _ h => h) rfl (op_indexArr Try.underlying149 sz139 (lt_ rfl) rfl rfl (by omega) (by omega)) xT ?_
        refine WA.stepo (G := []) (i := 28) (by kernel_rfl) rfl rfl (op_store sz139 rfl rfl xK xL xO (by simp; omega)) (fun h => absurd rfl h) ?_
        refine WA.done (by kernel_rfl) ?_
        refine WX.blkEq (b := b2) (wvs (pw (pst s ws t).1 t)) xK ((wvs_put (k := t % 16) (by omega) (by omega)).trans (by unfold pw; rw [if_pos (by omega)]; rfl)) ?_
        refine WX.regs (L' := [(2, _), (3, _), (4, _), (5, _), (7, _), (8, _), (12, _), (13, _)]) ?_
        refine WX.meet (pw (pst s ws t).1 t) (rfl) (fun a w hs => hs.sub xY xT)
      ·
        refine WC.skip ?_
        refine WX.meet ((pst s ws t).1) (by unfold pw; rw [if_neg (by omega)]) (fun a w hs => hs.sub xY xT)
    · intro q hq
      try dsimp only
      have hq2 : q.length = 16 := by rw [hq, pw_length]; exact hW
      refine WC.drawnH mo 6 ?_
      refine WA.take (i := 0) rfl (by kernel_rfl) (fun _ _ _ h => h) rfl (op_loadAll ag141 (lt_ rfl) rfl xM xL) xT ?_
      refine WA.take (i := 1) rfl (by kernel_rfl) (fun _ _ _ h => h) rfl (op_move (lt_ rfl) rfl) xT ?_
      refine WA.take (i := 2) rfl (by kernel_rfl) (fun _ _ _ h => h) rfl (op_move (lt_ rfl) rfl) xT ?_
      refine WA.take (i := 3) rfl (by kernel_rfl) (fun _ _ _ h => h) rfl (op_indexArr Try.underlying149 sz139 (lt_ rfl) rfl rfl (by omega) (by omega)) xT ?_
      refine WA.take (i := 4) rfl (by kernel_rfl) (fun _ _ _ h => h) rfl (op_load1 fl139 (lt_ rfl) rfl xM (wvs_at (k := t % 16) (by omega) (by omega))) xT ?_
      refine WA.stepx (i := 5) (by kernel_rfl) rfl rfl (op_call (f89_spec _ _ _) ca89 (lt_ rfl) rfl) (fun _ r => xT) ?_
      rintro r6 h6
      refine WA.stepo (G := []) (i := 6) (by kernel_rfl) rfl rfl (op_storeAll sz141 rfl rfl xK xL xO xL) (fun h => absurd rfl h) ?_
      refine WA.done (by kernel_rfl) ?_
      refine WX.regs (L' := [(2, _), (3, _), (4, _), (5, _), (12, _), (13, _)]) ?_
      refine WX.in_normal ?_
      refine WX.next ?_
      refine WC.region ?_
      refine wlv (op_add (lt_ rfl) rfl rfl (by omega)) rfl ?_
      refine wlv (op_move (lt_ rfl) rfl) rfl ?_
      refine WL.nil ?_
      subst hq
      refine WX.regs (L' := [(2, _), (3, _), (4, _), (5, _), (12, _), (13, _)]) ?_
      refine WX.meet (t + 1) ⟨by omega, by omega⟩ (fun a w hs => hs.sub xY xT)
  ·
    refine WC.exit ?_
    refine WX.then_exit ?_
    refine WX.then_exit ?_
    refine WX.in_hit ?_
    refine WX.next ?_
    refine WC.seq ?_
    refine WC.region ?_
    obtain rfl : t = 64 := by omega
    refine wlv (op_loadAll ag141 (lt_ rfl) rfl xM xL) rfl ?_
    refine wlv (op_loadAll ag141 (lt_ rfl) rfl xM xL) rfl ?_
    refine wlx (op_call (f90_spec _ _) ca90 (lt_ rfl) rfl) rfl ?_
    rintro r7 h7
    refine wl (op_storeAll sz141 rfl rfl xK xL xO xL) rfl ?_
    change WL _ _ _ _ _ _ _
    refine WL.nil ?_
    refine WX.regs (L' := [(4, _)]) ?_
    refine WX.next ?_
    refine WC.ret ?_
    exact Fin.ret1 xI (()) (trivial) Try.results85 (.cellN rfl ag141 xM xL) xT (by simp)
end Go.Proofs.Ytkjlbedebmffgaa.Sx

set_option linter.unusedVariables false
set_option linter.unusedSimpArgs false
namespace Go.Proofs.Ytkjlbedebmffgaa.Sx
open Go.RowKit Go.Proofs.Ytkjlbedebmffgaa.Ty
attribute [local irreducible] blk own rd rx frameC

/-- A Hash in memory. -/
def hcells (s : S8) (R : Value) (n : Int) : List Value := s.cells ++ [R, .int .i64 n, .bool true]
/-- The state after k blocks of l. -/
def absorb (s : S8) (l : List UInt8) : Nat → S8
  | 0 => s
  | k + 1 => process (absorb s l k) (wds (l.drop (64 * k)) 16)
set_option maxHeartbeats 400000 in
set_option maxRecDepth 10000 in
theorem f79_spec :
    Spec Try.prog 79 [] [] [] (R := Nat) (fun _ => True) (fun r => .pointer (some ⟨r, 0, none⟩)) (fun r => [blk r (hcells S8.init (.slice none 0 0) 0) 144]) := by
  refine Spec.intro Try.func79 Try.ntmps79 rfl (by simp) (by simp) fun w0 => ?_
  refine WC.seq ?_
  refine WC.region ?_
  refine wlv (op_assign (lt_ rfl) rfl) rfl ?_
  refine WL.nil ?_
  refine WX.regs (L' := []) ?_
  refine WX.next ?_
  refine WC.seq ?_
  refine WC.region ?_
  refine wlx (op_call (f82_spec) ca82 (lt_ rfl) rfl) rfl ?_
  rintro r1 h1
  refine wlv (op_build (cs := (hcells S8.init (.slice none 0 0) 0)) (pv := [(0, _), (3, _)]) (lt_ rfl) rfl (by kernel_rfl)) rfl ?_
  refine wl1 (op_box (lt_ rfl) rfl rfl) rfl fun b1 => ?_
  refine wlv (op_assign (lt_ rfl) rfl) rfl ?_
  refine WL.nil ?_
  refine WX.regs (L' := [(0, _)]) ?_
  refine WX.next ?_
  refine WC.ret ?_
  exact Fin.ret1 xI (b1) (trivial) Try.results79 (.tmp rfl) xT (by simp)
set_option maxHeartbeats 400000 in
set_option maxRecDepth 10000 in
theorem f84_spec (hb : Nat) (s : S8) (A : Option Addr) (r c : Nat) (n : Int) (bs : List UInt8) (hr : r < 1000000) :
    Spec Try.prog 84 [.pointer (some ⟨hb, 0, none⟩)] [blk hb (hcells s (.slice A r c) n) 144] [rd (.slice A r c) 1 r (bvs bs)] (R := Nat × Option Addr × Nat) (fun _ => True)
      (fun q => .pointer (some ⟨q.1, 0, none⟩)) (fun q => [blk hb (hcells s (.slice A r c) n) 144, blk q.1 (hcells s (.slice q.2.1 r q.2.2) n) 144, rx (.slice q.2.1 r q.2.2) 1 r (bvs bs)]) := by
  refine Spec.intro Try.func84 Try.ntmps84 rfl (by simp) (by simp) fun w0 => ?_
  refine WC.seq ?_
  refine WC.region ?_
  refine wlv (op_assign (lt_ rfl) rfl) rfl ?_
  refine WL.nil ?_
  refine WX.regs (L' := [(0, _)]) ?_
  refine WX.next ?_
  refine WC.seq ?_
  refine WC.seq ?_
  refine WC.region ?_
  refine wlv (op_move (lt_ rfl) rfl) rfl ?_
  refine wlv (op_eqlnil Try.underlying136 (lt_ rfl) rfl rfl) rfl ?_
  refine WL.nil ?_
  refine WX.regs (L' := [(0, _), (5, _)]) ?_
  refine WX.next ?_
  refine WC.condF rfl ?_
  refine WC.skip ?_
  refine WX.next ?_
  refine WC.seq ?_
  refine WC.region ?_
  refine wlv (op_move (lt_ rfl) rfl) rfl ?_
  refine wlv (op_nilCheck (lt_ rfl) rfl) rfl ?_
  refine wlv (op_loadAll ag144 (lt_ rfl) rfl xM xL) rfl ?_
  refine wl1 (op_alloc ti144 (lt_ rfl)) rfl fun b1 => ?_
  refine wl (op_storeAll sz144 rfl rfl xK xL xO xL) rfl ?_
  change WL _ _ _ _ _ _ _
  refine WL.nil ?_
  refine WX.regs (L' := [(0, _), (3, _)]) ?_
  refine WX.next ?_
  refine WC.seq ?_
  refine WC.region ?_
  refine wl1 (op_lit0 Try.underlying23 ti5 (lt_ rfl)) rfl fun b2 => ?_
  refine wlv (op_move (lt_ rfl) rfl) rfl ?_
  refine wlv (op_nilCheck (lt_ rfl) rfl) rfl ?_
  refine wlv (op_fieldAddr fo144_1 (lt_ rfl) rfl) rfl ?_
  refine wlv (op_load1 fl23 (lt_ rfl) rfl xM rfl) rfl ?_
  refine wl2 (op_append0 Try.underlying23 ti5 rfl (by decide) (lt_ rfl) rfl rfl xK xS xO (by omega) (by omega)) rfl fun A1 c1 => ?_
  refine wlv (op_fieldAddr fo144_1 (lt_ rfl) rfl) rfl ?_
  refine wl (op_store sz23 rfl rfl xK xL xO (by first | exact Nat.le_of_ble_eq_true rfl | (simp; omega))) rfl ?_
  change WL _ _ _ _ _ _ _
  refine WL.nil ?_
  refine WX.regs (L' := [(3, _)]) ?_
  refine WX.next ?_
  refine WC.seq ?_
  refine WC.region ?_
  refine wlv (op_assign (lt_ rfl) rfl) rfl ?_
  refine WL.nil ?_
  refine WX.regs (L' := [(2, _)]) ?_
  refine WX.next ?_
  refine WC.ret ?_
  refine WX.turn (c := own (.slice A1 r c1) 5 1 r (bvs bs)) xK own_le_rx ?_
  exact Fin.ret1 xI ((b1, A1, c1)) (trivial) Try.results84 (.tmp rfl) xT (by simp)

theorem drop_drop64 (l : List UInt8) (k : Nat) (m : Nat) (h : m = l.length - 64 * k) : ((bvs (l.drop (64 * k))).drop (64 * 1)).take ((m - 64) * 1) = bvs (l.drop (64 * (k + 1))) := by
  subst h
  simp only [bvs, Nat.mul_one, ← List.map_drop, List.drop_drop, ← List.map_take]
  rw [List.take_of_length_le (by simp; omega)]
  rfl
set_option maxHeartbeats 400000 in
set_option maxRecDepth 10000 in
theorem f83_spec (hb : Nat) (s : S8) (A B : Option Addr) (r c m cB : Nat) (n : Int) (rs bs : List UInt8) (hr : rs.length = r) (hm : bs.length = m) (hr' : r < 1000000) (hm' : m < 1000000) :
    Spec Try.prog 83 [.pointer (some ⟨hb, 0, none⟩), .slice B m cB] [blk hb (hcells s (.slice A r c) n) 144] [rd (.slice A r c) 1 r (bvs rs), rd (.slice B m cB) 1 m (bvs bs)] (R := Option Addr × Nat) (fun _ => True)
      (fun q => .tuple #[]) (fun q => [blk hb (hcells (absorb s (rs ++ bs) ((r + m) / 64)) (.slice q.1 ((r + m) % 64) q.2) n) 144, rx (.slice q.1 ((r + m) % 64) q.2) 1 ((r + m) % 64) (bvs ((rs ++ bs).drop (64 * ((r + m) / 64))))]) := by
  refine Spec.intro Try.func83 Try.ntmps83 rfl (by simp) (by simp) fun w0 => ?_
  refine WC.seq ?_
  refine WC.seq ?_
  refine WC.region ?_
  refine wlv (op_move (lt_ rfl) rfl) rfl ?_
  refine wlv (op_nilCheck (lt_ rfl) rfl) rfl ?_
  refine wlv (op_fieldAddr fo144_3 (lt_ rfl) rfl) rfl ?_
  refine wlv (op_load1 fl4 (lt_ rfl) rfl xM rfl) rfl ?_
  refine wlv (op_not (lt_ rfl) rfl) rfl ?_
  refine WL.nil ?_
  refine WX.regs (L' := [(0, _), (1, _), (9, _)]) ?_
  refine WX.next ?_
  refine WC.condF rfl ?_
  refine WC.skip ?_
  refine WX.next ?_
  refine WC.seq ?_
  refine WC.region ?_
  refine wl1 (op_lit0 Try.underlying23 ti5 (lt_ rfl)) rfl fun b1 => ?_
  refine wlv (op_move (lt_ rfl) rfl) rfl ?_
  refine wlv (op_nilCheck (lt_ rfl) rfl) rfl ?_
  refine wlv (op_fieldAddr fo144_1 (lt_ rfl) rfl) rfl ?_
  refine wlv (op_load1 fl23 (lt_ rfl) rfl xM rfl) rfl ?_
  refine wl2 (op_append0 Try.underlying23 ti5 rfl (by decide) (lt_ rfl) rfl rfl xK xS xO (by omega) (by omega)) rfl fun A1 c1 => ?_
  refine wlv (op_move (lt_ rfl) rfl) rfl ?_
  refine wl2 (op_append Try.underlying23 ti5 rfl (by decide) (lt_ rfl) rfl rfl xK xS xO (by omega) (by omega)) rfl fun A2 c2 => ?_
  refine wlv (op_assign (lt_ rfl) rfl) rfl ?_
  refine WL.nil ?_
  rw [← bvs_append]
  refine WX.turn (c := own (.slice A2 (r + m) c2) 5 1 (r + m) (bvs (rs ++ bs))) xK own_le_rx ?_
  refine WX.regs (L' := [(0, _), (4, _)]) ?_
  refine WX.next ?_
  refine WC.seq ?_
  refine WC.block ?_
  refine WC.loop (X := Nat × Option Addr × Nat) (fun q => (r + m) - q.1) (fun q => 64 * q.1 ≤ r + m) (fun q => [(0, .pointer (some ⟨hb, 0, none⟩)), (4, .slice q.2.1 (r + m - 64 * q.1) q.2.2)]) (fun q => [blk hb (hcells (absorb s (rs ++ bs) q.1) (.slice A r c) n) 144, rx (.slice q.2.1 (r + m - 64 * q.1) q.2.2) 1 (r + m - 64 * q.1) (bvs ((rs ++ bs).drop (64 * q.1))), frameC w0 (MutF [blk hb (hcells s (.slice A r c) n) 144])]) ((0, A2, c2)) (by simp) (fun a w hs => hs.sub xY xT) ?_
  rintro ⟨k, Ak, ck⟩ hk
  try dsimp only at hk ⊢
  refine WC.seq ?_
  refine WC.seq ?_
  refine WC.region ?_
  refine wlv (op_move (lt_ rfl) rfl) rfl ?_
  refine wlv (op_len Try.underlying23 (lt_ rfl) rfl) rfl ?_
  refine wlv (op_geq (lt_ rfl) rfl rfl) rfl ?_
  refine WL.nil ?_
  refine WX.regs (L' := [(0, _), (4, _), (27, _)]) ?_
  refine WX.next ?_
  refine WC.cond rfl (fun h2 => ?_) (fun h2 => ?_)
  ·
    refine WC.skip ?_
    refine WX.next ?_
    refine WC.block ?_
    refine WC.seq ?_
    refine WC.drawnH mo 10 ?_
    refine WA.take (i := 0) rfl (by kernel_rfl) (fun _ _ _ h => h) rfl (op_move (lt_ rfl) rfl) xT ?_
    refine WA.take (i := 1) rfl (by kernel_rfl) (fun _ _ _ h => h) rfl (op_move (lt_ rfl) rfl) xT ?_
    refine WA.take (i := 2) rfl (by kernel_rfl) (fun _ _ _ h => h) rfl (op_nilCheck (lt_ rfl) rfl) xT ?_
    refine WA.take (i := 3) rfl (by kernel_rfl) (fun _ _ _ h => h) rfl (op_fieldAddr fo144_0 (lt_ rfl) rfl) xT ?_
    refine WA.take (i := 4) rfl (by kernel_rfl) (fun _ _ _ h => h) rfl (op_loadN ag141 (lt_ rfl) rfl xM rfl) xT ?_
    refine WA.take (i := 5) rfl (by kernel_rfl) (fun _ _ _ h => h) rfl (op_move (lt_ rfl) rfl) xT ?_
    refine WA.stepx (i := 6) (by kernel_rfl) rfl rfl (op_call (f86_spec _ _ _ ((rs ++ bs).drop (64 * k)) (by omega) (by simp; omega) (by omega)) ca86 (lt_ rfl) rfl) (fun _ r => xT) ?_
    rintro r1 h1
    refine WA.stepx (i := 7) (by kernel_rfl) rfl rfl (op_call (f85_spec _ _ (wds_length _ _)) ca85 (lt_ rfl) rfl) (fun _ r => xT) ?_
    rintro r2 h2
    refine WA.take (i := 8) rfl (by kernel_rfl) (fun _ _ _ h => h) rfl (op_nilCheck (lt_ rfl) rfl) xT ?_
    refine WA.take (i := 9) rfl (by kernel_rfl) (fun _ _ _ h => h) rfl (op_fieldAddr fo144_0 (lt_ rfl) rfl) xT ?_
    refine WA.stepo (G := []) (i := 10) (by kernel_rfl) rfl rfl (op_store sz141 rfl rfl xK xL xO (by first | exact Nat.le_of_ble_eq_true rfl | (simp; omega))) (fun h => absurd rfl h) ?_
    refine WA.done (by kernel_rfl) ?_
    refine WX.regs (L' := [(0, _), (4, _)]) ?_
    refine WX.next ?_
    refine WC.region ?_
    refine wlv (op_move (lt_ rfl) rfl) rfl ?_
    refine wlv (op_slice_l Try.underlying23 sz5 (lt_ rfl) rfl rfl (by omega) (by omega)) rfl ?_
    refine wlv (op_assign (lt_ rfl) rfl) rfl ?_
    refine WL.nil ?_
    refine WX.turn (c := rx (.slice Ak (r + m - 64 * k) ck) 1 (r + m - 64 * k) (bvs ((rs ++ bs).drop (64 * k)))) xK (rx_sub (l := 64) (h := r + m - 64 * k) (by omega) (by omega)) ?_
    rw [drop_drop64 _ _ _ (by simp; omega)]
    refine WX.regs (L' := [(0, _), (4, _)]) ?_
    refine WX.in_normal ?_
    refine WX.meet ((k + 1, _, _)) ⟨by simp only []; omega, by simp only []; omega⟩ (fun a w hs => hs.sub xY xT)
  ·
    refine WC.exit ?_
    refine WX.then_exit ?_
    refine WX.then_exit ?_
    refine WX.in_hit ?_
    refine WX.next ?_
    refine WC.region ?_
    refine wlv (op_move (lt_ rfl) rfl) rfl ?_
    refine wlv (op_move (lt_ rfl) rfl) rfl ?_
    refine wlv (op_nilCheck (lt_ rfl) rfl) rfl ?_
    refine wlv (op_fieldAddr fo144_1 (lt_ rfl) rfl) rfl ?_
    refine wl (op_store sz23 rfl rfl xK xL xO (by first | exact Nat.le_of_ble_eq_true rfl | (simp; omega))) rfl ?_
    change WL _ _ _ _ _ _ _
    refine WL.nil ?_
    refine WX.regs (L' := []) ?_
    obtain rfl : k = (r + m) / 64 := by omega
    rw [show r + m - 64 * ((r + m) / 64) = (r + m) % 64 by omega]
    exact Fin.ret0 xI ((Ak, ck)) (trivial) Try.results83 rfl  xT (by simp)
end Go.Proofs.Ytkjlbedebmffgaa.Sx

set_option linter.unusedVariables false
set_option linter.unusedSimpArgs false
namespace Go.Proofs.Ytkjlbedebmffgaa.Sx
open Go.RowKit Go.Proofs.Ytkjlbedebmffgaa.Ty
attribute [local irreducible] blk own rd rx frameC

def zpad (N : Nat) : Nat := (119 - N % 64) % 64
def be8 (N : Nat) : List UInt8 := (List.range 8).map fun j => UInt8.ofNat (N * 8 / 2 ^ (8 * (7 - j)))
theorem be8_length (N : Nat) : (be8 N).length = 8 := by simp [be8]
abbrev plen (N : Nat) : Nat := zpad N + 1 + 8
def pad (N : Nat) : List UInt8 := 128 :: (List.replicate (zpad N) 0 ++ be8 N)
theorem pad_length (N : Nat) : (pad N).length = plen N := by simp [pad, be8_length]
theorem be8_step (N j : Nat) (h : j < 8) : bvs (128 :: (List.replicate (zpad N) 0 ++ (be8 N).take j)) ++ [bv (UInt8.ofNat (N * 8 / 2 ^ (8 * (7 - j))))] = bvs (128 :: (List.replicate (zpad N) 0 ++ (be8 N).take (j + 1))) := by
  have hl : j < (be8 N).length := by rw [be8_length]; exact h
  rw [List.take_succ_eq_append_getElem hl]
  simp [bvs, be8]
theorem sh8 (N j : Nat) (h : j ≤ 7) : ((N : Int) * 8 / ((2 ^ (8 * (7 - (j : Int))).toNat : Nat) : Int)).toNat = N * 8 / 2 ^ (8 * (7 - j)) := by
  have e1 : (8 * (7 - (j : Int))).toNat = 8 * (7 - j) := by omega
  rw [e1, show ((N : Int) * 8) = ((N * 8 : Nat) : Int) by omega, ← Int.natCast_ediv, Int.toNat_natCast]
theorem zeros_step (j : Nat) : bvs (128 :: List.replicate j 0) ++ [bv 0] = bvs (128 :: List.replicate (j + 1) 0) := by
  simp only [bvs, List.map_cons, List.map_replicate, List.cons_append]
  rw [List.replicate_succ']
def S8.list (s : S8) : List UInt32 := [s.a, s.b, s.c, s.d, s.e, s.f, s.g, s.h]
def wb (w : UInt32) : List UInt8 := [(w >>> 24).toUInt8, (w >>> 16).toUInt8, (w >>> 8).toUInt8, w.toUInt8]
def dig (s : S8) : List UInt8 := s.list.flatMap wb
theorem dig_length (s : S8) : (dig s).length = 32 := by simp [dig, S8.list, wb]
theorem flat_take (ws : List UInt32) (i : Nat) (h : i < ws.length) : (ws.take (i + 1)).flatMap wb = (ws.take i).flatMap wb ++ wb (ws.getD i 0) := by
  rw [List.take_succ_eq_append_getElem h, List.flatMap_append]
  simp [h]
theorem flat_length (ws : List UInt32) : (ws.flatMap wb).length = 4 * ws.length := by
  induction ws with
  | nil => rfl
  | cons w ws ih => simp [wb] at ih ⊢; omega
theorem bvs_put {bs : List UInt8} {j k : Nat} {x : UInt8} (h : j = k) (hk : k < bs.length) : pset (bvs bs) j (bv x).cells.toList = bvs (bs.set k x) := by
  subst h
  show pset (bvs bs) j [bv x] = _
  rw [pset_one _ _ _ (by simpa using hk)]
  simp [bvs, List.map_set]
theorem put4 (pre : List UInt8) (k : Nat) (w : UInt32) (i : Nat) (hp : pre.length = 4 * i) (hk : 0 < k) :
    ((((pre ++ List.replicate (4 * k) 0).set (4 * i) (w >>> 24).toUInt8).set (4 * i + 1) (w >>> 16).toUInt8).set (4 * i + 2) (w >>> 8).toUInt8).set (4 * i + 3) w.toUInt8 = (pre ++ wb w) ++ List.replicate (4 * (k - 1)) 0 := by
  obtain ⟨q, rfl⟩ : ∃ q, k = q + 1 := ⟨k - 1, by omega⟩
  have e : 4 * (q + 1) = 4 * q + 1 + 1 + 1 + 1 := by omega
  rw [e, ← hp]
  simp [List.replicate_succ, wb, List.set_append]
theorem regs_len (S : S8) (i : Nat) (h : i ≤ 8) : ((S.list.take i).flatMap wb ++ List.replicate (4 * (8 - i)) (0 : UInt8)).length = 32 := by
  rw [List.length_append, flat_length, List.length_take, List.length_replicate]
  simp [S8.list]
  omega
theorem regs_step (S : S8) (i : Nat) (h : i < 8) :
    ((((S.list.take i).flatMap wb ++ List.replicate (4 * (8 - i)) (0 : UInt8)).set (4 * i) ((S.list.getD i 0) >>> 24).toUInt8).set (4 * i + 1) ((S.list.getD i 0) >>> 16).toUInt8 |>.set (4 * i + 2) ((S.list.getD i 0) >>> 8).toUInt8).set (4 * i + 3) (S.list.getD i 0).toUInt8 =
      (S.list.take (i + 1)).flatMap wb ++ List.replicate (4 * (8 - (i + 1))) 0 := by
  rw [flat_take _ _ (by simp [S8.list]; omega)]
  rw [put4 _ (8 - i) _ i (by rw [flat_length, List.length_take]; simp [S8.list]; omega) (by omega)]
  rw [Nat.sub_sub]
set_option maxHeartbeats 400000 in
set_option maxRecDepth 10000 in
theorem f80_spec (hb : Nat) (s : S8) (A B : Option Addr) (r c m cB : Nat) (n : Nat) (rs bs : List UInt8) (hr : rs.length = r) (hm : bs.length = m) (hr' : r < 1000000) (hm' : m < 1000000) (hn : n < 1000000) :
    Spec Try.prog 80 [.pointer (some ⟨hb, 0, none⟩), .slice B m cB] [blk hb (hcells s (.slice A r c) n) 144] [rd (.slice A r c) 1 r (bvs rs), rd (.slice B m cB) 1 m (bvs bs)] (R := Option Addr × Nat) (fun _ => True)
      (fun q => .int .i64 0) (fun q => [blk hb (hcells (absorb s (rs ++ bs) ((r + m) / 64)) (.slice q.1 ((r + m) % 64) q.2) ((n + m : Nat) : Int)) 144, rx (.slice q.1 ((r + m) % 64) q.2) 1 ((r + m) % 64) (bvs ((rs ++ bs).drop (64 * ((r + m) / 64))))]) := by
  refine Spec.intro Try.func80 Try.ntmps80 rfl (by simp) (by simp) fun w0 => ?_
  refine WC.seq ?_
  refine WC.region ?_
  refine wlv (op_assign (lt_ rfl) rfl) rfl ?_
  refine WL.nil ?_
  refine WX.regs (L' := [(0, _), (1, _)]) ?_
  refine WX.next ?_
  refine WC.seq ?_
  refine WC.seq ?_
  refine WC.region ?_
  refine wlv (op_move (lt_ rfl) rfl) rfl ?_
  refine wlv (op_eqlnil Try.underlying136 (lt_ rfl) rfl rfl) rfl ?_
  refine WL.nil ?_
  refine WX.regs (L' := [(0, _), (1, _), (6, _)]) ?_
  refine WX.next ?_
  refine WC.condF rfl ?_
  refine WC.skip ?_
  refine WX.next ?_
  refine WC.seq ?_
  refine WC.region ?_
  refine wlv (op_move (lt_ rfl) rfl) rfl ?_
  refine wlv (op_move (lt_ rfl) rfl) rfl ?_
  refine wlx (op_call (f83_spec hb s A B r c m cB n rs bs hr hm hr' hm') ca83 (lt_ rfl) rfl) rfl ?_
  rintro ⟨A1, c1⟩ _
  refine WL.nil ?_
  refine WX.regs (L' := [(0, _), (1, _)]) ?_
  refine WX.next ?_
  refine WC.seq ?_
  refine WC.region ?_
  refine wlv (op_move (lt_ rfl) rfl) rfl ?_
  refine wlv (op_nilCheck (lt_ rfl) rfl) rfl ?_
  refine wlv (op_fieldAddr fo144_2 (lt_ rfl) rfl) rfl ?_
  refine wlv (op_load1 fl3 (lt_ rfl) rfl xM rfl) rfl ?_
  refine wlv (op_move (lt_ rfl) rfl) rfl ?_
  refine wlv (op_len Try.underlying23 (lt_ rfl) rfl) rfl ?_
  refine wlv (op_add (lt_ rfl) rfl rfl (by omega)) rfl ?_
  refine wlv (op_nilCheck (lt_ rfl) rfl) rfl ?_
  refine wlv (op_fieldAddr fo144_2 (lt_ rfl) rfl) rfl ?_
  refine wl (op_store sz3 rfl rfl xK xL xO (by first | exact Nat.le_of_ble_eq_true rfl | (simp; omega))) rfl ?_
  change WL _ _ _ _ _ _ _
  refine WL.nil ?_
  refine WX.regs (L' := []) ?_
  refine WX.next ?_
  refine WC.seq ?_
  refine WC.region ?_
  refine wlv (op_assign (lt_ rfl) rfl) rfl ?_
  refine WL.nil ?_
  refine WX.regs (L' := [(4, _)]) ?_
  refine WX.next ?_
  refine WC.ret ?_
  exact Fin.ret1 xI ((A1, c1)) (trivial) Try.results80 (.tmp rfl) xT (by simp)
set_option maxHeartbeats 400000 in
set_option maxRecDepth 10000 in
theorem f81_spec (hb : Nat) (s : S8) (A : Option Addr) (r c : Nat) (N : Nat) (rs : List UInt8) (hr : rs.length = r) (hr' : r < 100000) (hN : N < 1000000) :
    Spec Try.prog 81 [.pointer (some ⟨hb, 0, none⟩)] [blk hb (hcells s (.slice A r c) (N : Int)) 144] [rd (.slice A r c) 1 r (bvs rs)] (R := Unit) (fun _ => True)
      (fun _ => .agg (bvs (dig (absorb s (rs ++ pad N) ((r + plen N) / 64)))).toArray) (fun _ => [blk hb (hcells s (.slice A r c) (N : Int)) 144]) := by
  have hz : zpad N < 64 := by unfold zpad; omega
  generalize hS : absorb s (rs ++ pad N) ((r + plen N) / 64) = S
  refine Spec.intro Try.func81 Try.ntmps81 rfl (by simp) (by simp) fun w0 => ?_
  refine WC.seq ?_
  refine WC.region ?_
  refine wl1 (op_alloc ti134 (lt_ rfl)) rfl fun b1 => ?_
  refine WL.nil ?_
  refine WX.regs (L' := [(0, _), (2, _)]) ?_
  refine WX.next ?_
  refine WC.seq ?_
  refine WC.seq ?_
  refine WC.region ?_
  refine wlv (op_move (lt_ rfl) rfl) rfl ?_
  refine wlv (op_eqlnil Try.underlying136 (lt_ rfl) rfl rfl) rfl ?_
  refine WL.nil ?_
  refine WX.regs (L' := [(0, _), (2, _), (11, _)]) ?_
  refine WX.next ?_
  refine WC.condF rfl ?_
  refine WC.skip ?_
  refine WX.next ?_
  refine WC.seq ?_
  refine WC.region ?_
  refine wlv (op_move (lt_ rfl) rfl) rfl ?_
  refine wlx (op_call (f84_spec hb s A r c N rs (by omega)) ca84 (lt_ rfl) rfl) rfl ?_
  rintro ⟨nb, Ar, cr⟩ _
  refine wlv (op_assign (lt_ rfl) rfl) rfl ?_
  refine WL.nil ?_
  refine WX.regs (L' := [(2, _), (3, _)]) ?_
  refine WX.next ?_
  refine WC.seq ?_
  refine WC.region ?_
  refine wl1 (op_lit1 Try.underlying23 ti5 rfl (by decide) (lt_ rfl) rfl rfl) rfl fun b2 => ?_
  refine wlv (op_assign (lt_ rfl) rfl) rfl ?_
  refine WL.nil ?_
  refine WX.regs (L' := [(2, _), (3, _), (4, _)]) ?_
  refine WX.next ?_
  refine WC.seq ?_
  refine WC.block ?_
  refine WC.loop (X := Nat × Option Addr × Nat) (fun q => zpad N - q.1) (fun q => q.1 ≤ zpad N) (fun q => [(2, .pointer (some ⟨b1, 0, none⟩)), (3, .pointer (some ⟨nb, 0, none⟩)), (4, .slice q.2.1 (q.1 + 1) q.2.2)]) (fun q => [own (.slice q.2.1 (q.1 + 1) q.2.2) 5 1 (q.1 + 1) (bvs (128 :: List.replicate q.1 0)), blk nb (hcells s (.slice Ar r cr) (N : Int)) 144, rx (.slice Ar r cr) 1 r (bvs rs), blk hb (hcells s (.slice A r c) (N : Int)) 144, blk b1 (List.replicate 32 (.int .u8 0)) 134, frameC w0 (MutF [blk hb (hcells s (.slice A r c) (N : Int)) 144])]) ((0, some ⟨b2, 0, none⟩, 1)) (Nat.zero_le _) (fun a w hs => hs.sub xY xT) ?_
  rintro ⟨j, Aj, cj⟩ hj
  try dsimp only at hj ⊢
  refine WC.seq ?_
  refine WC.seq ?_
  refine WC.region ?_
  refine wlv (op_move (lt_ rfl) rfl) rfl ?_
  refine wlv (op_nilCheck (lt_ rfl) rfl) rfl ?_
  refine wlv (op_fieldAddr fo144_2 (lt_ rfl) rfl) rfl ?_
  refine wlv (op_load1 fl3 (lt_ rfl) rfl xM rfl) rfl ?_
  refine wlv (op_move (lt_ rfl) rfl) rfl ?_
  refine wlv (op_len Try.underlying23 (lt_ rfl) rfl) rfl ?_
  refine wlv (op_add (lt_ rfl) rfl rfl (by omega)) rfl ?_
  refine wlv (op_rem (lt_ rfl) rfl rfl (by omega) (by omega)) rfl ?_
  refine wlv (op_neq (lt_ rfl) rfl rfl) rfl ?_
  refine WL.nil ?_
  refine WX.regs (L' := [(2, _), (3, _), (4, _), (24, _)]) ?_
  refine WX.next ?_
  refine WC.cond rfl (fun h2 => ?_) (fun h2 => ?_)
  ·
    refine WC.skip ?_
    refine WX.next ?_
    refine WC.block ?_
    refine WC.region ?_
    refine wlv (op_move (lt_ rfl) rfl) rfl ?_
    refine wl1 (op_lit1 Try.underlying23 ti5 rfl (by decide) (lt_ rfl) rfl rfl) rfl fun b3 => ?_
    refine wl2 (op_append Try.underlying23 ti5 rfl (by decide) (lt_ rfl) rfl rfl xK xS xO (by omega) (by omega)) rfl fun A1 c1 => ?_
    refine wlv (op_assign (lt_ rfl) rfl) rfl ?_
    refine WL.nil ?_
    refine WX.ownEq (v := .slice A1 (j + 1 + 1) c1) _ xK (zeros_step j) ?_
    refine WX.regs (L' := [(2, _), (3, _), (4, _)]) ?_
    refine WX.in_normal ?_
    refine WX.meet ((j + 1, _, _)) ⟨by simp only []; unfold zpad at hj ⊢; omega, by simp only []; unfold zpad at hj ⊢; omega⟩ (fun a w hs => hs.sub xY xT)
  ·
    refine WC.exit ?_
    refine WX.then_exit ?_
    refine WX.then_exit ?_
    refine WX.in_hit ?_
    refine WX.next ?_
    refine WC.seq ?_
    refine WC.seq ?_
    refine WC.region ?_
    refine wlv (op_assign (lt_ rfl) rfl) rfl ?_
    refine WL.nil ?_
    refine WX.regs (L' := [(2, _), (3, _), (4, _), (5, _)]) ?_
    refine WX.next ?_
    refine WC.block ?_
    obtain rfl : j = zpad N := by unfold zpad at hj ⊢; omega
    rw [show bvs (128 :: List.replicate (zpad N) 0) = bvs (128 :: (List.replicate (zpad N) 0 ++ (be8 N).take 0)) by simp]
    refine WC.loop (X := Nat × Option Addr × Nat) (fun q => 8 - q.1) (fun q => q.1 ≤ 8) (fun q => [(2, .pointer (some ⟨b1, 0, none⟩)), (3, .pointer (some ⟨nb, 0, none⟩)), (4, .slice q.2.1 (zpad N + 1 + q.1) q.2.2), (5, .int .i64 (7 - (q.1 : Int)))]) (fun q => [own (.slice q.2.1 (zpad N + 1 + q.1) q.2.2) 5 1 (zpad N + 1 + q.1) (bvs (128 :: (List.replicate (zpad N) 0 ++ (be8 N).take q.1))), blk nb (hcells s (.slice Ar r cr) (N : Int)) 144, rx (.slice Ar r cr) 1 r (bvs rs), blk hb (hcells s (.slice A r c) (N : Int)) 144, blk b1 (List.replicate 32 (.int .u8 0)) 134, frameC w0 (MutF [blk hb (hcells s (.slice A r c) (N : Int)) 144])]) ((0, Aj, cj)) (Nat.zero_le _) (fun a w hs => hs.sub xY xT) ?_
    rintro ⟨j2, Ak, ck⟩ hk
    try dsimp only at hk ⊢
    refine WC.seq ?_
    refine WC.seq ?_
    refine WC.region ?_
    refine wlv (op_move (lt_ rfl) rfl) rfl ?_
    refine wlv (op_geq (lt_ rfl) rfl rfl) rfl ?_
    refine WL.nil ?_
    refine WX.regs (L' := [(2, _), (3, _), (4, _), (5, _), (29, _)]) ?_
    refine WX.next ?_
    refine WC.cond rfl (fun h3 => ?_) (fun h3 => ?_)
    ·
      refine WC.skip ?_
      refine WX.next ?_
      refine WC.seq ?_
      refine WC.block ?_
      refine WC.region ?_
      refine wlv (op_move (lt_ rfl) rfl) rfl ?_
      refine wlv (op_move (lt_ rfl) rfl) rfl ?_
      refine wlv (op_nilCheck (lt_ rfl) rfl) rfl ?_
      refine wlv (op_fieldAddr fo144_2 (lt_ rfl) rfl) rfl ?_
      refine wlv (op_load1 fl3 (lt_ rfl) rfl xM rfl) rfl ?_
      refine wlv (op_convi64u64 (by kernel_rfl) Try.underlying127 (lt_ rfl) rfl (by omega)) rfl ?_
      refine wlv (op_mul64 (lt_ rfl) rfl rfl (by omega)) rfl ?_
      refine wlv (op_move (lt_ rfl) rfl) rfl ?_
      refine wlv (op_mul (lt_ rfl) rfl rfl (by omega)) rfl ?_
      refine wlv (op_shr64 (lt_ rfl) rfl rfl (by omega)) rfl ?_
      refine wlv (op_conv648 (by kernel_rfl) Try.underlying5 (lt_ rfl) rfl (Int.ediv_nonneg (by omega) (Int.natCast_nonneg _))) rfl ?_
      refine wl1 (op_lit1 Try.underlying23 ti5 rfl (by decide) (lt_ rfl) rfl rfl) rfl fun b4 => ?_
      refine wl2 (op_append Try.underlying23 ti5 rfl (by decide) (lt_ rfl) rfl rfl xK xS xO (by omega) (by omega)) rfl fun A2 c2 => ?_
      refine wlv (op_assign (lt_ rfl) rfl) rfl ?_
      refine WL.nil ?_
      rw [sh8 N j2 (by omega)]
      refine WX.ownEq (v := .slice A2 (zpad N + 1 + j2 + 1) c2) _ xK (be8_step N j2 (by omega)) ?_
      refine WX.regs (L' := [(2, _), (3, _), (4, _), (5, _)]) ?_
      refine WX.in_normal ?_
      refine WX.next ?_
      refine WC.region ?_
      refine wlv (op_move (lt_ rfl) rfl) rfl ?_
      refine wlv (op_sub (lt_ rfl) rfl rfl (by omega)) rfl ?_
      refine wlv (op_assign (lt_ rfl) rfl) rfl ?_
      refine WL.nil ?_
      refine WX.regs (L' := [(2, _), (3, _), (4, _), (5, _)]) ?_
      refine WX.meet ((j2 + 1, _, _)) ⟨by simp only []; omega, by simp only []; omega⟩ (fun a w hs => hs.sub xY xT)
    ·
      refine WC.exit ?_
      refine WX.then_exit ?_
      refine WX.then_exit ?_
      refine WX.in_hit ?_
      refine WX.next ?_
      refine WC.seq ?_
      refine WC.region ?_
      obtain rfl : j2 = 8 := by omega
      rw [show bvs (128 :: (List.replicate (zpad N) 0 ++ List.take 8 (be8 N))) = bvs (pad N) by rw [List.take_of_length_le (by rw [be8_length]; omega)]; rfl]
      refine wlv (op_move (lt_ rfl) rfl) rfl ?_
      refine wlv (op_move (lt_ rfl) rfl) rfl ?_
      refine wlx (op_call (f83_spec nb s Ar Ak r cr (plen N) ck N rs (pad N) hr (pad_length N) (by omega) (by show zpad N + 1 + 8 < 1000000; omega)) ca83 (lt_ rfl) rfl) rfl ?_
      rintro ⟨At, ct⟩ _
      rw [hS]
      refine WL.nil ?_
      refine WX.regs (L' := [(2, _), (3, _)]) ?_
      refine WX.next ?_
      refine WC.seq ?_
      refine WC.region ?_
      refine wl1 (op_alloc ti134 (lt_ rfl)) rfl fun b5 => ?_
      refine WL.nil ?_
      refine WX.regs (L' := [(2, _), (3, _), (6, _)]) ?_
      refine WX.next ?_
      refine WC.seq ?_
      refine WC.region ?_
      refine wlv (op_move (lt_ rfl) rfl) rfl ?_
      refine wlv (op_nilCheck (lt_ rfl) rfl) rfl ?_
      refine wlv (op_fieldAddr fo144_0 (lt_ rfl) rfl) rfl ?_
      refine wlv (op_loadN ag141 (lt_ rfl) rfl xM rfl) rfl ?_
      refine wl1 (op_alloc ti141 (lt_ rfl)) rfl fun b6 => ?_
      refine wl (op_storeAll sz141 rfl rfl xK xL xO xL) rfl ?_
      change WL _ _ _ _ _ _ _
      refine WL.nil ?_
      refine WX.regs (L' := [(2, _), (6, _), (7, _)]) ?_
      refine WX.next ?_
      refine WC.seq ?_
      refine WC.seq ?_
      refine WC.region ?_
      refine wlv (op_fieldAddr fo141_0 (lt_ rfl) rfl) rfl ?_
      refine wlv (op_load1 fl139 (lt_ rfl) rfl xM rfl) rfl ?_
      refine wlv (op_fieldAddr fo141_1 (lt_ rfl) rfl) rfl ?_
      refine wlv (op_load1 fl139 (lt_ rfl) rfl xM rfl) rfl ?_
      refine wlv (op_fieldAddr fo141_2 (lt_ rfl) rfl) rfl ?_
      refine wlv (op_load1 fl139 (lt_ rfl) rfl xM rfl) rfl ?_
      refine wlv (op_fieldAddr fo141_3 (lt_ rfl) rfl) rfl ?_
      refine wlv (op_load1 fl139 (lt_ rfl) rfl xM rfl) rfl ?_
      refine wlv (op_fieldAddr fo141_4 (lt_ rfl) rfl) rfl ?_
      refine wlv (op_load1 fl139 (lt_ rfl) rfl xM rfl) rfl ?_
      refine wlv (op_fieldAddr fo141_5 (lt_ rfl) rfl) rfl ?_
      refine wlv (op_load1 fl139 (lt_ rfl) rfl xM rfl) rfl ?_
      refine wlv (op_fieldAddr fo141_6 (lt_ rfl) rfl) rfl ?_
      refine wlv (op_load1 fl139 (lt_ rfl) rfl xM rfl) rfl ?_
      refine wlv (op_fieldAddr fo141_7 (lt_ rfl) rfl) rfl ?_
      refine wlv (op_load1 fl139 (lt_ rfl) rfl xM rfl) rfl ?_
      refine wlv (op_build (cs := (wvs S.list)) (pv := [(0, _), (1, _), (2, _), (3, _), (4, _), (5, _), (6, _), (7, _)]) (lt_ rfl) rfl (by kernel_rfl)) rfl ?_
      refine wlv (op_move (lt_ rfl) rfl) rfl ?_
      refine WL.nil ?_
      refine WX.regs (L' := [(2, _), (6, _), (68, _), (69, _)]) ?_
      refine WX.next ?_
      refine WC.block ?_
      refine WC.loop (X := Nat) (fun i => 8 - i) (fun i => i ≤ 8) (fun i => [(2, .pointer (some ⟨b1, 0, none⟩)), (6, .pointer (some ⟨b5, 0, none⟩)), (68, .agg (wvs S.list).toArray), (69, .int .i64 (i : Int))]) (fun i => [blk b5 (bvs ((S.list.take i).flatMap wb ++ List.replicate (4 * (8 - i)) 0)) 134, blk hb (hcells s (.slice A r c) (N : Int)) 144, blk b1 (List.replicate 32 (.int .u8 0)) 134, frameC w0 (MutF [blk hb (hcells s (.slice A r c) (N : Int)) 144])]) (0) (Nat.zero_le _) (fun a w hs => hs.sub xY xT) ?_
      rintro i hi
      try dsimp only
      have hX := regs_len S i hi
      refine WC.seq ?_
      refine WC.region ?_
      refine wlv (op_lss (lt_ rfl) rfl rfl) rfl ?_
      refine WL.nil ?_
      refine WX.regs (L' := [(2, _), (6, _), (68, _), (69, _), (70, _)]) ?_
      refine WX.next ?_
      refine WC.seq ?_
      refine WC.cond rfl (fun h4 => ?_) (fun h4 => ?_)
      ·
        refine WC.skip ?_
        refine WX.next ?_
        refine WC.seq ?_
        refine WC.block ?_
        refine WC.seq ?_
        refine WC.region ?_
        refine wlv (op_move (lt_ rfl) rfl) rfl ?_
        refine wlv (op_indexV Try.underlying146 sz139 fl139 (lt_ rfl) rfl rfl (by omega) (by omega) (wvs_atA (k := i) (by omega) (by simp [S8.list]; omega))) rfl ?_
        refine wlv (op_assign (lt_ rfl) rfl) rfl ?_
        refine wlv (op_assign (lt_ rfl) rfl) rfl ?_
        refine WL.nil ?_
        refine WX.regs (L' := [(2, _), (6, _), (8, _), (9, _), (68, _), (69, _)]) ?_
        refine WX.next ?_
        refine WC.region ?_
        refine wlv (op_move (lt_ rfl) rfl) rfl ?_
        refine wlv (op_mul (lt_ rfl) rfl rfl (by omega)) rfl ?_
        refine wlv (op_move (lt_ rfl) rfl) rfl ?_
        refine wlv (op_mul (lt_ rfl) rfl rfl (by omega)) rfl ?_
        refine wlv (op_add (lt_ rfl) rfl rfl (by omega)) rfl ?_
        refine wlv (op_move (lt_ rfl) rfl) rfl ?_
        refine wlv (op_mul (lt_ rfl) rfl rfl (by omega)) rfl ?_
        refine wlv (op_add (lt_ rfl) rfl rfl (by omega)) rfl ?_
        refine wlv (op_move (lt_ rfl) rfl) rfl ?_
        refine wlv (op_mul (lt_ rfl) rfl rfl (by omega)) rfl ?_
        refine wlv (op_add (lt_ rfl) rfl rfl (by omega)) rfl ?_
        refine wlv (op_move (lt_ rfl) rfl) rfl ?_
        refine wlv (op_shr32 (lt_ rfl) rfl rfl (by decide)) rfl ?_
        refine wlv (op_conv328 (by kernel_rfl) Try.underlying5 (lt_ rfl) rfl) rfl ?_
        refine wlv (op_move (lt_ rfl) rfl) rfl ?_
        refine wlv (op_shr32 (lt_ rfl) rfl rfl (by decide)) rfl ?_
        refine wlv (op_conv328 (by kernel_rfl) Try.underlying5 (lt_ rfl) rfl) rfl ?_
        refine wlv (op_move (lt_ rfl) rfl) rfl ?_
        refine wlv (op_shr32 (lt_ rfl) rfl rfl (by decide)) rfl ?_
        refine wlv (op_conv328 (by kernel_rfl) Try.underlying5 (lt_ rfl) rfl) rfl ?_
        refine wlv (op_move (lt_ rfl) rfl) rfl ?_
        refine wlv (op_conv328 (by kernel_rfl) Try.underlying5 (lt_ rfl) rfl) rfl ?_
        refine wlv (op_indexArr Try.underlying134 sz5 (lt_ rfl) rfl rfl (by omega) (by omega)) rfl ?_
        refine wl (op_store sz5 rfl rfl xK xL xO (by rw [bvs_length]; simp only [List.length_set, hX]; omega)) rfl ?_
        change WL _ _ _ _ _ _ _
        refine WL.blkEq (b := b5) _ xK (bvs_put (k := 4 * i + 0) (by omega) (by simp only [List.length_set, hX]; omega)) ?_
        refine wlv (op_indexArr Try.underlying134 sz5 (lt_ rfl) rfl rfl (by omega) (by omega)) rfl ?_
        refine wl (op_store sz5 rfl rfl xK xL xO (by rw [bvs_length]; simp only [List.length_set, hX]; omega)) rfl ?_
        change WL _ _ _ _ _ _ _
        refine WL.blkEq (b := b5) _ xK (bvs_put (k := 4 * i + 1) (by omega) (by simp only [List.length_set, hX]; omega)) ?_
        refine wlv (op_indexArr Try.underlying134 sz5 (lt_ rfl) rfl rfl (by omega) (by omega)) rfl ?_
        refine wl (op_store sz5 rfl rfl xK xL xO (by rw [bvs_length]; simp only [List.length_set, hX]; omega)) rfl ?_
        change WL _ _ _ _ _ _ _
        refine WL.blkEq (b := b5) _ xK (bvs_put (k := 4 * i + 2) (by omega) (by simp only [List.length_set, hX]; omega)) ?_
        refine wlv (op_indexArr Try.underlying134 sz5 (lt_ rfl) rfl rfl (by omega) (by omega)) rfl ?_
        refine wl (op_store sz5 rfl rfl xK xL xO (by rw [bvs_length]; simp only [List.length_set, hX]; omega)) rfl ?_
        change WL _ _ _ _ _ _ _
        refine WL.blkEq (b := b5) (bvs ((S.list.take (i + 1)).flatMap wb ++ List.replicate (4 * (8 - (i + 1))) 0)) xK ((bvs_put (k := 4 * i + 3) (by omega) (by simp only [List.length_set, hX]; omega)).trans (congrArg bvs (regs_step S i (by omega)))) ?_
        refine WL.nil ?_
        refine WX.regs (L' := [(2, _), (6, _), (68, _), (69, _)]) ?_
        refine WX.in_normal ?_
        refine WX.next ?_
        refine WC.region ?_
        refine wlv (op_add (lt_ rfl) rfl rfl (by omega)) rfl ?_
        refine wlv (op_move (lt_ rfl) rfl) rfl ?_
        refine WL.nil ?_
        refine WX.regs (L' := [(2, _), (6, _), (68, _), (69, _)]) ?_
        refine WX.meet (i + 1) ⟨by omega, by omega⟩ (fun a w hs => hs.sub xY xT)
      ·
        refine WC.exit ?_
        refine WX.then_exit ?_
        refine WX.then_exit ?_
        refine WX.in_hit ?_
        refine WX.next ?_
        refine WC.seq ?_
        refine WC.region ?_
        obtain rfl : i = 8 := by omega
        refine WL.blkEq (b := b5) (bvs (dig S)) xK (by simp [dig, S8.list]) ?_
        refine wlv (op_loadAll ag134 (lt_ rfl) rfl xM (by rw [bvs_length, dig_length])) rfl ?_
        refine wl (op_storeAll sz134 rfl rfl xK (by simp [Value.cells, dig_length]) xO xL) rfl ?_
        change WL _ _ _ _ _ _ _
        refine WL.nil ?_
        refine WX.regs (L' := [(2, _)]) ?_
        refine WX.next ?_
        refine WC.ret ?_
        exact Fin.ret1 xI (()) (trivial) Try.results81 (.cellN rfl ag134 xM xL) xT (by simp)
end Go.Proofs.Ytkjlbedebmffgaa.Sx

set_option linter.unusedVariables false
set_option linter.unusedSimpArgs false
namespace Go.Proofs.Ytkjlbedebmffgaa.Sx
open Go.RowKit Go.Proofs.Ytkjlbedebmffgaa.Ty
attribute [local irreducible] blk own rd rx frameC

theorem getD_app (l e : List UInt8) (i : Nat) (h : i < l.length) : (l ++ e).getD i 0 = l.getD i 0 := by
  simp [List.getD_eq_getElem?_getD, List.getElem?_append, h]
theorem wds_app (l e : List UInt8) (h : 64 ≤ l.length) : wds (l ++ e) 16 = wds l 16 := by
  unfold wds
  apply List.map_congr_left
  intro j hj
  have hj := List.mem_range.1 hj
  unfold wd
  rw [getD_app _ _ _ (by omega), getD_app _ _ _ (by omega), getD_app _ _ _ (by omega), getD_app _ _ _ (by omega)]
theorem absorb_app (s : S8) (l e : List UInt8) : ∀ k, 64 * k ≤ l.length → absorb s (l ++ e) k = absorb s l k := by
  intro k
  induction k with
  | zero => intro _; rfl
  | succ k ih =>
    intro h
    simp only [absorb]
    rw [ih (by omega), List.drop_append_of_le_length (by omega), wds_app _ _ (by simp; omega)]
theorem absorb_more (s : S8) (l e : List UInt8) (k : Nat) (h : 64 * k ≤ l.length) : ∀ j, absorb (absorb s l k) (l.drop (64 * k) ++ e) j = absorb s (l ++ e) (k + j) := by
  intro j
  induction j with
  | zero => exact (absorb_app s l e k h).symm
  | succ j ih =>
    have e1 : k + (j + 1) = (k + j) + 1 := by omega
    rw [e1]
    simp only [absorb]
    rw [ih, ← List.drop_append_of_le_length h, List.drop_drop, ← Nat.mul_add]
/-- SHA-256. -/
def sha (bs : List UInt8) : List UInt8 := dig (absorb S8.init (bs ++ pad bs.length) ((bs.length + plen bs.length) / 64))
theorem sha_length (bs : List UInt8) : (sha bs).length = 32 := dig_length _
theorem sha_parts (bs : List UInt8) (m : Nat) (h : bs.length = m) :
    dig (absorb (absorb S8.init bs (m / 64)) (bs.drop (64 * (m / 64)) ++ pad m) ((m % 64 + plen m) / 64)) = sha bs := by
  subst h
  rw [absorb_more _ _ _ _ (by omega)]
  unfold sha
  congr 2
  omega
theorem rd_dropB {A : Option Addr} {c m l : Nat} {bs : List UInt8} (h : bs.length = m) (hl : l ≤ m) : (rd (sliced A l m c 1) 1 (m - l) (bvs (bs.drop l))).Le (rd (.slice A m c) 1 m (bvs bs)) := by
  have k := rd_sub (A := A) (c := c) (m := m) (sz := 1) (l := l) (h := m) (xs := bvs bs) hl (Nat.le_refl _)
  have e : ((bvs bs).drop (l * 1)).take ((m - l) * 1) = bvs (bs.drop l) := by
    rw [Nat.mul_one, Nat.mul_one, List.take_of_length_le (by simp; omega)]
    simp [bvs]
  rwa [e] at k
theorem rd_subB {A : Option Addr} {c m l h : Nat} {bs : List UInt8} (hl : l ≤ h) (hh : h ≤ m) : (rd (sliced A l h c 1) 1 (h - l) (bvs ((bs.drop l).take (h - l)))).Le (rd (.slice A m c) 1 m (bvs bs)) := by
  have k := rd_sub (A := A) (c := c) (m := m) (sz := 1) (l := l) (h := h) (xs := bvs bs) hl hh
  have e : ((bvs bs).drop (l * 1)).take ((h - l) * 1) = bvs ((bs.drop l).take (h - l)) := by
    rw [Nat.mul_one, Nat.mul_one]
    simp [bvs]
  rwa [e] at k
set_option maxHeartbeats 400000 in
set_option maxRecDepth 10000 in
theorem f78_spec (A : Option Addr) (m c : Nat) (bs : List UInt8) (hm : bs.length = m) (hm' : m < 100000) :
    Spec Try.prog 78 [.slice A m c] [] [rd (.slice A m c) 1 m (bvs bs)] (R := Unit) (fun _ => True) (fun _ => .agg (bvs (sha bs)).toArray) (fun _ => []) := by
  refine Spec.intro Try.func78 Try.ntmps78 rfl (by simp) (by simp) fun w0 => ?_
  refine WC.seq ?_
  refine WC.region ?_
  refine wl1 (op_alloc ti134 (lt_ rfl)) rfl fun b1 => ?_
  refine WL.nil ?_
  refine WX.regs (L' := [(0, _), (2, _)]) ?_
  refine WX.next ?_
  refine WC.seq ?_
  refine WC.region ?_
  refine wlx (op_call (f79_spec) ca79 (lt_ rfl) rfl) rfl ?_
  rintro hb _
  refine wlv (op_assign (lt_ rfl) rfl) rfl ?_
  refine WL.nil ?_
  refine WX.regs (L' := [(0, _), (2, _), (3, _)]) ?_
  refine WX.next ?_
  refine WC.seq ?_
  refine WC.region ?_
  refine wlv (op_move (lt_ rfl) rfl) rfl ?_
  refine wlv (op_move (lt_ rfl) rfl) rfl ?_
  refine WL.nilrd 1 ?_
  refine wlx (op_call (f80_spec hb S8.init none A 0 0 m c 0 [] bs rfl hm (by omega) (by omega) (by omega)) ca80 (lt_ rfl) rfl) rfl ?_
  rintro ⟨Ar, cr⟩ _
  rw [List.nil_append, Nat.zero_add]
  refine WL.nil ?_
  refine WX.regs (L' := [(2, _), (3, _)]) ?_
  refine WX.next ?_
  refine WC.seq ?_
  refine WC.region ?_
  refine wlv (op_move (lt_ rfl) rfl) rfl ?_
  refine wlx (op_call (f81_spec hb (absorb S8.init bs (m / 64)) Ar (m % 64) cr m (bs.drop (64 * (m / 64))) (by simp; omega) (by omega) (by omega)) ca81 (lt_ rfl) rfl) rfl ?_
  rintro _ _
  rw [sha_parts bs m hm]
  refine wl (op_storeAll sz134 rfl rfl xK (by simp [Value.cells, sha_length]) xO xL) rfl ?_
  change WL _ _ _ _ _ _ _
  refine WL.nil ?_
  refine WX.regs (L' := [(2, _)]) ?_
  refine WX.next ?_
  refine WC.ret ?_
  exact Fin.ret1 xI (()) (trivial) Try.results78 (.cellN rfl ag134 xM xL) xT (by simp)
set_option maxHeartbeats 400000 in
set_option maxRecDepth 10000 in
theorem f76_spec (A : Option Addr) (m c : Nat) (bs : List UInt8) (hm : bs.length = m) (hm' : m < 100000) :
    Spec Try.prog 76 [.slice A m c] [] [rd (.slice A m c) 1 m (bvs bs)] (R := Unit) (fun _ => True) (fun _ => .agg (bvs ((sha bs).take 16)).toArray) (fun _ => []) := by
  refine Spec.intro Try.func76 Try.ntmps76 rfl (by simp) (by simp) fun w0 => ?_
  refine WC.seq ?_
  refine WC.region ?_
  refine wl1 (op_alloc ti129 (lt_ rfl)) rfl fun b1 => ?_
  refine WL.nil ?_
  refine WX.regs (L' := [(0, _), (2, _)]) ?_
  refine WX.next ?_
  refine WC.seq ?_
  refine WC.region ?_
  refine wlv (op_move (lt_ rfl) rfl) rfl ?_
  refine wlx (op_call (f78_spec A m c bs hm hm') ca78 (lt_ rfl) rfl) rfl ?_
  rintro r1 h1
  refine wl1 (op_alloc ti134 (lt_ rfl)) rfl fun b2 => ?_
  refine wl (op_storeAll sz134 rfl rfl xK (by simp [Value.cells, sha_length]) xO xL) rfl ?_
  change WL _ _ _ _ _ _ _
  refine WL.nil ?_
  refine WX.regs (L' := [(2, _), (3, _)]) ?_
  refine WX.next ?_
  refine WC.seq ?_
  refine WC.region ?_
  refine wlv (op_sliceArr_h Try.underlying134 sz5 (lt_ rfl) rfl rfl (by decide) (by decide)) rfl ?_
  refine wlv (op_sl2arr Try.underlying129 (lt_ rfl) rfl (by decide)) rfl ?_
  refine wlv (op_loadN ag129 (lt_ rfl) rfl xM rfl) rfl ?_
  refine wl (op_storeAll sz129 rfl rfl xK xL xO xL) rfl ?_
  change WL _ _ _ _ _ _ _
  refine WL.nil ?_
  refine WX.regs (L' := [(2, _)]) ?_
  refine WX.next ?_
  refine WC.ret ?_
  exact Fin.ret1 xI (()) (trivial) Try.results76 (.cellN rfl ag129 xM xL) xT (by simp)
set_option maxHeartbeats 400000 in
set_option maxRecDepth 10000 in
theorem f68_spec (A : Option Addr) (m c : Nat) (bs : List UInt8) (hm : bs.length = m) (hm' : m < 100000) (h16 : 16 ≤ m) :
    Spec Try.prog 68 [.slice A m c] [] [rd (.slice A m c) 1 m (bvs bs)] (R := Unit) (fun _ => True) (fun _ => .agg (bvs ((sha (bs.drop 16)).take 16)).toArray) (fun _ => []) := by
  refine Spec.intro Try.func68 Try.ntmps68 rfl (by simp) (by simp) fun w0 => ?_
  refine WC.seq ?_
  refine WC.region ?_
  refine wl1 (op_alloc ti114 (lt_ rfl)) rfl fun b1 => ?_
  refine WL.nil ?_
  refine WX.regs (L' := [(0, _), (2, _)]) ?_
  refine WX.next ?_
  refine WC.seq ?_
  refine WC.region ?_
  refine wlv (op_move (lt_ rfl) rfl) rfl ?_
  refine wlv (op_slice_l Try.underlying23 sz5 (lt_ rfl) rfl rfl (by omega) (by omega)) rfl ?_
  refine WL.dupr (v := .slice A m c) (sz := 1) (m := m) (xs := bvs bs) xM (rd_dropB (l := 16) hm (by omega)) ?_
  refine wlx (op_call (f76_spec _ (m - 16) (c - 16) (bs.drop 16) (by simp; omega) (by omega)) ca76 (lt_ rfl) rfl) rfl ?_
  rintro r1 h1
  refine wl (op_storeAll sz114 rfl rfl xK (by simp [Value.cells, sha_length]) xO xL) rfl ?_
  change WL _ _ _ _ _ _ _
  refine WL.nil ?_
  refine WX.regs (L' := [(2, _)]) ?_
  refine WX.next ?_
  refine WC.ret ?_
  exact Fin.ret1 xI (()) (trivial) Try.results68 (.cellN rfl ag114 xM xL) xT (by simp)
end Go.Proofs.Ytkjlbedebmffgaa.Sx

set_option linter.unusedVariables false
set_option linter.unusedSimpArgs false
namespace Go.Proofs.Ytkjlbedebmffgaa.Sx
open Go.RowKit Go.Proofs.Ytkjlbedebmffgaa.Ty
attribute [local irreducible] blk own rd rx frameC

theorem zeros_step2 (bs : List UInt8) (j : Nat) : bvs (bs ++ 128 :: List.replicate j 0) ++ [bv 0] = bvs (bs ++ 128 :: List.replicate (j + 1) 0) := by
  rw [bvs_append, List.append_assoc, zeros_step, ← bvs_append]
theorem be8_step2 (bs : List UInt8) (N j : Nat) (h : j < 8) : bvs (bs ++ 128 :: (List.replicate (zpad N) 0 ++ (be8 N).take j)) ++ [bv (UInt8.ofNat (N * 8 / 2 ^ (8 * (7 - j))))] = bvs (bs ++ 128 :: (List.replicate (zpad N) 0 ++ (be8 N).take (j + 1))) := by
  rw [bvs_append, List.append_assoc, be8_step _ _ h, ← bvs_append]
/-- The reference's schedule. -/
def rnew (ws : List UInt32) (t : Nat) : UInt32 :=
      ((((rotr (ws.getD (t - 2) 0) 17 ^^^ rotr (ws.getD (t - 2) 0) 19) ^^^ (ws.getD (t - 2) 0 >>> 10)) + ws.getD (t - 7) 0)
        + ((rotr (ws.getD (t - 15) 0) 7 ^^^ rotr (ws.getD (t - 15) 0) 18) ^^^ (ws.getD (t - 15) 0 >>> 3))) + ws.getD (t - 16) 0
def refW (bs : List UInt8) : Nat → List UInt32
  | 0 => []
  | t + 1 => refW bs t ++ [if t < 16 then wd bs t else rnew (refW bs t) t]
theorem refW_lo (bs : List UInt8) (t : Nat) (h : t < 16) : refW bs (t + 1) = refW bs t ++ [wd bs t] := by rw [refW, if_pos h]
theorem refW_hi (bs : List UInt8) (t : Nat) (h : ¬ t < 16) : refW bs (t + 1) = refW bs t ++ [rnew (refW bs t) t] := by rw [refW, if_neg h]
@[simp] theorem refW_length (bs : List UInt8) (t : Nat) : (refW bs t).length = t := by induction t <;> simp [refW, *]
attribute [irreducible] refW
theorem getD_pre {ws zs : List UInt32} {k : Nat} (h : k < ws.length) : (ws ++ zs).getD k 0 = ws.getD k 0 := by
  simp [List.getD_eq_getElem?_getD, List.getElem?_append, h]
theorem wvs_pre {ws zs : List UInt32} {j k : Nat} (h : j = k) (hk : k < ws.length) : (wvs (ws ++ zs))[j]? = some (wv (ws.getD k 0)) := by
  rw [wvs_at h (by simp; omega), getD_pre hk]
theorem set_next (ws : List UInt32) (t : Nat) (x : UInt32) (h : t < 64) (hl : ws.length = t) : (ws ++ List.replicate (64 - t) 0).set t x = (ws ++ [x]) ++ List.replicate (64 - (t + 1)) 0 := by
  obtain ⟨k, hk⟩ : ∃ k, 64 - t = k + 1 := ⟨64 - t - 1, by omega⟩
  have e2 : 64 - (t + 1) = k := by omega
  rw [hk, e2, List.replicate_succ, List.set_append_right (h := by omega)]
  simp [hl]
end Go.Proofs.Ytkjlbedebmffgaa.Sx

set_option linter.unusedVariables false
set_option linter.unusedSimpArgs false
namespace Go.Proofs.Ytkjlbedebmffgaa.Sx
open Go.RowKit Go.Proofs.Ytkjlbedebmffgaa.Ty
attribute [local irreducible] blk own rd rx frameC


def Wr (bs : List UInt8) (i : Nat) : UInt32 := (refW bs (i + 1)).getD i 0
theorem refW_get (bs : List UInt8) (i : Nat) : ∀ n, i < n → (refW bs n).getD i 0 = Wr bs i := by
  intro n
  induction n with
  | zero => intro h; omega
  | succ n ih =>
    intro h
    by_cases e : i = n
    · subst e; rfl
    · have h2 : i < n := by omega
      by_cases hn : n < 16
      · rw [refW_lo _ _ hn, getD_pre (by simpa using h2), ih h2]
      · rw [refW_hi _ _ hn, getD_pre (by simpa using h2), ih h2]
theorem getD_last {ws : List UInt32} {x : UInt32} {k : Nat} (h : ws.length = k) : (ws ++ [x]).getD k 0 = x := by
  subst h; simp [List.getD_eq_getElem?_getD]
theorem Wr_lo (bs : List UInt8) (i : Nat) (h : i < 16) : Wr bs i = wd bs i := by
  unfold Wr; rw [refW_lo _ _ h, getD_last (refW_length _ _)]
theorem Wr_hi (bs : List UInt8) (i : Nat) (h : 16 ≤ i) : Wr bs i = ((((rotr (Wr bs (i - 2)) 17 ^^^ rotr (Wr bs (i - 2)) 19) ^^^ (Wr bs (i - 2) >>> 10)) + Wr bs (i - 7))
        + ((rotr (Wr bs (i - 15)) 7 ^^^ rotr (Wr bs (i - 15)) 18) ^^^ (Wr bs (i - 15) >>> 3))) + Wr bs (i - 16) := by
  conv => lhs; unfold Wr
  rw [refW_hi _ _ (by omega), getD_last (refW_length _ _)]
  unfold rnew
  rw [refW_get _ (i - 2) _ (by omega), refW_get _ (i - 7) _ (by omega), refW_get _ (i - 15) _ (by omega), refW_get _ (i - 16) _ (by omega)]
theorem getD_set_self (ws : List UInt32) (k : Nat) (x : UInt32) (h : k < ws.length) : (ws.set k x).getD k 0 = x := by
  simp [List.getD_eq_getElem?_getD, h]
theorem getD_set_ne (ws : List UInt32) (k j : Nat) (x : UInt32) (h : k ≠ j) : (ws.set k x).getD j 0 = ws.getD j 0 := by
  simp [List.getD_eq_getElem?_getD, List.getElem?_set, h]
theorem wds_get (bs : List UInt8) (i : Nat) (h : i < 16) : (wds bs 16).getD i 0 = wd bs i := by
  simp [wds, List.getD_eq_getElem?_getD, h]
theorem roll (s : S8) (bs : List UInt8) : ∀ t i, i < max t 16 → max t 16 ≤ i + 16 → (pst s (wds bs 16) t).1.getD (i % 16) 0 = Wr bs i := by
  intro t
  induction t with
  | zero =>
    intro i h1 h2
    have h3 : i < 16 := by omega
    rw [Nat.mod_eq_of_lt h3]
    exact (wds_get bs i h3).trans (Wr_lo bs i h3).symm
  | succ t ih =>
    intro i h1 h2
    show (pw (pst s (wds bs 16) t).1 t).getD (i % 16) 0 = _
    unfold pw
    split
    · rename_i h16
      by_cases e : i = t
      · subst e
        rw [getD_set_self _ _ _ (by rw [pst_length]; simp; omega), Wr_hi _ _ h16]
        unfold pnew
        rw [ih (i - 2) (by omega) (by omega), ih (i - 7) (by omega) (by omega), ih (i - 15) (by omega) (by omega)]
        have e16 : i % 16 = (i - 16) % 16 := by omega
        rw [e16, ih (i - 16) (by omega) (by omega), UInt32.add_comm]
      · rw [getD_set_ne _ _ _ _ (by omega)]
        exact ih i (by omega) (by omega)
    · exact ih i (by omega) (by omega)
def rst (s : S8) (bs : List UInt8) : Nat → S8
  | 0 => s
  | t + 1 => (rst s bs t).round (Kw.getD t 0) ((refW bs 64).getD t 0)
theorem rst_pst (s : S8) (bs : List UInt8) : ∀ t, t ≤ 64 → rst s bs t = (pst s (wds bs 16) t).2 := by
  intro t
  induction t with
  | zero => intro _; rfl
  | succ t ih =>
    intro h
    show (rst s bs t).round (Kw.getD t 0) ((refW bs 64).getD t 0) = (pst s (wds bs 16) t).2.round (Kw.getD t 0) ((pst s (wds bs 16) (t + 1)).1.getD (t % 16) 0)
    rw [ih (by omega), roll s bs (t + 1) t (by omega) (by omega), refW_get bs t 64 (by omega)]
theorem plus_comm (s o : S8) : s.plus o = o.plus s := by
  simp [S8.plus, UInt32.add_comm]
/-- Adding o to s word by word. -/
def madd (s o : List UInt32) : Nat → List UInt32
  | 0 => s
  | i + 1 => (madd s o i).set i ((madd s o i).getD i 0 + o.getD i 0)
@[simp] theorem madd_length (s o : List UInt32) (i : Nat) : (madd s o i).length = s.length := by induction i <;> simp [madd, *]
theorem madd_end (s o : S8) : madd s.list o.list 8 = (s.plus o).list := rfl
theorem wds_take (bs : List UInt8) : wds (bs.take 64) 16 = wds bs 16 := by
  unfold wds
  apply List.map_congr_left
  intro j hj
  have hj := List.mem_range.1 hj
  have g : ∀ i, i < 64 → (bs.take 64).getD i 0 = bs.getD i 0 := by
    intro i hi
    simp [List.getD_eq_getElem?_getD, List.getElem?_take, hi]
  unfold wd
  rw [g _ (by omega), g _ (by omega), g _ (by omega), g _ (by omega)]
theorem absorb_ref (s : S8) (l : List UInt8) (k : Nat) : (absorb s l k).plus (rst (absorb s l k) ((l.drop (64 * k)).take 64) 64) = absorb s l (k + 1) := by
  rw [rst_pst _ _ _ (Nat.le_refl _), wds_take, plus_comm]
  rfl
def wb2 (ws : List UInt32) (i : Nat) : UInt8 := (ws.getD (i / 4) 0 >>> UInt32.ofNat (24 - 8 * (i % 4))).toUInt8

theorem dig_at (s : S8) (i : Nat) (h : i < 32) : (dig s).getD i 0 = wb2 s.list i := by
  have e0 : ∀ w : UInt32, (w >>> UInt32.ofNat 0).toUInt8 = w.toUInt8 := by intro w; simp
  have h4 : ∀ (q r : Nat), q < 8 → r < 4 → (dig s).getD (4 * q + r) 0 = wb2 s.list (4 * q + r) := by
    intro q r hq hr
    unfold wb2
    have a1 : (4 * q + r) / 4 = q := by omega
    have a2 : (4 * q + r) % 4 = r := by omega
    rw [a1, a2]
    match r, hr with
    | 0, _ => match q, hq with
      | 0, _ | 1, _ | 2, _ | 3, _ | 4, _ | 5, _ | 6, _ | 7, _ => rfl
    | 1, _ => match q, hq with
      | 0, _ | 1, _ | 2, _ | 3, _ | 4, _ | 5, _ | 6, _ | 7, _ => rfl
    | 2, _ => match q, hq with
      | 0, _ | 1, _ | 2, _ | 3, _ | 4, _ | 5, _ | 6, _ | 7, _ => rfl
    | 3, _ =>
      show _ = (_ >>> UInt32.ofNat 0).toUInt8
      rw [e0]
      match q, hq with
      | 0, _ | 1, _ | 2, _ | 3, _ | 4, _ | 5, _ | 6, _ | 7, _ => rfl
  have e : i = 4 * (i / 4) + i % 4 := by omega
  rw [e]
  exact h4 _ _ (by omega) (by omega)
theorem getD_eqget {l : List UInt8} {i : Nat} (h : i < l.length) : l.getD i 0 = l[i] := by simp [List.getD_eq_getElem?_getD, h]
theorem dig_put (d : List UInt8) (i : Nat) (h : i < 32) (hl : d.length = 32) (x : UInt8) (hx : x = d.getD i 0) : (d.take i ++ List.replicate (32 - i) 0).set i x = d.take (i + 1) ++ List.replicate (32 - (i + 1)) 0 := by
  obtain ⟨k, hk⟩ : ∃ k, 32 - i = k + 1 := ⟨32 - i - 1, by omega⟩
  have e2 : 32 - (i + 1) = k := by omega
  have e3 : (d.take i).length = i := by rw [List.length_take]; omega
  have e4 : d.take (i + 1) = d.take i ++ [d[i]] := List.take_succ_eq_append_getElem (by omega)
  rw [hk, e2, List.replicate_succ, List.set_append_right (h := by omega), e3, hx, getD_eqget (by omega), e4]
  simp only [Nat.sub_self, List.set_cons_zero, List.append_assoc, List.cons_append, List.nil_append]
end Go.Proofs.Ytkjlbedebmffgaa.Sx

