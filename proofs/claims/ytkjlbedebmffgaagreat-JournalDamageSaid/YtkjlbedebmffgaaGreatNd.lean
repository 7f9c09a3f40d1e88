import Derived.Test.YtkjlbedebmffgaaGreatNb
import Derived.Test.YtkjlbedebmffgaaGreatNc
set_option linter.unusedVariables false
set_option linter.unusedSimpArgs false
namespace Go.Proofs.YtkjlbedebmffgaaGreat.Sx
open Go.RowKit Go.Proofs.YtkjlbedebmffgaaGreat.Ty
attribute [local irreducible] blk own rd rx frameC
def bvs (l : List UInt8) : List Value := l.map bv
@[simp] theorem bvs_length (l : List UInt8) : (bvs l).length = l.length := by simp [bvs]
theorem bvs_append (l m : List UInt8) : bvs (l ++ m) = bvs l ++ bvs m := by simp [bvs]
theorem bvs_one (l : List UInt8) : (bvs l).all (·.oneCell') = true := by simp [bvs, bv, Value.oneCell']
def wvs (l : List UInt32) : List Value := l.map wv
@[simp] theorem wvs_length (l : List UInt32) : (wvs l).length = l.length := by simp [wvs]
theorem wvs_one (l : List UInt32) : (wvs l).all (·.oneCell') = true := by simp [wvs, wv, Value.oneCell']
def rotr (x : UInt32) (n : Nat) : UInt32 := (x >>> UInt32.ofNat n) ||| (x <<< UInt32.ofNat (32 - n))
structure S8 where
 (a b c d e f g h : UInt32)
def S8.cells (s : S8) : List Value := [wv s.a, wv s.b, wv s.c, wv s.d, wv s.e, wv s.f, wv s.g, wv s.h]
def S8.round (s : S8) (k w : UInt32) : S8 :=
 ⟨(s.h + (rotr s.e 6 ^^^ rotr s.e 11 ^^^ rotr s.e 25) + ((s.e &&& s.f) ^^^ ((~~~ s.e) &&& s.g)) + k + w) + ((rotr s.a 2 ^^^ rotr s.a 13 ^^^ rotr s.a 22) + ((s.a &&& s.b) ^^^ (s.a &&& s.c) ^^^ (s.b &&& s.c))), s.a, s.b, s.c,
   s.d + (s.h + (rotr s.e 6 ^^^ rotr s.e 11 ^^^ rotr s.e 25) + ((s.e &&& s.f) ^^^ ((~~~ s.e) &&& s.g)) + k + w), s.e, s.f, s.g⟩
def S8.plus (s o : S8) : S8 := ⟨s.a + o.a, s.b + o.b, s.c + o.c, s.d + o.d, s.e + o.e, s.f + o.f, s.g + o.g, s.h + o.h⟩
section
variable {P : Program} {n : Fr} {L : List (Nat × Value)} {H : List Ch} {d : Nat} {ty : TypeId} {pos : String} {af : Array Edge} {g : Option (Nat × Bool)} {x y : Operand} {xt yt : TypeId} {src dst : TypeId}
theorem op_convNeg {a : Int} (hs : (P.underlying src).isSome = true) (hd : P.underlying dst = some (.int .u64)) (hn : d < n.n) (hx : evr L x = some (.int .i64 a)) (h0 : -64 ≤ a ∧ a < 0) :
  Val P ⟨some d, .convert src dst x, ty, pos, af, g⟩ n L H d (.int .u64 (a + 18446744073709551616)) := by
 have h := op_conv (P := P) (H := H) (ty := ty) (pos := pos) (af := af) (g := g) (k := .i64) hs hd hn hx
 have e : IntKind.u64.wrap a = a + 18446744073709551616 := by
  simp [IntKind.wrap, IntKind.bits, IntKind.signed]
  omega
 rw [e] at h
 exact h
theorem op_and31 {a : Int} (hn : d < n.n) (hx : evr L x = some (.int .u64 a)) (hy : evr L y = some (.int .u64 31)) (h0 : 0 ≤ a ∧ a < 18446744073709551616) :
  Val P ⟨some d, .binOp .and xt x y yt, ty, pos, af, g⟩ n L H d (.int .u64 (a % 32)) :=
 binop_val hn hx hy (fun _ _ => rfl) fun w => by
  show (binOp .and xt (.int .u64 a) (.int .u64 31)).run P w = _
  rw [binOp_and]
  have e : IntKind.u64.wrap ((BitVec.ofInt 64 a &&& BitVec.ofInt 64 31).toNat : Int) = a % 32 := by
   obtain ⟨k, rfl⟩ := Int.eq_ofNat_of_zero_le h0.1
   have e1 : (BitVec.ofInt 64 (k : Int) &&& BitVec.ofInt 64 31).toNat = k % 32 := by
    have hk : k < 2 ^ 64 := by omega
    have h31 : (BitVec.ofInt 64 31).toNat = 2 ^ 5 - 1 := by decide
    rw [BitVec.toNat_and, h31, Nat.and_two_pow_sub_one_eq_mod, BitVec.ofInt_natCast, BitVec.toNat_ofNat, Nat.mod_eq_of_lt hk]
   rw [e1]
   simp [IntKind.wrap, IntKind.bits, IntKind.signed]
   omega
  exact congrArg (fun z : Int => (Result.ok (Value.int .u64 z) w : Result Value)) e
theorem op_sub64 {a b : Int} (hn : d < n.n) (hx : evr L x = some (.int .u64 a)) (hy : evr L y = some (.int .u64 b)) (hr : 0 ≤ a - b ∧ a - b < 18446744073709551616) :
  Val P ⟨some d, .binOp .sub xt x y yt, ty, pos, af, g⟩ n L H d (.int .u64 (a - b)) :=
 binop_val hn hx hy (fun _ _ => rfl) fun w => by simp [binOp, Op.intArith, IntKind.wrap, IntKind.bits, IntKind.signed]; omega
theorem op_mul64 {a b : Int} (hn : d < n.n) (hx : evr L x = some (.int .u64 a)) (hy : evr L y = some (.int .u64 b)) (hr : 0 ≤ a * b ∧ a * b < 18446744073709551616) :
  Val P ⟨some d, .binOp .mul xt x y yt, ty, pos, af, g⟩ n L H d (.int .u64 (a * b)) :=
 binop_val hn hx hy (fun _ _ => rfl) fun w => by simp [binOp, Op.intArith, IntKind.wrap, IntKind.bits, IntKind.signed]; omega
theorem op_shr64 {a s : Int} {k' : IntKind} (hn : d < n.n) (hx : evr L x = some (.int .u64 a)) (hy : evr L y = some (.int k' s)) (hs : 0 ≤ a ∧ 0 ≤ s ∧ s < 64) :
  Val P ⟨some d, .binOp .shr xt x y yt, ty, pos, af, g⟩ n L H d (.int .u64 (a / (2 ^ s.toNat : Nat))) :=
 binop_val hn hx hy (fun _ _ => rfl) fun w => by
  have h0 : ¬ s < 0 := by omega
  have h1 : min s.toNat 64 = s.toNat := by omega
  simp [binOp_shr, Op.shift, h0, IntKind.bits, h1]
end
set_option maxHeartbeats 400000 in
set_option maxRecDepth 10000 in
theorem f125_spec (x : UInt32) (m : Nat) (hm : 1 ≤ m ∧ m ≤ 31) :
  Spec Tryz.prog 125 [wv x, .int .i64 (-(m : Int))] [] [] (R := Unit) (fun _ => True) (fun _ => wv (rotr x m)) (fun _ => []) := by
 refine Spec.intro Tryz.func125 Tryz.ntmps125 rfl (by simp) (by simp) fun w0 => ?_
 refine W283 ?_
 refine W76 ?_
 refine W261 ?_
 refine wlv (op_convNeg (by kernel_rfl) Tryz.underlying163 (by decide) rfl (by omega)) rfl ?_
 refine wlv (op_and31 (by decide) rfl rfl (by omega)) rfl ?_
 refine W241 ?_
 refine WX.regs (L' := [(0, _), (5, _)]) ?_
 refine W299 ?_
 refine wlv (op_shl32 (lt_ rfl) rfl rfl (by omega)) rfl ?_
 refine W244 ?_
 refine wlv (op_sub64 (lt_ rfl) rfl rfl (by omega)) rfl ?_
 refine wlv (op_shr32 (lt_ rfl) rfl rfl (by omega)) rfl ?_
 refine wlv (op_or32 (lt_ rfl) rfl rfl) rfl ?_
 refine W241 ?_
 refine W322 ?_
 have e1 : ((-(m : Int) + 18446744073709551616) % 32).toNat = 32 - m := by omega
 have e2 : (32 - (-(m : Int) + 18446744073709551616) % 32).toNat = m := by omega
 rw [e1, e2]
 have e3 : (x <<< UInt32.ofNat (32 - m)) ||| (x >>> UInt32.ofNat m) = rotr x m := UInt32.or_comm _ _
 rw [e3]
 exact Fin.ret1 xI (()) (trivial) Tryz.results125 (.tmp rfl) xT (by simp)
set_option maxHeartbeats 400000 in
set_option maxRecDepth 10000 in
theorem f122_spec (x : UInt32) (m : Nat) (hm : 1 ≤ m ∧ m ≤ 31) :
  Spec Tryz.prog 122 [wv x, .int .i64 (m : Int)] [] [] (R := Unit) (fun _ => True) (fun _ => wv (rotr x m)) (fun _ => []) := by
 refine Spec.intro Tryz.func122 Tryz.ntmps122 rfl (by simp) (by simp) fun w0 => ?_
 refine W283 ?_
 refine W76 ?_
 refine W299 ?_
 refine wlv (op_neg (lt_ rfl) rfl (by omega)) rfl ?_
 refine wlx (op_call (f125_spec x m hm) ca125 (lt_ rfl) rfl) rfl ?_
 rintro _ _
 refine W241 ?_
 refine W322 ?_
 exact Fin.ret1 xI (()) (trivial) Tryz.results122 (.tmp rfl) xT (by simp)
set_option maxHeartbeats 400000 in
set_option maxRecDepth 10000 in
theorem f107_spec (x : UInt32) (m : Nat) (hm : 1 ≤ m ∧ m ≤ 31) :
  Spec Tryz.prog 107 [wv x, .int .i64 (m : Int)] [] [] (R := Unit) (fun _ => True) (fun _ => wv (rotr x m)) (fun _ => []) := by
 refine Spec.intro Tryz.func107 Tryz.ntmps107 rfl (by simp) (by simp) fun w0 => ?_
 refine W283 ?_
 refine W76 ?_
 refine W327 ?_
 refine WC.drawn (Hs := []) mo 999 ?_
 refine W344 ?_
 refine WA.take (i := 2) rfl (by kernel_rfl) (fun _ _ _ h => h) rfl (op_shr32 (lt_ rfl) rfl rfl (by omega)) xT ?_
 refine W77 ?_
 refine W51 ?_
 refine WA.take (i := 5) rfl (by kernel_rfl) (fun _ _ _ h => h) rfl (op_sub (lt_ rfl) rfl rfl (by omega)) xT ?_
 refine WA.take (i := 6) rfl (by kernel_rfl) (fun _ _ _ h => h) rfl (op_shl32 (lt_ rfl) rfl rfl (by omega)) xT ?_
 refine WA.take (i := 7) rfl (by kernel_rfl) (fun _ _ _ h => h) rfl (op_or32 (lt_ rfl) rfl rfl) xT ?_
 refine WA.take (i := 8) rfl (by kernel_rfl) (fun _ _ _ h => h) rfl (op_assign (lt_ rfl) rfl) xT ?_
 refine W19 ?_
 refine W322 ?_
 have e1 : ((32 : Int) - m).toNat = 32 - m := by omega
 rw [e1]
 exact Fin.ret1 xI (()) (trivial) Tryz.results107 (.tmp rfl) xT (by simp)
set_option maxHeartbeats 400000 in
set_option maxRecDepth 10000 in
theorem f123_spec (s : S8) (k w : UInt32) :
  Spec Tryz.prog 123 [.agg s.cells.toArray, wv k, wv w] [] [] (R := Unit) (fun _ => True) (fun _ => .agg (s.round k w).cells.toArray) (fun _ => []) := by
 refine Spec.intro Tryz.func123 Tryz.ntmps123 rfl (by simp) (by simp) fun w0 => ?_
 refine W240 ?_
 refine wl1 (op_box (lt_ rfl) rfl rfl) rfl fun b1 => ?_
 refine wl1 (op_alloc ti198 (lt_ rfl)) rfl fun b2 => ?_
 refine W2 ?_
 refine WX.regs (L' := [(1, _), (2, _), (3, _), (6, _)]) ?_
 refine W0 ?_
 refine W301 ?_
 refine WA.take (i := 0) rfl (by kernel_rfl) (fun _ _ _ h => h) rfl (op_fieldAddr fo198_7 (lt_ rfl) rfl) xT ?_
 refine W177 ?_
 refine WA.take (i := 2) rfl (by kernel_rfl) (fun _ _ _ h => h) rfl (op_fieldAddr fo198_4 (lt_ rfl) rfl) xT ?_
 refine WA.take (i := 3) rfl (by kernel_rfl) (fun _ _ _ h => h) rfl (op_load1 fl181 (lt_ rfl) rfl xM rfl) xT ?_
 refine WA.take (i := 5) rfl (by kernel_rfl) (fun _ _ _ h => h) rfl (op_fieldAddr fo198_4 (lt_ rfl) rfl) xT ?_
 refine WA.take (i := 6) rfl (by kernel_rfl) (fun _ _ _ h => h) rfl (op_load1 fl181 (lt_ rfl) rfl xM rfl) xT ?_
 refine WA.take (i := 9) rfl (by kernel_rfl) (fun _ _ _ h => h) rfl (op_fieldAddr fo198_4 (lt_ rfl) rfl) xT ?_
 refine WA.take (i := 10) rfl (by kernel_rfl) (fun _ _ _ h => h) rfl (op_load1 fl181 (lt_ rfl) rfl xM rfl) xT ?_
 refine WA.take (i := 14) rfl (by kernel_rfl) (fun _ _ _ h => h) rfl (op_fieldAddr fo198_4 (lt_ rfl) rfl) xT ?_
 refine WA.take (i := 15) rfl (by kernel_rfl) (fun _ _ _ h => h) rfl (op_load1 fl181 (lt_ rfl) rfl xM rfl) xT ?_
 refine WA.take (i := 16) rfl (by kernel_rfl) (fun _ _ _ h => h) rfl (op_fieldAddr fo198_5 (lt_ rfl) rfl) xT ?_
 refine W178 ?_
 refine WA.take (i := 18) rfl (by kernel_rfl) (fun _ _ _ h => h) rfl (op_and32 (lt_ rfl) rfl rfl) xT ?_
 refine WA.take (i := 19) rfl (by kernel_rfl) (fun _ _ _ h => h) rfl (op_fieldAddr fo198_4 (lt_ rfl) rfl) xT ?_
 refine WA.take (i := 20) rfl (by kernel_rfl) (fun _ _ _ h => h) rfl (op_load1 fl181 (lt_ rfl) rfl xM rfl) xT ?_
 refine WA.take (i := 21) rfl (by kernel_rfl) (fun _ _ _ h => h) rfl (op_not32 (lt_ rfl) rfl) xT ?_
 refine WA.take (i := 22) rfl (by kernel_rfl) (fun _ _ _ h => h) rfl (op_fieldAddr fo198_6 (lt_ rfl) rfl) xT ?_
 refine W179 ?_
 refine WA.take (i := 24) rfl (by kernel_rfl) (fun _ _ _ h => h) rfl (op_and32 (lt_ rfl) rfl rfl) xT ?_
 refine WA.take (i := 25) rfl (by kernel_rfl) (fun _ _ _ h => h) rfl (op_xor32 (lt_ rfl) rfl rfl) xT ?_
 refine W180 ?_
 refine WA.take (i := 29) rfl (by kernel_rfl) (fun _ _ _ h => h) rfl (op_move (lt_ rfl) rfl) xT ?_
 refine WA.stepx (i := 4) (by kernel_rfl) rfl rfl (op_call (f122_spec _ _ (by decide)) ca122 (lt_ rfl) rfl) (fun _ r => xT) ?_
 rintro r1 h1
 refine WA.stepx (i := 7) (by kernel_rfl) rfl rfl (op_call (f122_spec _ _ (by decide)) ca122 (lt_ rfl) rfl) (fun _ r => xT) ?_
 rintro r2 h2
 refine WA.take (i := 8) rfl (by kernel_rfl) (fun _ _ _ h => h) rfl (op_xor32 (lt_ rfl) rfl rfl) xT ?_
 refine WA.stepx (i := 11) (by kernel_rfl) rfl rfl (op_call (f122_spec _ _ (by decide)) ca122 (lt_ rfl) rfl) (fun _ r => xT) ?_
 rintro r3 h3
 refine WA.take (i := 12) rfl (by kernel_rfl) (fun _ _ _ h => h) rfl (op_xor32 (lt_ rfl) rfl rfl) xT ?_
 refine WA.take (i := 13) rfl (by kernel_rfl) (fun _ _ _ h => h) rfl (op_add32 (lt_ rfl) rfl rfl) xT ?_
 refine WA.take (i := 26) rfl (by kernel_rfl) (fun _ _ _ h => h) rfl (op_add32 (lt_ rfl) rfl rfl) xT ?_
 refine WA.take (i := 28) rfl (by kernel_rfl) (fun _ _ _ h => h) rfl (op_add32 (lt_ rfl) rfl rfl) xT ?_
 refine WA.take (i := 30) rfl (by kernel_rfl) (fun _ _ _ h => h) rfl (op_add32 (lt_ rfl) rfl rfl) xT ?_
 refine WA.take (i := 31) rfl (by kernel_rfl) (fun _ _ _ h => h) rfl (op_assign (lt_ rfl) rfl) xT ?_
 refine W19 ?_
 refine WX.regs (L' := [(3, _), (6, _), (7, _)]) ?_
 refine W0 ?_
 refine W301 ?_
 refine WA.take (i := 0) rfl (by kernel_rfl) (fun _ _ _ h => h) rfl (op_fieldAddr fo198_0 (lt_ rfl) rfl) xT ?_
 refine W177 ?_
 refine WA.take (i := 3) rfl (by kernel_rfl) (fun _ _ _ h => h) rfl (op_fieldAddr fo198_0 (lt_ rfl) rfl) xT ?_
 refine WA.take (i := 4) rfl (by kernel_rfl) (fun _ _ _ h => h) rfl (op_load1 fl181 (lt_ rfl) rfl xM rfl) xT ?_
 refine WA.take (i := 7) rfl (by kernel_rfl) (fun _ _ _ h => h) rfl (op_fieldAddr fo198_0 (lt_ rfl) rfl) xT ?_
 refine WA.take (i := 8) rfl (by kernel_rfl) (fun _ _ _ h => h) rfl (op_load1 fl181 (lt_ rfl) rfl xM rfl) xT ?_
 refine WA.take (i := 11) rfl (by kernel_rfl) (fun _ _ _ h => h) rfl (op_fieldAddr fo198_0 (lt_ rfl) rfl) xT ?_
 refine WA.take (i := 12) rfl (by kernel_rfl) (fun _ _ _ h => h) rfl (op_load1 fl181 (lt_ rfl) rfl xM rfl) xT ?_
 refine WA.take (i := 13) rfl (by kernel_rfl) (fun _ _ _ h => h) rfl (op_fieldAddr fo198_1 (lt_ rfl) rfl) xT ?_
 refine WA.take (i := 14) rfl (by kernel_rfl) (fun _ _ _ h => h) rfl (op_load1 fl181 (lt_ rfl) rfl xM rfl) xT ?_
 refine WA.take (i := 15) rfl (by kernel_rfl) (fun _ _ _ h => h) rfl (op_and32 (lt_ rfl) rfl rfl) xT ?_
 refine WA.take (i := 16) rfl (by kernel_rfl) (fun _ _ _ h => h) rfl (op_fieldAddr fo198_0 (lt_ rfl) rfl) xT ?_
 refine W178 ?_
 refine WA.take (i := 18) rfl (by kernel_rfl) (fun _ _ _ h => h) rfl (op_fieldAddr fo198_2 (lt_ rfl) rfl) xT ?_
 refine WA.take (i := 19) rfl (by kernel_rfl) (fun _ _ _ h => h) rfl (op_load1 fl181 (lt_ rfl) rfl xM rfl) xT ?_
 refine WA.take (i := 20) rfl (by kernel_rfl) (fun _ _ _ h => h) rfl (op_and32 (lt_ rfl) rfl rfl) xT ?_
 refine W181 ?_
 refine WA.take (i := 22) rfl (by kernel_rfl) (fun _ _ _ h => h) rfl (op_fieldAddr fo198_1 (lt_ rfl) rfl) xT ?_
 refine W179 ?_
 refine WA.take (i := 24) rfl (by kernel_rfl) (fun _ _ _ h => h) rfl (op_fieldAddr fo198_2 (lt_ rfl) rfl) xT ?_
 refine WA.take (i := 25) rfl (by kernel_rfl) (fun _ _ _ h => h) rfl (op_load1 fl181 (lt_ rfl) rfl xM rfl) xT ?_
 refine WA.take (i := 26) rfl (by kernel_rfl) (fun _ _ _ h => h) rfl (op_and32 (lt_ rfl) rfl rfl) xT ?_
 refine WA.take (i := 27) rfl (by kernel_rfl) (fun _ _ _ h => h) rfl (op_xor32 (lt_ rfl) rfl rfl) xT ?_
 refine WA.stepx (i := 2) (by kernel_rfl) rfl rfl (op_call (f122_spec _ _ (by decide)) ca122 (lt_ rfl) rfl) (fun _ r => xT) ?_
 rintro r4 h4
 refine WA.stepx (i := 5) (by kernel_rfl) rfl rfl (op_call (f122_spec _ _ (by decide)) ca122 (lt_ rfl) rfl) (fun _ r => xT) ?_
 rintro r5 h5
 refine WA.take (i := 6) rfl (by kernel_rfl) (fun _ _ _ h => h) rfl (op_xor32 (lt_ rfl) rfl rfl) xT ?_
 refine WA.stepx (i := 9) (by kernel_rfl) rfl rfl (op_call (f122_spec _ _ (by decide)) ca122 (lt_ rfl) rfl) (fun _ r => xT) ?_
 rintro r6 h6
 refine WA.take (i := 10) rfl (by kernel_rfl) (fun _ _ _ h => h) rfl (op_xor32 (lt_ rfl) rfl rfl) xT ?_
 refine WA.take (i := 28) rfl (by kernel_rfl) (fun _ _ _ h => h) rfl (op_add32 (lt_ rfl) rfl rfl) xT ?_
 refine WA.take (i := 29) rfl (by kernel_rfl) (fun _ _ _ h => h) rfl (op_assign (lt_ rfl) rfl) xT ?_
 refine W19 ?_
 refine WX.regs (L' := [(3, _), (6, _), (7, _), (8, _)]) ?_
 refine W299 ?_
 refine W83 ?_
 refine wlv (op_fieldAddr fo198_0 (lt_ rfl) rfl) rfl ?_
 refine W32 ?_
 refine wlv (op_fieldAddr fo198_1 (lt_ rfl) rfl) rfl ?_
 refine W32 ?_
 refine wlv (op_fieldAddr fo198_2 (lt_ rfl) rfl) rfl ?_
 refine W32 ?_
 refine wlv (op_fieldAddr fo198_3 (lt_ rfl) rfl) rfl ?_
 refine W32 ?_
 refine W4 ?_
 refine W83 ?_
 refine wlv (op_fieldAddr fo198_4 (lt_ rfl) rfl) rfl ?_
 refine W32 ?_
 refine wlv (op_fieldAddr fo198_5 (lt_ rfl) rfl) rfl ?_
 refine W32 ?_
 refine wlv (op_fieldAddr fo198_6 (lt_ rfl) rfl) rfl ?_
 refine W32 ?_
 refine wlv (op_build (cs := (s.round k w).cells) (pv := [(0, _), (1, _), (2, _), (3, _), (4, _), (5, _), (6, _), (7, _)]) (lt_ rfl) rfl (by kernel_rfl)) rfl ?_
 refine W307 ?_
 refine W46 ?_
 refine W242 ?_
 exact Fin.ret1 xI (()) (trivial) Tryz.results123 (.cellN rfl ag198 xM xL) xT (by simp)
end Go.Proofs.YtkjlbedebmffgaaGreat.Sx
namespace Go.Proofs.YtkjlbedebmffgaaGreat.Sx
open Go.RowKit Go.Proofs.YtkjlbedebmffgaaGreat.Ty
attribute [local irreducible] blk own rd rx frameC
def Kw : List UInt32 := [1116352408, 1899447441, 3049323471, 3921009573, 961987163, 1508970993, 2453635748, 2870763221, 3624381080, 310598401, 607225278, 1426881987, 1925078388, 2162078206, 2614888103, 3248222580, 3835390401, 4022224774, 264347078, 604807628, 770255983, 1249150122, 1555081692, 1996064986, 2554220882, 2821834349, 2952996808, 3210313671, 3336571891, 3584528711, 113926993, 338241895, 666307205, 773529912, 1294757372, 1396182291, 1695183700, 1986661051, 2177026350, 2456956037, 2730485921, 2820302411, 3259730800, 3345764771, 3516065817, 3600352804, 4094571909, 275423344, 430227734, 506948616, 659060556, 883997877, 958139571, 1322822218, 1537002063, 1747873779, 1955562222, 2024104815, 2227730452, 2361852424, 2428436474, 2756734187, 3204031479, 3329325298]
def S8.init : S8 := ⟨1779033703, 3144134277, 1013904242, 2773480762, 1359893119, 2600822924, 528734635, 1541459225⟩
theorem Kw_length : Kw.length = 64 := by decide
def wd (bs : List UInt8) (j : Nat) : UInt32 :=
 (((bs.getD (4 * j) 0).toUInt32 <<< 24 ||| (bs.getD (4 * j + 1) 0).toUInt32 <<< 16) ||| (bs.getD (4 * j + 2) 0).toUInt32 <<< 8) ||| (bs.getD (4 * j + 3) 0).toUInt32
def wds (bs : List UInt8) (n : Nat) : List UInt32 := (List.range n).map (wd bs)
@[simp] theorem wds_length (bs : List UInt8) (n : Nat) : (wds bs n).length = n := by simp [wds]
theorem wds_succ (bs : List UInt8) (n : Nat) : wds bs (n + 1) = wds bs n ++ [wd bs n] := by simp [wds, List.range_succ]
theorem bvs_at {bs : List UInt8} {j k : Nat} (h : j = k) (hk : k < bs.length) : (bvs bs)[j]? = some (bv (bs.getD k 0)) := by
 subst h
 simp [bvs, hk]
theorem wvs_at {ws : List UInt32} {j k : Nat} (h : j = k) (hk : k < ws.length) : (wvs ws)[j]? = some (wv (ws.getD k 0)) := by
 subst h
 simp [wvs, hk]
theorem wvs_put {ws : List UInt32} {j k : Nat} {x : UInt32} (h : j = k) (hk : k < ws.length) : pset (wvs ws) j (wv x).cells.toList = wvs (ws.set k x) := by
 subst h
 show pset (wvs ws) j [wv x] = _
 rw [pset_one _ _ _ (by simpa using hk)]
 simp [wvs, List.map_set]
theorem wds_put (bs : List UInt8) (i : Nat) (h : i < 16) : (wds bs i ++ List.replicate (16 - i) 0).set i (wd bs i) = wds bs (i + 1) ++ List.replicate (16 - (i + 1)) 0 := by
 obtain ⟨k, hk⟩ : ∃ k, 16 - i = k + 1 := ⟨16 - i - 1, by omega⟩
 have e2 : 16 - (i + 1) = k := by omega
 rw [hk, e2, wds_succ, List.replicate_succ, List.set_append_right (h := by simp)]
 simp
def pnew (ws : List UInt32) (t : Nat) : UInt32 :=
 ws.getD (t % 16) 0 + ((((rotr (ws.getD ((t - 2) % 16) 0) 17 ^^^ rotr (ws.getD ((t - 2) % 16) 0) 19) ^^^ (ws.getD ((t - 2) % 16) 0 >>> 10)) + ws.getD ((t - 7) % 16) 0) + ((rotr (ws.getD ((t - 15) % 16) 0) 7 ^^^ rotr (ws.getD ((t - 15) % 16) 0) 18) ^^^ (ws.getD ((t - 15) % 16) 0 >>> 3)))
def pw (ws : List UInt32) (t : Nat) : List UInt32 := if 16 ≤ t then ws.set (t % 16) (pnew ws t) else ws
def pst (s : S8) (ws : List UInt32) : Nat → List UInt32 × S8
 | 0 => (ws, s)
 | t + 1 => (pw (pst s ws t).1 t, (pst s ws t).2.round (Kw.getD t 0) ((pw (pst s ws t).1 t).getD (t % 16) 0))
theorem pw_length (ws : List UInt32) (t : Nat) : (pw ws t).length = ws.length := by unfold pw; split <;> simp
theorem pst_length (s : S8) (ws : List UInt32) (t : Nat) : (pst s ws t).1.length = ws.length := by
 induction t with
 | zero => rfl
 | succ t ih => simp [pst, pw_length, ih]
def process (s : S8) (ws : List UInt32) : S8 := (pst s ws 64).2.plus s
set_option maxHeartbeats 400000 in
set_option maxRecDepth 10000 in
theorem f124_spec (s o : S8) :
  Spec Tryz.prog 124 [.agg s.cells.toArray, .agg o.cells.toArray] [] [] (R := Unit) (fun _ => True) (fun _ => .agg (s.plus o).cells.toArray) (fun _ => []) := by
 refine Spec.intro Tryz.func124 Tryz.ntmps124 rfl (by simp) (by simp) fun w0 => ?_
 refine W240 ?_
 refine wl1 (op_box (lt_ rfl) rfl rfl) rfl fun b1 => ?_
 refine wl1 (op_box (lt_ rfl) rfl rfl) rfl fun b2 => ?_
 refine wl1 (op_alloc ti198 (lt_ rfl)) rfl fun b3 => ?_
 refine W2 ?_
 refine W47 ?_
 refine W249 ?_
 refine wlv (op_fieldAddr fo198_0 (lt_ rfl) rfl) rfl ?_
 refine W32 ?_
 refine wlv (op_fieldAddr fo198_0 (lt_ rfl) rfl) rfl ?_
 refine W32 ?_
 refine W83 ?_
 refine wlv (op_fieldAddr fo198_1 (lt_ rfl) rfl) rfl ?_
 refine W32 ?_
 refine wlv (op_fieldAddr fo198_1 (lt_ rfl) rfl) rfl ?_
 refine W32 ?_
 refine W83 ?_
 refine wlv (op_fieldAddr fo198_2 (lt_ rfl) rfl) rfl ?_
 refine W32 ?_
 refine wlv (op_fieldAddr fo198_2 (lt_ rfl) rfl) rfl ?_
 refine W32 ?_
 refine W83 ?_
 refine wlv (op_fieldAddr fo198_3 (lt_ rfl) rfl) rfl ?_
 refine W32 ?_
 refine wlv (op_fieldAddr fo198_3 (lt_ rfl) rfl) rfl ?_
 refine W32 ?_
 refine W83 ?_
 refine wlv (op_fieldAddr fo198_4 (lt_ rfl) rfl) rfl ?_
 refine W32 ?_
 refine wlv (op_fieldAddr fo198_4 (lt_ rfl) rfl) rfl ?_
 refine W32 ?_
 refine W83 ?_
 refine wlv (op_fieldAddr fo198_5 (lt_ rfl) rfl) rfl ?_
 refine W32 ?_
 refine wlv (op_fieldAddr fo198_5 (lt_ rfl) rfl) rfl ?_
 refine W32 ?_
 refine W83 ?_
 refine wlv (op_fieldAddr fo198_6 (lt_ rfl) rfl) rfl ?_
 refine W32 ?_
 refine wlv (op_fieldAddr fo198_6 (lt_ rfl) rfl) rfl ?_
 refine W32 ?_
 refine W83 ?_
 refine wlv (op_fieldAddr fo198_7 (lt_ rfl) rfl) rfl ?_
 refine W32 ?_
 refine wlv (op_fieldAddr fo198_7 (lt_ rfl) rfl) rfl ?_
 refine W32 ?_
 refine W83 ?_
 refine wlv (op_build (cs := (s.plus o).cells) (pv := [(0, _), (1, _), (2, _), (3, _), (4, _), (5, _), (6, _), (7, _)]) (lt_ rfl) rfl (by kernel_rfl)) rfl ?_
 refine W307 ?_
 refine W322 ?_
 exact Fin.ret1 xI (()) (trivial) Tryz.results124 (.cellN rfl ag198 xM xL) xT (by simp)
set_option maxHeartbeats 400000 in
set_option maxRecDepth 10000 in
theorem f116_spec :
  Spec Tryz.prog 116 [] [] [] (R := Unit) (fun _ => True) (fun _ => .agg S8.init.cells.toArray) (fun _ => []) := by
 refine Spec.intro Tryz.func116 Tryz.ntmps116 rfl (by simp) (by simp) fun w0 => ?_
 refine W240 ?_
 refine wl1 (op_alloc ti198 (lt_ rfl)) rfl fun b1 => ?_
 refine W2 ?_
 refine W31 ?_
 refine W249 ?_
 refine wlv (op_build (cs := S8.init.cells) (pv := [(0, _), (1, _), (2, _), (3, _), (4, _), (5, _), (6, _), (7, _)]) (lt_ rfl) rfl (by kernel_rfl)) rfl ?_
 refine W307 ?_
 refine W31 ?_
 refine W242 ?_
 exact Fin.ret1 xI (()) (trivial) Tryz.results116 (.cellN rfl ag198 xM xL) xT (by simp)
set_option maxHeartbeats 400000 in
set_option maxRecDepth 10000 in
theorem f121_spec :
  Spec Tryz.prog 121 [] [] [] (R := Unit) (fun _ => True) (fun _ => .agg (wvs Kw).toArray) (fun _ => []) := by
 refine Spec.intro Tryz.func121 Tryz.ntmps121 rfl (by simp) (by simp) fun w0 => ?_
 refine W240 ?_
 refine wl1 (op_alloc ti183 (lt_ rfl)) rfl fun b1 => ?_
 refine W2 ?_
 refine W31 ?_
 refine W249 ?_
 refine W227 ?_
 refine W360 ?_
 refine W31 ?_
 refine W242 ?_
 exact Fin.ret1 xI (()) (trivial) Tryz.results121 (.cellN rfl ag183 xM xL) xT (by simp)
set_option maxHeartbeats 400000 in
set_option maxRecDepth 10000 in
theorem f104_spec :
  Spec Tryz.prog 104 [] [] [] (R := Unit) (fun _ => True) (fun _ => .agg (wvs Kw).toArray) (fun _ => []) := by
 refine Spec.intro Tryz.func104 Tryz.ntmps104 rfl (by simp) (by simp) fun w0 => ?_
 refine W240 ?_
 refine wl1 (op_alloc ti183 (lt_ rfl)) rfl fun b1 => ?_
 refine W2 ?_
 refine W31 ?_
 refine W249 ?_
 refine W227 ?_
 refine W360 ?_
 refine W31 ?_
 refine W242 ?_
 exact Fin.ret1 xI (()) (trivial) Tryz.results104 (.cellN rfl ag183 xM xL) xT (by simp)
set_option maxHeartbeats 400000 in
set_option maxRecDepth 10000 in
theorem f120_spec (A : Option Addr) (m c : Nat) (bs : List UInt8) (hm : 64 ≤ m) (hl : bs.length = m) (hm2 : m < 4611686018427387904) :
  Spec Tryz.prog 120 [.slice A m c] [] [rd (.slice A m c) 1 m (bvs bs)] (R := Unit) (fun _ => True) (fun _ => .agg (wvs (wds bs 16)).toArray) (fun _ => []) := by
 refine Spec.intro Tryz.func120 Tryz.ntmps120 rfl (by simp) (by simp) fun w0 => ?_
 refine W240 ?_
 refine wl1 (op_alloc ti205 (lt_ rfl)) rfl fun b1 => ?_
 refine W2 ?_
 refine W63 ?_
 refine W249 ?_
 refine wl1 (op_alloc ti205 (lt_ rfl)) rfl fun b2 => ?_
 refine W2 ?_
 refine WX.regs (L' := [(0, _), (2, _), (3, _)]) ?_
 refine W269 ?_
 refine W272 ?_
 refine WX.regs (L' := [(0, _), (2, _), (3, _), (5, _)]) ?_
 refine W294 ?_
 refine WC.loop (X := Nat) (fun i => 16 - i) (fun i => i ≤ 16) (fun i => [(0, .slice A m c), (2, .pointer (some ⟨b1, 0, none⟩)), (3, .pointer (some ⟨b2, 0, none⟩)), (5, .int .i64 (i : Int))]) (fun i => [blk b2 (wvs (wds bs i ++ List.replicate (16 - i) 0)) 205, blk b1 (List.replicate 16 (.int .u32 0)) 205, rd (.slice A m c) 1 m (bvs bs), frameC w0 (MutF [])]) (0) (by omega) (fun a w hs => hs.sub xY xT) ?_
 rintro i hi
 try dsimp only
 refine W312 ?_
 refine WX.regs (L' := [(0, _), (2, _), (3, _), (5, _), (6, _)]) ?_
 refine W327 ?_
 refine WC.cond rfl (fun h1 => ?_) (fun h1 => ?_)
 ·
  refine W298 ?_
  refine W4 ?_
  refine W241 ?_
  refine WX.regs (L' := [(0, _), (2, _), (3, _), (4, _), (5, _)]) ?_
  refine W0 ?_
  refine WC.drawnH mo 35 ?_
  refine W344 ?_
  refine W60 ?_
  refine W338 ?_
  refine WA.take (i := 5) rfl (by kernel_rfl) (fun _ _ _ h => h) rfl (op_loadS fl5 (lt_ rfl) rfl xS (bvs_at (k := 4 * i) (by omega) (by omega))) xT ?_
  refine W350 ?_
  refine W71 ?_
  refine W55 ?_
  refine WA.take (i := 10) rfl (by kernel_rfl) (fun _ _ _ h => h) rfl (op_mul (lt_ rfl) rfl rfl (by omega)) xT ?_
  refine WA.take (i := 11) rfl (by kernel_rfl) (fun _ _ _ h => h) rfl (op_add (lt_ rfl) rfl rfl (by omega)) xT ?_
  refine W220 ?_
  refine WA.take (i := 13) rfl (by kernel_rfl) (fun _ _ _ h => h) rfl (op_loadS fl5 (lt_ rfl) rfl xS (bvs_at (k := 4 * i + 1) (by omega) (by omega))) xT ?_
  refine W348 ?_
  refine WA.take (i := 16) rfl (by kernel_rfl) (fun _ _ _ h => h) rfl (op_or32 (lt_ rfl) rfl rfl) xT ?_
  refine W182 ?_
  refine WA.take (i := 18) rfl (by kernel_rfl) (fun _ _ _ h => h) rfl (op_move (lt_ rfl) rfl) xT ?_
  refine WA.take (i := 19) rfl (by kernel_rfl) (fun _ _ _ h => h) rfl (op_mul (lt_ rfl) rfl rfl (by omega)) xT ?_
  refine W337 ?_
  refine WA.take (i := 22) rfl (by kernel_rfl) (fun _ _ _ h => h) rfl (op_loadS fl5 (lt_ rfl) rfl xS (bvs_at (k := 4 * i + 2) (by omega) (by omega))) xT ?_
  refine W347 ?_
  refine WA.take (i := 25) rfl (by kernel_rfl) (fun _ _ _ h => h) rfl (op_or32 (lt_ rfl) rfl rfl) xT ?_
  refine WA.take (i := 26) rfl (by kernel_rfl) (fun _ _ _ h => h) rfl (op_move (lt_ rfl) rfl) xT ?_
  refine W180 ?_
  refine WA.take (i := 28) rfl (by kernel_rfl) (fun _ _ _ h => h) rfl (op_mul (lt_ rfl) rfl rfl (by omega)) xT ?_
  refine W326 ?_
  refine WA.take (i := 31) rfl (by kernel_rfl) (fun _ _ _ h => h) rfl (op_loadS fl5 (lt_ rfl) rfl xS (bvs_at (k := 4 * i + 3) (by omega) (by omega))) xT ?_
  refine WA.take (i := 32) rfl (by kernel_rfl) (fun _ _ _ h => h) rfl (op_conv832 (by kernel_rfl) Tryz.underlying181 (lt_ rfl) rfl) xT ?_
  refine WA.take (i := 33) rfl (by kernel_rfl) (fun _ _ _ h => h) rfl (op_or32 (lt_ rfl) rfl rfl) xT ?_
  refine WA.take (i := 34) rfl (by kernel_rfl) (fun _ _ _ h => h) rfl (op_indexArr Tryz.underlying205 sz181 (lt_ rfl) rfl rfl (by omega) (by omega)) xT ?_
  refine WA.stepo (G := []) (i := 35) (by kernel_rfl) rfl rfl (op_store sz181 rfl rfl xK xL xO (by simp; omega)) (fun h => absurd rfl h) ?_
  refine W19 ?_
  refine WX.blkEq (b := b2) (wvs (wds bs (i + 1) ++ List.replicate (16 - (i + 1)) 0)) xK ((wvs_put (k := i) (by omega) (by simp; omega)).trans (congrArg wvs (wds_put bs i (by omega)))) ?_
  refine WX.regs (L' := [(0, _), (2, _), (3, _), (5, _)]) ?_
  refine W330 ?_
  refine WX.regs (L' := [(0, _), (2, _), (3, _), (5, _)]) ?_
  refine WX.meet (i + 1) ⟨by omega, by omega⟩ (fun a w hs => hs.sub xY xT)
 ·
  refine W284 ?_
  obtain rfl : i = 16 := by omega
  rw [show wds bs 16 ++ List.replicate (16 - 16) 0 = wds bs 16 by simp]
  refine wlv (op_loadAll ag205 (lt_ rfl) rfl xM xL) rfl ?_
  refine wl (op_storeAll sz205 rfl rfl xK xL xO xL) rfl ?_
  refine W252 ?_
  refine W250 ?_
  exact Fin.ret1 xI (()) (trivial) Tryz.results120 (.cellN rfl ag205 xM xL) xT (by simp)
end Go.Proofs.YtkjlbedebmffgaaGreat.Sx
namespace Go.Proofs.YtkjlbedebmffgaaGreat.Sx
open Go.RowKit Go.Proofs.YtkjlbedebmffgaaGreat.Ty
attribute [local irreducible] blk own rd rx frameC
theorem wvs_atA {ws : List UInt32} {j k : Nat} (h : j = k) (hk : k < ws.length) : (wvs ws).toArray[j]? = some (wv (ws.getD k 0)) := by
 subst h
 simp [wvs, hk]
set_option maxHeartbeats 400000 in
set_option maxRecDepth 10000 in
theorem f119_spec (s : S8) (ws : List UInt32) (hl : ws.length = 16) :
  Spec Tryz.prog 119 [.agg s.cells.toArray, .agg (wvs ws).toArray] [] [] (R := Unit) (fun _ => True) (fun _ => .agg (process s ws).cells.toArray) (fun _ => []) := by
 refine Spec.intro Tryz.func119 Tryz.ntmps119 rfl (by simp) (by simp) fun w0 => ?_
 refine W240 ?_
 refine wl1 (op_box (lt_ rfl) rfl rfl) rfl fun b1 => ?_
 refine wl1 (op_box (lt_ rfl) rfl rfl) rfl fun b2 => ?_
 refine wl1 (op_alloc ti198 (lt_ rfl)) rfl fun b3 => ?_
 refine W2 ?_
 refine W47 ?_
 refine W249 ?_
 refine wlv (op_loadAll ag198 (lt_ rfl) rfl xM xL) rfl ?_
 refine wl1 (op_alloc ti198 (lt_ rfl)) rfl fun b4 => ?_
 refine W307 ?_
 refine W121 ?_
 refine W269 ?_
 refine wlx (op_call (f121_spec) ca121 (lt_ rfl) rfl) rfl ?_
 rintro r1 h1
 refine W272 ?_
 refine WX.regs (L' := [(2, _), (3, _), (4, _), (5, _), (12, _), (13, _)]) ?_
 refine W294 ?_
 refine WC.loop (X := Nat) (fun t => 64 - t) (fun t => t ≤ 64) (fun t => [(2, .pointer (some ⟨b1, 0, none⟩)), (3, .pointer (some ⟨b2, 0, none⟩)), (4, .pointer (some ⟨b3, 0, none⟩)), (5, .pointer (some ⟨b4, 0, none⟩)), (12, .agg (wvs Kw).toArray), (13, .int .i64 (t : Int))]) (fun t => [blk b2 (wvs (pst s ws t).1) 205, blk b4 (pst s ws t).2.cells 198, blk b1 s.cells 198, blk b3 (List.replicate 8 (.int .u32 0)) 198, frameC w0 (MutF [])]) (0) (by omega) (fun a w hs => hs.sub xY xT) ?_
 rintro t ht
 try dsimp only
 have hW : (pst s ws t).1.length = 16 := by rw [pst_length]; exact hl
 have hK := Kw_length
 have e16 : ((t : Int) % 16).toNat = t % 16 := by omega
 refine W312 ?_
 refine WX.regs (L' := [(2, _), (3, _), (4, _), (5, _), (12, _), (13, _), (14, _)]) ?_
 refine W327 ?_
 refine WC.cond rfl (fun h1 => ?_) (fun h1 => ?_)
 ·
  refine W298 ?_
  refine W4 ?_
  refine wlv (op_indexV Tryz.underlying183 sz181 fl181 (lt_ rfl) rfl rfl (by omega) (by omega) (wvs_atA (k := t) (by omega) (by omega))) rfl ?_
  refine W251 ?_
  refine WX.regs (L' := [(2, _), (3, _), (4, _), (5, _), (6, _), (7, _), (12, _), (13, _)]) ?_
  refine W261 ?_
  refine W78 ?_
  refine W241 ?_
  refine WX.regs (L' := [(2, _), (3, _), (4, _), (5, _), (6, _), (7, _), (8, _), (12, _), (13, _)]) ?_
  refine W0 ?_
  refine WC.cut (X := List UInt32) (fun q => q = pw (pst s ws t).1 t) (fun q => [(2, .pointer (some ⟨b1, 0, none⟩)), (3, .pointer (some ⟨b2, 0, none⟩)), (4, .pointer (some ⟨b3, 0, none⟩)), (5, .pointer (some ⟨b4, 0, none⟩)), (12, .agg (wvs Kw).toArray), (13, .int .i64 (t : Int)), (7, wv (Kw.getD t 0)), (8, .int .i64 ((t : Int) % 16))]) (fun q => [blk b2 (wvs q) 205, blk b4 (pst s ws t).2.cells 198, blk b1 s.cells 198, blk b3 (List.replicate 8 (.int .u32 0)) 198, frameC w0 (MutF [])]) ?_ ?_
  ·
   refine W351 ?_
   refine W66 ?_
   refine W2 ?_
   refine WX.regs (L' := [(2, _), (3, _), (4, _), (5, _), (6, _), (7, _), (8, _), (12, _), (13, _), (20, _)]) ?_
   refine W0 ?_
   refine WC.cond rfl (fun h2 => ?_) (fun h2 => ?_)
   ·
    refine W301 ?_
    refine W29 ?_
    refine WA.take (i := 1) rfl (by kernel_rfl) (fun _ _ _ h => h) rfl (op_sub (lt_ rfl) rfl rfl (by omega)) xT ?_
    refine WA.take (i := 2) rfl (by kernel_rfl) (fun _ _ _ h => h) rfl (op_rem (lt_ rfl) rfl rfl (by omega) (by omega)) xT ?_
    refine WA.take (i := 3) rfl (by kernel_rfl) (fun _ _ _ h => h) rfl (op_indexArr Tryz.underlying205 sz181 (lt_ rfl) rfl rfl (by omega) (by omega)) xT ?_
    refine WA.take (i := 4) rfl (by kernel_rfl) (fun _ _ _ h => h) rfl (op_load1 fl181 (lt_ rfl) rfl xM (wvs_at (k := (t - 15) % 16) (by omega) (by omega))) xT ?_
    refine W67 ?_
    refine WA.take (i := 6) rfl (by kernel_rfl) (fun _ _ _ h => h) rfl (op_sub (lt_ rfl) rfl rfl (by omega)) xT ?_
    refine WA.take (i := 7) rfl (by kernel_rfl) (fun _ _ _ h => h) rfl (op_rem (lt_ rfl) rfl rfl (by omega) (by omega)) xT ?_
    refine WA.take (i := 8) rfl (by kernel_rfl) (fun _ _ _ h => h) rfl (op_indexArr Tryz.underlying205 sz181 (lt_ rfl) rfl rfl (by omega) (by omega)) xT ?_
    refine WA.take (i := 9) rfl (by kernel_rfl) (fun _ _ _ h => h) rfl (op_load1 fl181 (lt_ rfl) rfl xM (wvs_at (k := (t - 2) % 16) (by omega) (by omega))) xT ?_
    refine W163 ?_
    refine W183 ?_
    refine W19 ?_
    refine WX.regs (L' := [(2, _), (3, _), (4, _), (5, _), (6, _), (7, _), (8, _), (9, _), (10, _), (12, _), (13, _)]) ?_
    refine W0 ?_
    refine WC.drawnH mo 28 ?_
    refine W29 ?_
    refine WA.take (i := 1) rfl (by kernel_rfl) (fun _ _ _ h => h) rfl (op_indexArr Tryz.underlying205 sz181 (lt_ rfl) rfl rfl (by omega) (by omega)) xT ?_
    refine WA.take (i := 2) rfl (by kernel_rfl) (fun _ _ _ h => h) rfl (op_load1 fl181 (lt_ rfl) rfl xM (wvs_at (k := t % 16) (by omega) (by omega))) xT ?_
    refine W77 ?_
    refine W67 ?_
    refine W71 ?_
    refine WA.take (i := 9) rfl (by kernel_rfl) (fun _ _ _ h => h) rfl (op_shr32 (lt_ rfl) rfl rfl (by decide)) xT ?_
    refine W122 ?_
    refine WA.take (i := 12) rfl (by kernel_rfl) (fun _ _ _ h => h) rfl (op_sub (lt_ rfl) rfl rfl (by omega)) xT ?_
    refine WA.take (i := 13) rfl (by kernel_rfl) (fun _ _ _ h => h) rfl (op_rem (lt_ rfl) rfl rfl (by omega) (by omega)) xT ?_
    refine WA.take (i := 14) rfl (by kernel_rfl) (fun _ _ _ h => h) rfl (op_indexArr Tryz.underlying205 sz181 (lt_ rfl) rfl rfl (by omega) (by omega)) xT ?_
    refine WA.take (i := 15) rfl (by kernel_rfl) (fun _ _ _ h => h) rfl (op_load1 fl181 (lt_ rfl) rfl xM (wvs_at (k := (t - 7) % 16) (by omega) (by omega))) xT ?_
    refine W182 ?_
    refine WA.take (i := 19) rfl (by kernel_rfl) (fun _ _ _ h => h) rfl (op_move (lt_ rfl) rfl) xT ?_
    refine WA.take (i := 22) rfl (by kernel_rfl) (fun _ _ _ h => h) rfl (op_move (lt_ rfl) rfl) xT ?_
    refine WA.take (i := 23) rfl (by kernel_rfl) (fun _ _ _ h => h) rfl (op_shr32 (lt_ rfl) rfl rfl (by decide)) xT ?_
    refine WA.stepx (i := 4) (by kernel_rfl) rfl rfl (op_call (f122_spec _ _ (by decide)) ca122 (lt_ rfl) rfl) (fun _ r => xT) ?_
    rintro r2 h2
    refine WA.stepx (i := 6) (by kernel_rfl) rfl rfl (op_call (f122_spec _ _ (by decide)) ca122 (lt_ rfl) rfl) (fun _ r => xT) ?_
    rintro r3 h3
    refine WA.take (i := 7) rfl (by kernel_rfl) (fun _ _ _ h => h) rfl (op_xor32 (lt_ rfl) rfl rfl) xT ?_
    refine WA.take (i := 10) rfl (by kernel_rfl) (fun _ _ _ h => h) rfl (op_xor32 (lt_ rfl) rfl rfl) xT ?_
    refine WA.take (i := 16) rfl (by kernel_rfl) (fun _ _ _ h => h) rfl (op_add32 (lt_ rfl) rfl rfl) xT ?_
    refine WA.stepx (i := 18) (by kernel_rfl) rfl rfl (op_call (f122_spec _ _ (by decide)) ca122 (lt_ rfl) rfl) (fun _ r => xT) ?_
    rintro r4 h4
    refine WA.stepx (i := 20) (by kernel_rfl) rfl rfl (op_call (f122_spec _ _ (by decide)) ca122 (lt_ rfl) rfl) (fun _ r => xT) ?_
    rintro r5 h5
    refine W181 ?_
    refine WA.take (i := 24) rfl (by kernel_rfl) (fun _ _ _ h => h) rfl (op_xor32 (lt_ rfl) rfl rfl) xT ?_
    refine WA.take (i := 25) rfl (by kernel_rfl) (fun _ _ _ h => h) rfl (op_add32 (lt_ rfl) rfl rfl) xT ?_
    refine WA.take (i := 26) rfl (by kernel_rfl) (fun _ _ _ h => h) rfl (op_add32 (lt_ rfl) rfl rfl) xT ?_
    refine WA.take (i := 27) rfl (by kernel_rfl) (fun _ _ _ h => h) rfl (op_indexArr Tryz.underlying205 sz181 (lt_ rfl) rfl rfl (by omega) (by omega)) xT ?_
    refine WA.stepo (G := []) (i := 28) (by kernel_rfl) rfl rfl (op_store sz181 rfl rfl xK xL xO (by simp; omega)) (fun h => absurd rfl h) ?_
    refine W19 ?_
    refine WX.blkEq (b := b2) (wvs (pw (pst s ws t).1 t)) xK ((wvs_put (k := t % 16) (by omega) (by omega)).trans (by unfold pw; rw [if_pos (by omega)]; rfl)) ?_
    refine WX.regs (L' := [(2, _), (3, _), (4, _), (5, _), (7, _), (8, _), (12, _), (13, _)]) ?_
    refine WX.meet (pw (pst s ws t).1 t) (rfl) (fun a w hs => hs.sub xY xT)
   ·
    refine W8 ?_
    refine WX.meet ((pst s ws t).1) (by unfold pw; rw [if_neg (by omega)]) (fun a w hs => hs.sub xY xT)
  ·intro q hq
   try dsimp only
   have hq2 : q.length = 16 := by rw [hq, pw_length]; exact hW
   refine WC.drawnH mo 6 ?_
   refine WA.take (i := 0) rfl (by kernel_rfl) (fun _ _ _ h => h) rfl (op_loadAll ag198 (lt_ rfl) rfl xM xL) xT ?_
   refine W39 ?_
   refine W60 ?_
   refine WA.take (i := 3) rfl (by kernel_rfl) (fun _ _ _ h => h) rfl (op_indexArr Tryz.underlying205 sz181 (lt_ rfl) rfl rfl (by omega) (by omega)) xT ?_
   refine WA.take (i := 4) rfl (by kernel_rfl) (fun _ _ _ h => h) rfl (op_load1 fl181 (lt_ rfl) rfl xM (wvs_at (k := t % 16) (by omega) (by omega))) xT ?_
   refine WA.stepx (i := 5) (by kernel_rfl) rfl rfl (op_call (f123_spec _ _ _) ca123 (lt_ rfl) rfl) (fun _ r => xT) ?_
   rintro r6 h6
   refine WA.stepo (G := []) (i := 6) (by kernel_rfl) rfl rfl (op_storeAll sz198 rfl rfl xK xL xO xL) (fun h => absurd rfl h) ?_
   refine W19 ?_
   refine WX.regs (L' := [(2, _), (3, _), (4, _), (5, _), (12, _), (13, _)]) ?_
   refine W330 ?_
   subst hq
   refine WX.regs (L' := [(2, _), (3, _), (4, _), (5, _), (12, _), (13, _)]) ?_
   refine WX.meet (t + 1) ⟨by omega, by omega⟩ (fun a w hs => hs.sub xY xT)
 ·
  refine W284 ?_
  obtain rfl : t = 64 := by omega
  refine wlv (op_loadAll ag198 (lt_ rfl) rfl xM xL) rfl ?_
  refine wlv (op_loadAll ag198 (lt_ rfl) rfl xM xL) rfl ?_
  refine wlx (op_call (f124_spec _ _) ca124 (lt_ rfl) rfl) rfl ?_
  rintro r7 h7
  refine W307 ?_
  refine W322 ?_
  exact Fin.ret1 xI (()) (trivial) Tryz.results119 (.cellN rfl ag198 xM xL) xT (by simp)
end Go.Proofs.YtkjlbedebmffgaaGreat.Sx
namespace Go.Proofs.YtkjlbedebmffgaaGreat.Sx
open Go.RowKit Go.Proofs.YtkjlbedebmffgaaGreat.Ty
attribute [local irreducible] blk own rd rx frameC
def hcells (s : S8) (R : Value) (n : Int) : List Value := s.cells ++ [R, .int .i64 n, .bool true]
def absorb (s : S8) (l : List UInt8) : Nat → S8
 | 0 => s
 | k + 1 => process (absorb s l k) (wds (l.drop (64 * k)) 16)
set_option maxHeartbeats 400000 in
set_option maxRecDepth 10000 in
theorem f113_spec :
  Spec Tryz.prog 113 [] [] [] (R := Nat) (fun _ => True) (fun r => .pointer (some ⟨r, 0, none⟩)) (fun r => [blk r (hcells S8.init (.slice none 0 0) 0) 201]) := by
 refine Spec.intro Tryz.func113 Tryz.ntmps113 rfl (by simp) (by simp) fun w0 => ?_
 refine W283 ?_
 refine WX.regs (L' := []) ?_
 refine W249 ?_
 refine wlx (op_call (f116_spec) ca116 (lt_ rfl) rfl) rfl ?_
 rintro r1 h1
 refine wlv (op_build (cs := (hcells S8.init (.slice none 0 0) 0)) (pv := [(0, _), (3, _)]) (lt_ rfl) rfl (by kernel_rfl)) rfl ?_
 refine wl1 (op_box (lt_ rfl) rfl rfl) rfl fun b1 => ?_
 refine W241 ?_
 refine W31 ?_
 refine W242 ?_
 exact Fin.ret1 xI (b1) (trivial) Tryz.results113 (.tmp rfl) xT (by simp)
set_option maxHeartbeats 400000 in
set_option maxRecDepth 10000 in
theorem f118_spec (hb : Nat) (s : S8) (A : Option Addr) (r c : Nat) (n : Int) (bs : List UInt8) (hr : r < 1000000) :
  Spec Tryz.prog 118 [.pointer (some ⟨hb, 0, none⟩)] [blk hb (hcells s (.slice A r c) n) 201] [rd (.slice A r c) 1 r (bvs bs)] (R := Nat × Option Addr × Nat) (fun _ => True)
   (fun q => .pointer (some ⟨q.1, 0, none⟩)) (fun q => [blk hb (hcells s (.slice A r c) n) 201, blk q.1 (hcells s (.slice q.2.1 r q.2.2) n) 201, rx (.slice q.2.1 r q.2.2) 1 r (bvs bs)]) := by
 refine Spec.intro Tryz.func118 Tryz.ntmps118 rfl (by simp) (by simp) fun w0 => ?_
 refine W300 ?_
 refine W282 ?_
 refine wlv (op_eqlnil Tryz.underlying194 (lt_ rfl) rfl rfl) rfl ?_
 refine W2 ?_
 refine WX.regs (L' := [(0, _), (5, _)]) ?_
 refine W281 ?_
 refine W323 ?_
 refine wlv (op_loadAll ag201 (lt_ rfl) rfl xM xL) rfl ?_
 refine wl1 (op_alloc ti201 (lt_ rfl)) rfl fun b1 => ?_
 refine wl (op_storeAll sz201 rfl rfl xK xL xO xL) rfl ?_
 refine W252 ?_
 refine W84 ?_
 refine W249 ?_
 refine wl1 (op_lit0 Tryz.underlying30 ti5 (lt_ rfl)) rfl fun b2 => ?_
 refine W4 ?_
 refine W27 ?_
 refine wlv (op_fieldAddr fo201_1 (lt_ rfl) rfl) rfl ?_
 refine W52 ?_
 refine wl2 (op_append0 Tryz.underlying30 ti5 rfl (by decide) (lt_ rfl) rfl rfl xK xS xO (by omega) (by omega)) rfl fun A1 c1 => ?_
 refine wlv (op_fieldAddr fo201_1 (lt_ rfl) rfl) rfl ?_
 refine W136 ?_
 refine W252 ?_
 refine WX.regs (L' := [(3, _)]) ?_
 refine W311 ?_
 refine WX.turn (c := own (.slice A1 r c1) 5 1 r (bvs bs)) xK own_le_rx ?_
 exact Fin.ret1 xI ((b1, A1, c1)) (trivial) Tryz.results118 (.tmp rfl) xT (by simp)
theorem drop_drop64 (l : List UInt8) (k : Nat) (m : Nat) (h : m = l.length - 64 * k) : ((bvs (l.drop (64 * k))).drop (64 * 1)).take ((m - 64) * 1) = bvs (l.drop (64 * (k + 1))) := by
 subst h
 simp only [bvs, Nat.mul_one, ← List.map_drop, List.drop_drop, ← List.map_take]
 rw [List.take_of_length_le (by simp; omega)]
 rfl
set_option maxHeartbeats 400000 in
set_option maxRecDepth 10000 in
theorem f117_spec (hb : Nat) (s : S8) (A B : Option Addr) (r c m cB : Nat) (n : Int) (rs bs : List UInt8) (hr : rs.length = r) (hm : bs.length = m) (hr' : r < 1000000) (hm' : m < 1000000) :
  Spec Tryz.prog 117 [.pointer (some ⟨hb, 0, none⟩), .slice B m cB] [blk hb (hcells s (.slice A r c) n) 201] [rd (.slice A r c) 1 r (bvs rs), rd (.slice B m cB) 1 m (bvs bs)] (R := Option Addr × Nat) (fun _ => True)
   (fun q => .tuple #[]) (fun q => [blk hb (hcells (absorb s (rs ++ bs) ((r + m) / 64)) (.slice q.1 ((r + m) % 64) q.2) n) 201, rx (.slice q.1 ((r + m) % 64) q.2) 1 ((r + m) % 64) (bvs ((rs ++ bs).drop (64 * ((r + m) / 64))))]) := by
 refine Spec.intro Tryz.func117 Tryz.ntmps117 rfl (by simp) (by simp) fun w0 => ?_
 refine W328 ?_
 refine W27 ?_
 refine wlv (op_fieldAddr fo201_3 (lt_ rfl) rfl) rfl ?_
 refine W72 ?_
 refine W85 ?_
 refine W2 ?_
 refine WX.regs (L' := [(0, _), (1, _), (9, _)]) ?_
 refine W281 ?_
 refine W249 ?_
 refine wl1 (op_lit0 Tryz.underlying30 ti5 (lt_ rfl)) rfl fun b1 => ?_
 refine W4 ?_
 refine W27 ?_
 refine wlv (op_fieldAddr fo201_1 (lt_ rfl) rfl) rfl ?_
 refine W52 ?_
 refine wl2 (op_append0 Tryz.underlying30 ti5 rfl (by decide) (lt_ rfl) rfl rfl xK xS xO (by omega) (by omega)) rfl fun A1 c1 => ?_
 refine W4 ?_
 refine wl2 (op_append Tryz.underlying30 ti5 rfl (by decide) (lt_ rfl) rfl rfl xK xS xO (by omega) (by omega)) rfl fun A2 c2 => ?_
 refine W241 ?_
 rw [← bvs_append]
 refine WX.turn (c := own (.slice A2 (r + m) c2) 5 1 (r + m) (bvs (rs ++ bs))) xK own_le_rx ?_
 refine W79 ?_
 refine W0 ?_
 refine W254 ?_
 refine WC.loop (X := Nat × Option Addr × Nat) (fun q => (r + m) - q.1) (fun q => 64 * q.1 ≤ r + m) (fun q => [(0, .pointer (some ⟨hb, 0, none⟩)), (4, .slice q.2.1 (r + m - 64 * q.1) q.2.2)]) (fun q => [blk hb (hcells (absorb s (rs ++ bs) q.1) (.slice A r c) n) 201, rx (.slice q.2.1 (r + m - 64 * q.1) q.2.2) 1 (r + m - 64 * q.1) (bvs ((rs ++ bs).drop (64 * q.1))), frameC w0 (MutF [blk hb (hcells s (.slice A r c) n) 201])]) ((0, A2, c2)) (by simp) (fun a w hs => hs.sub xY xT) ?_
 rintro ⟨k, Ak, ck⟩ hk
 try dsimp only at hk ⊢
 refine W328 ?_
 refine W38 ?_
 refine W66 ?_
 refine W2 ?_
 refine WX.regs (L' := [(0, _), (4, _), (27, _)]) ?_
 refine W0 ?_
 refine WC.cond rfl (fun h2 => ?_) (fun h2 => ?_)
 ·
  refine W262 ?_
  refine W11 ?_
  refine W1 ?_
  refine WC.drawnH mo 10 ?_
  refine W344 ?_
  refine WA.take (i := 2) rfl (by kernel_rfl) (fun _ _ _ h => h) rfl (op_nilCheck (lt_ rfl) rfl) xT ?_
  refine WA.take (i := 3) rfl (by kernel_rfl) (fun _ _ _ h => h) rfl (op_fieldAddr fo201_0 (lt_ rfl) rfl) xT ?_
  refine WA.take (i := 4) rfl (by kernel_rfl) (fun _ _ _ h => h) rfl (op_loadN ag198 (lt_ rfl) rfl xM rfl) xT ?_
  refine W67 ?_
  refine WA.stepx (i := 6) (by kernel_rfl) rfl rfl (op_call (f120_spec _ _ _ ((rs ++ bs).drop (64 * k)) (by omega) (by simp; omega) (by omega)) ca120 (lt_ rfl) rfl) (fun _ r => xT) ?_
  rintro r1 h1
  refine WA.stepx (i := 7) (by kernel_rfl) rfl rfl (op_call (f119_spec _ _ (wds_length _ _)) ca119 (lt_ rfl) rfl) (fun _ r => xT) ?_
  rintro r2 h2
  refine WA.take (i := 8) rfl (by kernel_rfl) (fun _ _ _ h => h) rfl (op_nilCheck (lt_ rfl) rfl) xT ?_
  refine WA.take (i := 9) rfl (by kernel_rfl) (fun _ _ _ h => h) rfl (op_fieldAddr fo201_0 (lt_ rfl) rfl) xT ?_
  refine WA.stepo (G := []) (i := 10) (by kernel_rfl) rfl rfl (op_store sz198 rfl rfl xK xL xO (by first | exact Nat.le_of_ble_eq_true rfl | (simp; omega))) (fun h => absurd rfl h) ?_
  refine W19 ?_
  refine W79 ?_
  refine W0 ?_
  refine W309 ?_
  refine W184 ?_
  refine W241 ?_
  refine WX.turn (c := rx (.slice Ak (r + m - 64 * k) ck) 1 (r + m - 64 * k) (bvs ((rs ++ bs).drop (64 * k)))) xK (rx_sub (l := 64) (h := r + m - 64 * k) (by omega) (by omega)) ?_
  rw [drop_drop64 _ _ _ (by simp; omega)]
  refine W79 ?_
  refine W18 ?_
  refine WX.meet ((k + 1, _, _)) ⟨by simp only []; omega, by simp only []; omega⟩ (fun a w hs => hs.sub xY xT)
 ·
  refine W264 ?_
  refine W0 ?_
  refine W334 ?_
  refine W27 ?_
  refine wlv (op_fieldAddr fo201_1 (lt_ rfl) rfl) rfl ?_
  refine W136 ?_
  refine W252 ?_
  refine WX.regs (L' := []) ?_
  obtain rfl : k = (r + m) / 64 := by omega
  rw [show r + m - 64 * ((r + m) / 64) = (r + m) % 64 by omega]
  exact Fin.ret0 xI ((Ak, ck)) (trivial) Tryz.results117 rfl  xT (by simp)
end Go.Proofs.YtkjlbedebmffgaaGreat.Sx
namespace Go.Proofs.YtkjlbedebmffgaaGreat.Sx
open Go.RowKit Go.Proofs.YtkjlbedebmffgaaGreat.Ty
attribute [local irreducible] blk own rd rx frameC
def zpad (N : Nat) : Nat := (119 - N % 64) % 64
def be8 (N : Nat) : List UInt8 := (List.range 8).map fun j => UInt8.ofNat (N * 8 / 2 ^ (8 * (7 - j)))
theorem be8_length (N : Nat) : (be8 N).length = 8 := by simp [be8]
abbrev plen (N : Nat) : Nat := zpad N + 1 + 8
def pad (N : Nat) : List UInt8 := 128 :: (List.replicate (zpad N) 0 ++ be8 N)
theorem pad_length (N : Nat) : (pad N).length = plen N := by simp [pad, be8_length]
theorem be8_step (N j : Nat) (h : j < 8) : bvs (128 :: (List.replicate (zpad N) 0 ++ (be8 N).take j)) ++ [bv (UInt8.ofNat (N * 8 / 2 ^ (8 * (7 - j))))] = bvs (128 :: (List.replicate (zpad N) 0 ++ (be8 N).take (j + 1))) := by
 have hl : j < (be8 N).length := by rw [be8_length]; exact h
 rw [List.take_succ_eq_append_getElem hl]
 simp [bvs, be8]
theorem sh8 (N j : Nat) (h : j ≤ 7) : ((N : Int) * 8 / ((2 ^ (8 * (7 - (j : Int))).toNat : Nat) : Int)).toNat = N * 8 / 2 ^ (8 * (7 - j)) := by
 have e1 : (8 * (7 - (j : Int))).toNat = 8 * (7 - j) := by omega
 rw [e1, show ((N : Int) * 8) = ((N * 8 : Nat) : Int) by omega, ← Int.natCast_ediv, Int.toNat_natCast]
theorem zeros_step (j : Nat) : bvs (128 :: List.replicate j 0) ++ [bv 0] = bvs (128 :: List.replicate (j + 1) 0) := by
 simp only [bvs, List.map_cons, List.map_replicate, List.cons_append]
 rw [List.replicate_succ']
def S8.list (s : S8) : List UInt32 := [s.a, s.b, s.c, s.d, s.e, s.f, s.g, s.h]
def wb (w : UInt32) : List UInt8 := [(w >>> 24).toUInt8, (w >>> 16).toUInt8, (w >>> 8).toUInt8, w.toUInt8]
def dig (s : S8) : List UInt8 := s.list.flatMap wb
theorem dig_length (s : S8) : (dig s).length = 32 := by simp [dig, S8.list, wb]
theorem flat_take (ws : List UInt32) (i : Nat) (h : i < ws.length) : (ws.take (i + 1)).flatMap wb = (ws.take i).flatMap wb ++ wb (ws.getD i 0) := by
 rw [List.take_succ_eq_append_getElem h, List.flatMap_append]
 simp [h]
theorem flat_length (ws : List UInt32) : (ws.flatMap wb).length = 4 * ws.length := by
 induction ws with
 | nil => rfl
 | cons w ws ih => simp [wb] at ih ⊢; omega
theorem bvs_put {bs : List UInt8} {j k : Nat} {x : UInt8} (h : j = k) (hk : k < bs.length) : pset (bvs bs) j (bv x).cells.toList = bvs (bs.set k x) := by
 subst h
 show pset (bvs bs) j [bv x] = _
 rw [pset_one _ _ _ (by simpa using hk)]
 simp [bvs, List.map_set]
theorem put4 (pre : List UInt8) (k : Nat) (w : UInt32) (i : Nat) (hp : pre.length = 4 * i) (hk : 0 < k) :
  ((((pre ++ List.replicate (4 * k) 0).set (4 * i) (w >>> 24).toUInt8).set (4 * i + 1) (w >>> 16).toUInt8).set (4 * i + 2) (w >>> 8).toUInt8).set (4 * i + 3) w.toUInt8 = (pre ++ wb w) ++ List.replicate (4 * (k - 1)) 0 := by
 obtain ⟨q, rfl⟩ : ∃ q, k = q + 1 := ⟨k - 1, by omega⟩
 have e : 4 * (q + 1) = 4 * q + 1 + 1 + 1 + 1 := by omega
 rw [e, ← hp]
 simp [List.replicate_succ, wb, List.set_append]
theorem regs_len (S : S8) (i : Nat) (h : i ≤ 8) : ((S.list.take i).flatMap wb ++ List.replicate (4 * (8 - i)) (0 : UInt8)).length = 32 := by
 rw [List.length_append, flat_length, List.length_take, List.length_replicate]
 simp [S8.list]
 omega
theorem regs_step (S : S8) (i : Nat) (h : i < 8) :
  ((((S.list.take i).flatMap wb ++ List.replicate (4 * (8 - i)) (0 : UInt8)).set (4 * i) ((S.list.getD i 0) >>> 24).toUInt8).set (4 * i + 1) ((S.list.getD i 0) >>> 16).toUInt8 |>.set (4 * i + 2) ((S.list.getD i 0) >>> 8).toUInt8).set (4 * i + 3) (S.list.getD i 0).toUInt8 =
   (S.list.take (i + 1)).flatMap wb ++ List.replicate (4 * (8 - (i + 1))) 0 := by
 rw [flat_take _ _ (by simp [S8.list]; omega)]
 rw [put4 _ (8 - i) _ i (by rw [flat_length, List.length_take]; simp [S8.list]; omega) (by omega)]
 rw [Nat.sub_sub]
set_option maxHeartbeats 400000 in
set_option maxRecDepth 10000 in
theorem f114_spec (hb : Nat) (s : S8) (A B : Option Addr) (r c m cB : Nat) (n : Nat) (rs bs : List UInt8) (hr : rs.length = r) (hm : bs.length = m) (hr' : r < 1000000) (hm' : m < 1000000) (hn : n < 1000000) :
  Spec Tryz.prog 114 [.pointer (some ⟨hb, 0, none⟩), .slice B m cB] [blk hb (hcells s (.slice A r c) n) 201] [rd (.slice A r c) 1 r (bvs rs), rd (.slice B m cB) 1 m (bvs bs)] (R := Option Addr × Nat) (fun _ => True)
   (fun q => .int .i64 0) (fun q => [blk hb (hcells (absorb s (rs ++ bs) ((r + m) / 64)) (.slice q.1 ((r + m) % 64) q.2) ((n + m : Nat) : Int)) 201, rx (.slice q.1 ((r + m) % 64) q.2) 1 ((r + m) % 64) (bvs ((rs ++ bs).drop (64 * ((r + m) / 64))))]) := by
 refine Spec.intro Tryz.func114 Tryz.ntmps114 rfl (by simp) (by simp) fun w0 => ?_
 refine W283 ?_
 refine W76 ?_
 refine W282 ?_
 refine wlv (op_eqlnil Tryz.underlying194 (lt_ rfl) rfl rfl) rfl ?_
 refine W2 ?_
 refine WX.regs (L' := [(0, _), (1, _), (6, _)]) ?_
 refine W281 ?_
 refine W299 ?_
 refine wlx (op_call (f117_spec hb s A B r c m cB n rs bs hr hm hr' hm') ca117 (lt_ rfl) rfl) rfl ?_
 rintro ⟨A1, c1⟩ _
 refine W2 ?_
 refine W76 ?_
 refine W323 ?_
 refine wlv (op_fieldAddr fo201_2 (lt_ rfl) rfl) rfl ?_
 refine W21 ?_
 refine W4 ?_
 refine W38 ?_
 refine W16 ?_
 refine W27 ?_
 refine wlv (op_fieldAddr fo201_2 (lt_ rfl) rfl) rfl ?_
 refine W61 ?_
 refine W252 ?_
 refine WX.regs (L' := []) ?_
 refine W249 ?_
 refine W241 ?_
 refine W322 ?_
 exact Fin.ret1 xI ((A1, c1)) (trivial) Tryz.results114 (.tmp rfl) xT (by simp)
set_option maxHeartbeats 400000 in
set_option maxRecDepth 10000 in
theorem f115_spec (hb : Nat) (s : S8) (A : Option Addr) (r c : Nat) (N : Nat) (rs : List UInt8) (hr : rs.length = r) (hr' : r < 100000) (hN : N < 1000000) :
  Spec Tryz.prog 115 [.pointer (some ⟨hb, 0, none⟩)] [blk hb (hcells s (.slice A r c) (N : Int)) 201] [rd (.slice A r c) 1 r (bvs rs)] (R := Unit) (fun _ => True)
   (fun _ => .agg (bvs (dig (absorb s (rs ++ pad N) ((r + plen N) / 64)))).toArray) (fun _ => [blk hb (hcells s (.slice A r c) (N : Int)) 201]) := by
 have hz : zpad N < 64 := by unfold zpad; omega
 generalize hS : absorb s (rs ++ pad N) ((r + plen N) / 64) = S
 refine Spec.intro Tryz.func115 Tryz.ntmps115 rfl (by simp) (by simp) fun w0 => ?_
 refine W240 ?_
 refine wl1 (op_alloc ti191 (lt_ rfl)) rfl fun b1 => ?_
 refine W2 ?_
 refine W63 ?_
 refine W282 ?_
 refine wlv (op_eqlnil Tryz.underlying194 (lt_ rfl) rfl rfl) rfl ?_
 refine W2 ?_
 refine WX.regs (L' := [(0, _), (2, _), (11, _)]) ?_
 refine W281 ?_
 refine W261 ?_
 refine wlx (op_call (f118_spec hb s A r c N rs (by omega)) ca118 (lt_ rfl) rfl) rfl ?_
 rintro ⟨nb, Ar, cr⟩ _
 refine W241 ?_
 refine W33 ?_
 refine W249 ?_
 refine wl1 (op_lit1 Tryz.underlying30 ti5 rfl (by decide) (lt_ rfl) rfl rfl) rfl fun b2 => ?_
 refine W241 ?_
 refine W47 ?_
 refine W0 ?_
 refine W254 ?_
 refine WC.loop (X := Nat × Option Addr × Nat) (fun q => zpad N - q.1) (fun q => q.1 ≤ zpad N) (fun q => [(2, .pointer (some ⟨b1, 0, none⟩)), (3, .pointer (some ⟨nb, 0, none⟩)), (4, .slice q.2.1 (q.1 + 1) q.2.2)]) (fun q => [own (.slice q.2.1 (q.1 + 1) q.2.2) 5 1 (q.1 + 1) (bvs (128 :: List.replicate q.1 0)), blk nb (hcells s (.slice Ar r cr) (N : Int)) 201, rx (.slice Ar r cr) 1 r (bvs rs), blk hb (hcells s (.slice A r c) (N : Int)) 201, blk b1 (List.replicate 32 (.int .u8 0)) 191, frameC w0 (MutF [blk hb (hcells s (.slice A r c) (N : Int)) 201])]) ((0, some ⟨b2, 0, none⟩, 1)) (Nat.zero_le _) (fun a w hs => hs.sub xY xT) ?_
 rintro ⟨j, Aj, cj⟩ hj
 try dsimp only at hj ⊢
 refine W328 ?_
 refine W27 ?_
 refine wlv (op_fieldAddr fo201_2 (lt_ rfl) rfl) rfl ?_
 refine W21 ?_
 refine W4 ?_
 refine W38 ?_
 refine W16 ?_
 refine W78 ?_
 refine W24 ?_
 refine W2 ?_
 refine WX.regs (L' := [(2, _), (3, _), (4, _), (24, _)]) ?_
 refine W0 ?_
 refine WC.cond rfl (fun h2 => ?_) (fun h2 => ?_)
 ·
  refine W262 ?_
  refine W11 ?_
  refine W309 ?_
  refine wl1 (op_lit1 Tryz.underlying30 ti5 rfl (by decide) (lt_ rfl) rfl rfl) rfl fun b3 => ?_
  refine wl2 (op_append Tryz.underlying30 ti5 rfl (by decide) (lt_ rfl) rfl rfl xK xS xO (by omega) (by omega)) rfl fun A1 c1 => ?_
  refine W241 ?_
  refine WX.ownEq (v := .slice A1 (j + 1 + 1) c1) _ xK (zeros_step j) ?_
  refine W47 ?_
  refine W18 ?_
  refine WX.meet ((j + 1, _, _)) ⟨by simp only []; unfold zpad at hj ⊢; omega, by simp only []; unfold zpad at hj ⊢; omega⟩ (fun a w hs => hs.sub xY xT)
 ·
  refine W264 ?_
  refine W310 ?_
  refine W121 ?_
  refine W294 ?_
  obtain rfl : j = zpad N := by unfold zpad at hj ⊢; omega
  rw [show bvs (128 :: List.replicate (zpad N) 0) = bvs (128 :: (List.replicate (zpad N) 0 ++ (be8 N).take 0)) by simp]
  refine WC.loop (X := Nat × Option Addr × Nat) (fun q => 8 - q.1) (fun q => q.1 ≤ 8) (fun q => [(2, .pointer (some ⟨b1, 0, none⟩)), (3, .pointer (some ⟨nb, 0, none⟩)), (4, .slice q.2.1 (zpad N + 1 + q.1) q.2.2), (5, .int .i64 (7 - (q.1 : Int)))]) (fun q => [own (.slice q.2.1 (zpad N + 1 + q.1) q.2.2) 5 1 (zpad N + 1 + q.1) (bvs (128 :: (List.replicate (zpad N) 0 ++ (be8 N).take q.1))), blk nb (hcells s (.slice Ar r cr) (N : Int)) 201, rx (.slice Ar r cr) 1 r (bvs rs), blk hb (hcells s (.slice A r c) (N : Int)) 201, blk b1 (List.replicate 32 (.int .u8 0)) 191, frameC w0 (MutF [blk hb (hcells s (.slice A r c) (N : Int)) 201])]) ((0, Aj, cj)) (Nat.zero_le _) (fun a w hs => hs.sub xY xT) ?_
  rintro ⟨j2, Ak, ck⟩ hk
  try dsimp only at hk ⊢
  refine W328 ?_
  refine W66 ?_
  refine W2 ?_
  refine WX.regs (L' := [(2, _), (3, _), (4, _), (5, _), (29, _)]) ?_
  refine W0 ?_
  refine WC.cond rfl (fun h3 => ?_) (fun h3 => ?_)
  ·
   refine W270 ?_
   refine W334 ?_
   refine W27 ?_
   refine wlv (op_fieldAddr fo201_2 (lt_ rfl) rfl) rfl ?_
   refine W21 ?_
   refine wlv (op_convi64u64 (by kernel_rfl) Tryz.underlying168 (lt_ rfl) rfl (by omega)) rfl ?_
   refine wlv (op_mul64 (lt_ rfl) rfl rfl (by omega)) rfl ?_
   refine W4 ?_
   refine W73 ?_
   refine wlv (op_shr64 (lt_ rfl) rfl rfl (by omega)) rfl ?_
   refine wlv (op_conv648 (by kernel_rfl) Tryz.underlying5 (lt_ rfl) rfl (Int.ediv_nonneg (by omega) (Int.natCast_nonneg _))) rfl ?_
   refine wl1 (op_lit1 Tryz.underlying30 ti5 rfl (by decide) (lt_ rfl) rfl rfl) rfl fun b4 => ?_
   refine wl2 (op_append Tryz.underlying30 ti5 rfl (by decide) (lt_ rfl) rfl rfl xK xS xO (by omega) (by omega)) rfl fun A2 c2 => ?_
   refine W241 ?_
   rw [sh8 N j2 (by omega)]
   refine WX.ownEq (v := .slice A2 (zpad N + 1 + j2 + 1) c2) _ xK (be8_step N j2 (by omega)) ?_
   refine W121 ?_
   refine W308 ?_
   refine W309 ?_
   refine W94 ?_
   refine W241 ?_
   refine W121 ?_
   refine WX.meet ((j2 + 1, _, _)) ⟨by simp only []; omega, by simp only []; omega⟩ (fun a w hs => hs.sub xY xT)
  ·
   refine W284 ?_
   obtain rfl : j2 = 8 := by omega
   rw [show bvs (128 :: (List.replicate (zpad N) 0 ++ List.take 8 (be8 N))) = bvs (pad N) by rw [List.take_of_length_le (by rw [be8_length]; omega)]; rfl]
   refine W244 ?_
   refine wlx (op_call (f117_spec nb s Ar Ak r cr (plen N) ck N rs (pad N) hr (pad_length N) (by omega) (by show zpad N + 1 + 8 < 1000000; omega)) ca117 (lt_ rfl) rfl) rfl ?_
   rintro ⟨At, ct⟩ _
   rw [hS]
   refine W2 ?_
   refine W33 ?_
   refine W249 ?_
   refine wl1 (op_alloc ti191 (lt_ rfl)) rfl fun b5 => ?_
   refine W2 ?_
   refine WX.regs (L' := [(2, _), (3, _), (6, _)]) ?_
   refine W323 ?_
   refine wlv (op_fieldAddr fo201_0 (lt_ rfl) rfl) rfl ?_
   refine wlv (op_loadN ag198 (lt_ rfl) rfl xM rfl) rfl ?_
   refine wl1 (op_alloc ti198 (lt_ rfl)) rfl fun b6 => ?_
   refine W307 ?_
   refine WX.regs (L' := [(2, _), (6, _), (7, _)]) ?_
   refine W269 ?_
   refine wlv (op_fieldAddr fo198_0 (lt_ rfl) rfl) rfl ?_
   refine W32 ?_
   refine wlv (op_fieldAddr fo198_1 (lt_ rfl) rfl) rfl ?_
   refine W32 ?_
   refine wlv (op_fieldAddr fo198_2 (lt_ rfl) rfl) rfl ?_
   refine W32 ?_
   refine wlv (op_fieldAddr fo198_3 (lt_ rfl) rfl) rfl ?_
   refine W32 ?_
   refine wlv (op_fieldAddr fo198_4 (lt_ rfl) rfl) rfl ?_
   refine W32 ?_
   refine wlv (op_fieldAddr fo198_5 (lt_ rfl) rfl) rfl ?_
   refine W32 ?_
   refine wlv (op_fieldAddr fo198_6 (lt_ rfl) rfl) rfl ?_
   refine W32 ?_
   refine wlv (op_fieldAddr fo198_7 (lt_ rfl) rfl) rfl ?_
   refine W32 ?_
   refine wlv (op_build (cs := (wvs S.list)) (pv := [(0, _), (1, _), (2, _), (3, _), (4, _), (5, _), (6, _), (7, _)]) (lt_ rfl) rfl (by kernel_rfl)) rfl ?_
   refine W272 ?_
   refine WX.regs (L' := [(2, _), (6, _), (68, _), (69, _)]) ?_
   refine W294 ?_
   refine WC.loop (X := Nat) (fun i => 8 - i) (fun i => i ≤ 8) (fun i => [(2, .pointer (some ⟨b1, 0, none⟩)), (6, .pointer (some ⟨b5, 0, none⟩)), (68, .agg (wvs S.list).toArray), (69, .int .i64 (i : Int))]) (fun i => [blk b5 (bvs ((S.list.take i).flatMap wb ++ List.replicate (4 * (8 - i)) 0)) 191, blk hb (hcells s (.slice A r c) (N : Int)) 201, blk b1 (List.replicate 32 (.int .u8 0)) 191, frameC w0 (MutF [blk hb (hcells s (.slice A r c) (N : Int)) 201])]) (0) (Nat.zero_le _) (fun a w hs => hs.sub xY xT) ?_
   rintro i hi
   try dsimp only
   have hX := regs_len S i hi
   refine W312 ?_
   refine WX.regs (L' := [(2, _), (6, _), (68, _), (69, _), (70, _)]) ?_
   refine W327 ?_
   refine WC.cond rfl (fun h4 => ?_) (fun h4 => ?_)
   ·
    refine W298 ?_
    refine W4 ?_
    refine wlv (op_indexV Tryz.underlying182 sz181 fl181 (lt_ rfl) rfl rfl (by omega) (by omega) (wvs_atA (k := i) (by omega) (by simp [S8.list]; omega))) rfl ?_
    refine W251 ?_
    refine WX.regs (L' := [(2, _), (6, _), (8, _), (9, _), (68, _), (69, _)]) ?_
    refine W0 ?_
    refine W309 ?_
    refine W73 ?_
    refine W4 ?_
    refine W73 ?_
    refine W16 ?_
    refine W4 ?_
    refine W73 ?_
    refine W16 ?_
    refine W4 ?_
    refine W73 ?_
    refine W16 ?_
    refine W4 ?_
    refine wlv (op_shr32 (lt_ rfl) rfl rfl (by decide)) rfl ?_
    refine W164 ?_
    refine W4 ?_
    refine wlv (op_shr32 (lt_ rfl) rfl rfl (by decide)) rfl ?_
    refine W164 ?_
    refine W4 ?_
    refine wlv (op_shr32 (lt_ rfl) rfl rfl (by decide)) rfl ?_
    refine W164 ?_
    refine W4 ?_
    refine W164 ?_
    refine W185 ?_
    refine W186 ?_
    refine W10 ?_
    refine WL.blkEq (b := b5) _ xK (bvs_put (k := 4 * i + 0) (by omega) (by simp only [List.length_set, hX]; omega)) ?_
    refine W185 ?_
    refine W186 ?_
    refine W10 ?_
    refine WL.blkEq (b := b5) _ xK (bvs_put (k := 4 * i + 1) (by omega) (by simp only [List.length_set, hX]; omega)) ?_
    refine W185 ?_
    refine W186 ?_
    refine W10 ?_
    refine WL.blkEq (b := b5) _ xK (bvs_put (k := 4 * i + 2) (by omega) (by simp only [List.length_set, hX]; omega)) ?_
    refine W185 ?_
    refine W186 ?_
    refine W10 ?_
    refine WL.blkEq (b := b5) (bvs ((S.list.take (i + 1)).flatMap wb ++ List.replicate (4 * (8 - (i + 1))) 0)) xK ((bvs_put (k := 4 * i + 3) (by omega) (by simp only [List.length_set, hX]; omega)).trans (congrArg bvs (regs_step S i (by omega)))) ?_
    refine W2 ?_
    refine WX.regs (L' := [(2, _), (6, _), (68, _), (69, _)]) ?_
    refine W330 ?_
    refine WX.regs (L' := [(2, _), (6, _), (68, _), (69, _)]) ?_
    refine WX.meet (i + 1) ⟨by omega, by omega⟩ (fun a w hs => hs.sub xY xT)
   ·
    refine W284 ?_
    obtain rfl : i = 8 := by omega
    refine WL.blkEq (b := b5) (bvs (dig S)) xK (by simp [dig, S8.list]) ?_
    refine wlv (op_loadAll ag191 (lt_ rfl) rfl xM (by rw [bvs_length, dig_length])) rfl ?_
    refine wl (op_storeAll sz191 rfl rfl xK (by simp [Value.cells, dig_length]) xO xL) rfl ?_
    refine W252 ?_
    refine W250 ?_
    exact Fin.ret1 xI (()) (trivial) Tryz.results115 (.cellN rfl ag191 xM xL) xT (by simp)
end Go.Proofs.YtkjlbedebmffgaaGreat.Sx
namespace Go.Proofs.YtkjlbedebmffgaaGreat.Sx
open Go.RowKit Go.Proofs.YtkjlbedebmffgaaGreat.Ty
attribute [local irreducible] blk own rd rx frameC
theorem getD_app (l e : List UInt8) (i : Nat) (h : i < l.length) : (l ++ e).getD i 0 = l.getD i 0 := by
 simp [List.getD_eq_getElem?_getD, List.getElem?_append, h]
theorem wds_app (l e : List UInt8) (h : 64 ≤ l.length) : wds (l ++ e) 16 = wds l 16 := by
 unfold wds
 apply List.map_congr_left
 intro j hj
 have hj := List.mem_range.1 hj
 unfold wd
 rw [getD_app _ _ _ (by omega), getD_app _ _ _ (by omega), getD_app _ _ _ (by omega), getD_app _ _ _ (by omega)]
theorem absorb_app (s : S8) (l e : List UInt8) : ∀ k, 64 * k ≤ l.length → absorb s (l ++ e) k = absorb s l k := by
 intro k
 induction k with
 | zero => intro _; rfl
 | succ k ih =>
  intro h
  simp only [absorb]
  rw [ih (by omega), List.drop_append_of_le_length (by omega), wds_app _ _ (by simp; omega)]
theorem absorb_more (s : S8) (l e : List UInt8) (k : Nat) (h : 64 * k ≤ l.length) : ∀ j, absorb (absorb s l k) (l.drop (64 * k) ++ e) j = absorb s (l ++ e) (k + j) := by
 intro j
 induction j with
 | zero => exact (absorb_app s l e k h).symm
 | succ j ih =>
  have e1 : k + (j + 1) = (k + j) + 1 := by omega
  rw [e1]
  simp only [absorb]
  rw [ih, ← List.drop_append_of_le_length h, List.drop_drop, ← Nat.mul_add]
def sha (bs : List UInt8) : List UInt8 := dig (absorb S8.init (bs ++ pad bs.length) ((bs.length + plen bs.length) / 64))
theorem sha_length (bs : List UInt8) : (sha bs).length = 32 := dig_length _
theorem sha_parts (bs : List UInt8) (m : Nat) (h : bs.length = m) :
  dig (absorb (absorb S8.init bs (m / 64)) (bs.drop (64 * (m / 64)) ++ pad m) ((m % 64 + plen m) / 64)) = sha bs := by
 subst h
 rw [absorb_more _ _ _ _ (by omega)]
 unfold sha
 congr 2
 omega
theorem rd_dropB {A : Option Addr} {c m l : Nat} {bs : List UInt8} (h : bs.length = m) (hl : l ≤ m) : (rd (sliced A l m c 1) 1 (m - l) (bvs (bs.drop l))).Le (rd (.slice A m c) 1 m (bvs bs)) := by
 have k := rd_sub (A := A) (c := c) (m := m) (sz := 1) (l := l) (h := m) (xs := bvs bs) hl (Nat.le_refl _)
 have e : ((bvs bs).drop (l * 1)).take ((m - l) * 1) = bvs (bs.drop l) := by
  rw [Nat.mul_one, Nat.mul_one, List.take_of_length_le (by simp; omega)]
  simp [bvs]
 rwa [e] at k
theorem rd_subB {A : Option Addr} {c m l h : Nat} {bs : List UInt8} (hl : l ≤ h) (hh : h ≤ m) : (rd (sliced A l h c 1) 1 (h - l) (bvs ((bs.drop l).take (h - l)))).Le (rd (.slice A m c) 1 m (bvs bs)) := by
 have k := rd_sub (A := A) (c := c) (m := m) (sz := 1) (l := l) (h := h) (xs := bvs bs) hl hh
 have e : ((bvs bs).drop (l * 1)).take ((h - l) * 1) = bvs ((bs.drop l).take (h - l)) := by
  rw [Nat.mul_one, Nat.mul_one]
  simp [bvs]
 rwa [e] at k
set_option maxHeartbeats 400000 in
set_option maxRecDepth 10000 in
theorem f111_spec (A : Option Addr) (m c : Nat) (bs : List UInt8) (hm : bs.length = m) (hm' : m < 100000) :
  Spec Tryz.prog 111 [.slice A m c] [] [rd (.slice A m c) 1 m (bvs bs)] (R := Unit) (fun _ => True) (fun _ => .agg (bvs (sha bs)).toArray) (fun _ => []) := by
 refine Spec.intro Tryz.func111 Tryz.ntmps111 rfl (by simp) (by simp) fun w0 => ?_
 refine W240 ?_
 refine wl1 (op_alloc ti191 (lt_ rfl)) rfl fun b1 => ?_
 refine W2 ?_
 refine W63 ?_
 refine W249 ?_
 refine wlx (op_call (f113_spec) ca113 (lt_ rfl) rfl) rfl ?_
 rintro hb _
 refine W241 ?_
 refine WX.regs (L' := [(0, _), (2, _), (3, _)]) ?_
 refine W299 ?_
 refine WL.nilrd 1 ?_
 refine wlx (op_call (f114_spec hb S8.init none A 0 0 m c 0 [] bs rfl hm (by omega) (by omega) (by omega)) ca114 (lt_ rfl) rfl) rfl ?_
 rintro ⟨Ar, cr⟩ _
 rw [List.nil_append, Nat.zero_add]
 refine W2 ?_
 refine W33 ?_
 refine W261 ?_
 refine wlx (op_call (f115_spec hb (absorb S8.init bs (m / 64)) Ar (m % 64) cr m (bs.drop (64 * (m / 64))) (by simp; omega) (by omega) (by omega)) ca115 (lt_ rfl) rfl) rfl ?_
 rintro _ _
 rw [sha_parts bs m hm]
 refine wl (op_storeAll sz191 rfl rfl xK (by simp [Value.cells, sha_length]) xO xL) rfl ?_
 refine W252 ?_
 refine W250 ?_
 exact Fin.ret1 xI (()) (trivial) Tryz.results111 (.cellN rfl ag191 xM xL) xT (by simp)
set_option maxHeartbeats 400000 in
set_option maxRecDepth 10000 in
theorem f102_spec (A : Option Addr) (m c : Nat) (bs : List UInt8) (hm : bs.length = m) (hm' : m < 100000) :
  Spec Tryz.prog 102 [.slice A m c] [] [rd (.slice A m c) 1 m (bvs bs)] (R := Unit) (fun _ => True) (fun _ => .agg (bvs ((sha bs).take 16)).toArray) (fun _ => []) := by
 refine Spec.intro Tryz.func102 Tryz.ntmps102 rfl (by simp) (by simp) fun w0 => ?_
 refine W240 ?_
 refine wl1 (op_alloc ti177 (lt_ rfl)) rfl fun b1 => ?_
 refine W2 ?_
 refine W63 ?_
 refine W261 ?_
 refine wlx (op_call (f111_spec A m c bs hm hm') ca111 (lt_ rfl) rfl) rfl ?_
 rintro r1 h1
 refine wl1 (op_alloc ti191 (lt_ rfl)) rfl fun b2 => ?_
 refine wl (op_storeAll sz191 rfl rfl xK (by simp [Value.cells, sha_length]) xO xL) rfl ?_
 refine W252 ?_
 refine W33 ?_
 refine W249 ?_
 refine wlv (op_sliceArr_h Tryz.underlying191 sz5 (lt_ rfl) rfl rfl (by decide) (by decide)) rfl ?_
 refine wlv (op_sl2arr Tryz.underlying177 (lt_ rfl) rfl (by decide)) rfl ?_
 refine wlv (op_loadN ag177 (lt_ rfl) rfl xM rfl) rfl ?_
 refine wl (op_storeAll sz177 rfl rfl xK xL xO xL) rfl ?_
 refine W252 ?_
 refine W250 ?_
 exact Fin.ret1 xI (()) (trivial) Tryz.results102 (.cellN rfl ag177 xM xL) xT (by simp)
set_option maxHeartbeats 400000 in
set_option maxRecDepth 10000 in
theorem f87_spec (A : Option Addr) (m c : Nat) (bs : List UInt8) (hm : bs.length = m) (hm' : m < 100000) (h16 : 16 ≤ m) :
  Spec Tryz.prog 87 [.slice A m c] [] [rd (.slice A m c) 1 m (bvs bs)] (R := Unit) (fun _ => True) (fun _ => .agg (bvs ((sha (bs.drop 16)).take 16)).toArray) (fun _ => []) := by
 refine Spec.intro Tryz.func87 Tryz.ntmps87 rfl (by simp) (by simp) fun w0 => ?_
 refine W240 ?_
 refine wl1 (op_alloc ti154 (lt_ rfl)) rfl fun b1 => ?_
 refine W2 ?_
 refine W63 ?_
 refine W261 ?_
 refine W184 ?_
 refine WL.dupr (v := .slice A m c) (sz := 1) (m := m) (xs := bvs bs) xM (rd_dropB (l := 16) hm (by omega)) ?_
 refine wlx (op_call (f102_spec _ (m - 16) (c - 16) (bs.drop 16) (by simp; omega) (by omega)) ca102 (lt_ rfl) rfl) rfl ?_
 rintro r1 h1
 refine wl (op_storeAll sz154 rfl rfl xK (by simp [Value.cells, sha_length]) xO xL) rfl ?_
 refine W252 ?_
 refine W250 ?_
 exact Fin.ret1 xI (()) (trivial) Tryz.results87 (.cellN rfl ag154 xM xL) xT (by simp)
end Go.Proofs.YtkjlbedebmffgaaGreat.Sx
namespace Go.Proofs.YtkjlbedebmffgaaGreat.Sx
open Go.RowKit Go.Proofs.YtkjlbedebmffgaaGreat.Ty
attribute [local irreducible] blk own rd rx frameC
theorem zeros_step2 (bs : List UInt8) (j : Nat) : bvs (bs ++ 128 :: List.replicate j 0) ++ [bv 0] = bvs (bs ++ 128 :: List.replicate (j + 1) 0) := by
 rw [bvs_append, List.append_assoc, zeros_step, ← bvs_append]
theorem be8_step2 (bs : List UInt8) (N j : Nat) (h : j < 8) : bvs (bs ++ 128 :: (List.replicate (zpad N) 0 ++ (be8 N).take j)) ++ [bv (UInt8.ofNat (N * 8 / 2 ^ (8 * (7 - j))))] = bvs (bs ++ 128 :: (List.replicate (zpad N) 0 ++ (be8 N).take (j + 1))) := by
 rw [bvs_append, List.append_assoc, be8_step _ _ h, ← bvs_append]
def rnew (ws : List UInt32) (t : Nat) : UInt32 :=
   ((((rotr (ws.getD (t - 2) 0) 17 ^^^ rotr (ws.getD (t - 2) 0) 19) ^^^ (ws.getD (t - 2) 0 >>> 10)) + ws.getD (t - 7) 0)
    + ((rotr (ws.getD (t - 15) 0) 7 ^^^ rotr (ws.getD (t - 15) 0) 18) ^^^ (ws.getD (t - 15) 0 >>> 3))) + ws.getD (t - 16) 0
def refW (bs : List UInt8) : Nat → List UInt32
 | 0 => []
 | t + 1 => refW bs t ++ [if t < 16 then wd bs t else rnew (refW bs t) t]
theorem refW_lo (bs : List UInt8) (t : Nat) (h : t < 16) : refW bs (t + 1) = refW bs t ++ [wd bs t] := by rw [refW, if_pos h]
theorem refW_hi (bs : List UInt8) (t : Nat) (h : ¬ t < 16) : refW bs (t + 1) = refW bs t ++ [rnew (refW bs t) t] := by rw [refW, if_neg h]
@[simp] theorem refW_length (bs : List UInt8) (t : Nat) : (refW bs t).length = t := by induction t <;> simp [refW, *]
attribute [irreducible] refW
theorem getD_pre {ws zs : List UInt32} {k : Nat} (h : k < ws.length) : (ws ++ zs).getD k 0 = ws.getD k 0 := by
 simp [List.getD_eq_getElem?_getD, List.getElem?_append, h]
theorem wvs_pre {ws zs : List UInt32} {j k : Nat} (h : j = k) (hk : k < ws.length) : (wvs (ws ++ zs))[j]? = some (wv (ws.getD k 0)) := by
 rw [wvs_at h (by simp; omega), getD_pre hk]
theorem set_next (ws : List UInt32) (t : Nat) (x : UInt32) (h : t < 64) (hl : ws.length = t) : (ws ++ List.replicate (64 - t) 0).set t x = (ws ++ [x]) ++ List.replicate (64 - (t + 1)) 0 := by
 obtain ⟨k, hk⟩ : ∃ k, 64 - t = k + 1 := ⟨64 - t - 1, by omega⟩
 have e2 : 64 - (t + 1) = k := by omega
 rw [hk, e2, List.replicate_succ, List.set_append_right (h := by omega)]
 simp [hl]
set_option maxHeartbeats 400000 in
set_option maxRecDepth 10000 in
theorem f105_spec (A : Option Addr) (m c : Nat) (bs : List UInt8) (hm : bs.length = m) (hm' : m < 100000) :
  Spec Tryz.prog 105 [.slice A m c] [] [rd (.slice A m c) 1 m (bvs bs)] (R := Option Addr × Nat) (fun _ => True) (fun q => .slice q.1 (m + (zpad m + 1) + 8) q.2) (fun q => [own (.slice q.1 (m + (zpad m + 1) + 8) q.2) 5 1 (m + (zpad m + 1) + 8) (bvs (bs ++ pad m))]) := by
 have hz : zpad m < 64 := by unfold zpad; omega
 refine Spec.intro Tryz.func105 Tryz.ntmps105 rfl (by simp) (by simp) fun w0 => ?_
 refine W300 ?_
 refine W249 ?_
 refine wl1 (op_lit0 Tryz.underlying30 ti5 (lt_ rfl)) rfl fun b1 => ?_
 refine W4 ?_
 refine wl2 (op_append0 Tryz.underlying30 ti5 rfl (by decide) (lt_ rfl) rfl rfl xK xS xO (by omega) (by omega)) rfl fun A1 c1 => ?_
 refine wl1 (op_lit1 Tryz.underlying30 ti5 rfl (by decide) (lt_ rfl) rfl rfl) rfl fun b2 => ?_
 refine wl2 (op_append Tryz.underlying30 ti5 rfl (by decide) (lt_ rfl) rfl rfl xK xS xO (by omega) (by omega)) rfl fun A2 c2 => ?_
 refine W241 ?_
 refine W84 ?_
 refine W0 ?_
 refine W254 ?_
 rw [show bvs bs ++ (Value.int IntKind.u8 128).cells.toList = bvs (bs ++ 128 :: List.replicate 0 0) by rw [bvs_append]; rfl]
 refine WC.loop (X := Nat × Option Addr × Nat) (fun q => zpad m - q.1) (fun q => q.1 ≤ zpad m) (fun q => [(0, .slice A m c), (3, .slice q.2.1 (m + (q.1 + 1)) q.2.2)]) (fun q => [own (.slice q.2.1 (m + (q.1 + 1)) q.2.2) 5 1 (m + (q.1 + 1)) (bvs (bs ++ 128 :: List.replicate q.1 0)), rd (.slice A m c) 1 m (bvs bs), frameC w0 (MutF [])]) ((0, A2, c2)) (Nat.zero_le _) (fun a w hs => hs.sub xY xT) ?_
 rintro ⟨j, Aj, cj⟩ hj
 try dsimp only at hj ⊢
 refine W328 ?_
 refine W38 ?_
 refine W78 ?_
 refine W24 ?_
 refine W2 ?_
 refine WX.regs (L' := [(0, _), (3, _), (14, _)]) ?_
 refine W0 ?_
 refine WC.cond rfl (fun h1 => ?_) (fun h1 => ?_)
 ·
  refine W262 ?_
  refine W11 ?_
  refine W309 ?_
  refine wl1 (op_lit1 Tryz.underlying30 ti5 rfl (by decide) (lt_ rfl) rfl rfl) rfl fun b3 => ?_
  refine wl2 (op_append Tryz.underlying30 ti5 rfl (by decide) (lt_ rfl) rfl rfl xK xS xO (by omega) (by omega)) rfl fun A3 c3 => ?_
  refine W241 ?_
  refine WX.ownEq (v := .slice A3 (m + (j + 1) + 1) c3) _ xK (zeros_step2 bs j) ?_
  refine W84 ?_
  refine W18 ?_
  refine WX.meet ((j + 1, _, _)) ⟨by simp only []; unfold zpad at hj ⊢; omega, by simp only []; unfold zpad at hj ⊢; omega⟩ (fun a w hs => hs.sub xY xT)
 ·
  refine W264 ?_
  refine W261 ?_
  refine W38 ?_
  refine wlv (op_convi64u64 (by kernel_rfl) Tryz.underlying168 (lt_ rfl) rfl (by omega)) rfl ?_
  refine wlv (op_mul64 (lt_ rfl) rfl rfl (by omega)) rfl ?_
  refine W241 ?_
  refine WX.regs (L' := [(3, _), (4, _)]) ?_
  refine W310 ?_
  refine WX.regs (L' := [(3, _), (4, _), (5, _)]) ?_
  refine W294 ?_
  obtain rfl : j = zpad m := by unfold zpad at hj ⊢; omega
  rw [show bvs (bs ++ 128 :: List.replicate (zpad m) 0) = bvs (bs ++ 128 :: (List.replicate (zpad m) 0 ++ (be8 m).take 0)) by simp]
  refine WC.loop (X := Nat × Option Addr × Nat) (fun q => 8 - q.1) (fun q => q.1 ≤ 8) (fun q => [(3, .slice q.2.1 (m + (zpad m + 1) + q.1) q.2.2), (4, .int .u64 ((m : Int) * 8)), (5, .int .i64 (7 - (q.1 : Int)))]) (fun q => [own (.slice q.2.1 (m + (zpad m + 1) + q.1) q.2.2) 5 1 (m + (zpad m + 1) + q.1) (bvs (bs ++ 128 :: (List.replicate (zpad m) 0 ++ (be8 m).take q.1))), frameC w0 (MutF [])]) ((0, Aj, cj)) (Nat.zero_le _) (fun a w hs => hs.sub xY xT) ?_
  rintro ⟨j2, Ak, ck⟩ hk
  try dsimp only at hk ⊢
  refine W328 ?_
  refine W66 ?_
  refine W2 ?_
  refine WX.regs (L' := [(3, _), (4, _), (5, _), (23, _)]) ?_
  refine W0 ?_
  refine WC.cond rfl (fun h2 => ?_) (fun h2 => ?_)
  ·
   refine W270 ?_
   refine W334 ?_
   refine W4 ?_
   refine W73 ?_
   refine wlv (op_shr64 (lt_ rfl) rfl rfl (by omega)) rfl ?_
   refine wlv (op_conv648 (by kernel_rfl) Tryz.underlying5 (lt_ rfl) rfl (Int.ediv_nonneg (by omega) (Int.natCast_nonneg _))) rfl ?_
   refine wl1 (op_lit1 Tryz.underlying30 ti5 rfl (by decide) (lt_ rfl) rfl rfl) rfl fun b4 => ?_
   refine wl2 (op_append Tryz.underlying30 ti5 rfl (by decide) (lt_ rfl) rfl rfl xK xS xO (by omega) (by omega)) rfl fun A4 c4 => ?_
   refine W241 ?_
   rw [sh8 m j2 (by omega)]
   refine WX.ownEq (v := .slice A4 (m + (zpad m + 1) + j2 + 1) c4) _ xK (be8_step2 bs m j2 (by omega)) ?_
   refine WX.regs (L' := [(3, _), (4, _), (5, _)]) ?_
   refine W308 ?_
   refine W309 ?_
   refine W94 ?_
   refine W241 ?_
   refine WX.regs (L' := [(3, _), (4, _), (5, _)]) ?_
   refine WX.meet ((j2 + 1, _, _)) ⟨by simp only []; omega, by simp only []; omega⟩ (fun a w hs => hs.sub xY xT)
  ·
   refine W264 ?_
   refine W261 ?_
   refine W260 ?_
   obtain rfl : j2 = 8 := by omega
   rw [show bvs (bs ++ 128 :: (List.replicate (zpad m) 0 ++ List.take 8 (be8 m))) = bvs (bs ++ pad m) by rw [List.take_of_length_le (by rw [be8_length]; omega)]; rfl]
   exact Fin.ret1 xI ((Ak, ck)) (trivial) Tryz.results105 (.tmp rfl) xT (by simp)
set_option maxHeartbeats 400000 in
set_option maxRecDepth 10000 in
theorem f106_spec (A : Option Addr) (m c : Nat) (bs : List UInt8) (hm : 64 ≤ m) (hl : bs.length = m) (hm2 : m < 4611686018427387904) :
  Spec Tryz.prog 106 [.slice A m c] [] [rd (.slice A m c) 1 m (bvs bs)] (R := Unit) (fun _ => True) (fun _ => .agg (wvs (refW bs 64)).toArray) (fun _ => []) := by
 refine Spec.intro Tryz.func106 Tryz.ntmps106 rfl (by simp) (by simp) fun w0 => ?_
 refine W240 ?_
 refine wl1 (op_alloc ti183 (lt_ rfl)) rfl fun b1 => ?_
 refine W2 ?_
 refine W63 ?_
 refine W249 ?_
 refine wl1 (op_alloc ti183 (lt_ rfl)) rfl fun b2 => ?_
 refine W2 ?_
 refine WX.regs (L' := [(0, _), (2, _), (3, _)]) ?_
 refine W269 ?_
 refine WL.blkEq (b := b2) (wvs (refW bs 0 ++ List.replicate (64 - 0) 0)) xK (by rw [refW]; rfl) ?_
 refine W241 ?_
 refine WX.regs (L' := [(0, _), (2, _), (3, _), (4, _)]) ?_
 refine W294 ?_
 refine WC.loop (X := Nat) (fun t => 64 - t) (fun t => t ≤ 64) (fun t => [(0, .slice A m c), (2, .pointer (some ⟨b1, 0, none⟩)), (3, .pointer (some ⟨b2, 0, none⟩)), (4, .int .i64 (t : Int))]) (fun t => [blk b2 (wvs (refW bs t ++ List.replicate (64 - t) 0)) 183, blk b1 (List.replicate 64 (.int .u32 0)) 183, rd (.slice A m c) 1 m (bvs bs), frameC w0 (MutF [])]) (0) (by omega) (fun a w hs => hs.sub xY xT) ?_
 rintro t ht
 try dsimp only
 refine W328 ?_
 refine W265 ?_
 refine WX.regs (L' := [(0, _), (2, _), (3, _), (4, _), (8, _)]) ?_
 refine W0 ?_
 refine WC.cond rfl (fun h1 => ?_) (fun h1 => ?_)
 ·
  refine W270 ?_
  refine W328 ?_
  refine W265 ?_
  refine WX.regs (L' := [(0, _), (2, _), (3, _), (4, _), (12, _)]) ?_
  refine W0 ?_
  refine WC.cond rfl (fun h2 => ?_) (fun h2 => ?_)
  ·
   refine W1 ?_
   refine WC.drawnH mo 35 ?_
   refine W344 ?_
   refine W60 ?_
   refine W338 ?_
   refine WA.take (i := 5) rfl (by kernel_rfl) (fun _ _ _ h => h) rfl (op_loadS fl5 (lt_ rfl) rfl xS (bvs_at (k := 4 * t) (by omega) (by omega))) xT ?_
   refine W350 ?_
   refine W71 ?_
   refine W55 ?_
   refine WA.take (i := 10) rfl (by kernel_rfl) (fun _ _ _ h => h) rfl (op_mul (lt_ rfl) rfl rfl (by omega)) xT ?_
   refine WA.take (i := 11) rfl (by kernel_rfl) (fun _ _ _ h => h) rfl (op_add (lt_ rfl) rfl rfl (by omega)) xT ?_
   refine W220 ?_
   refine WA.take (i := 13) rfl (by kernel_rfl) (fun _ _ _ h => h) rfl (op_loadS fl5 (lt_ rfl) rfl xS (bvs_at (k := 4 * t + 1) (by omega) (by omega))) xT ?_
   refine W348 ?_
   refine WA.take (i := 16) rfl (by kernel_rfl) (fun _ _ _ h => h) rfl (op_or32 (lt_ rfl) rfl rfl) xT ?_
   refine W182 ?_
   refine WA.take (i := 18) rfl (by kernel_rfl) (fun _ _ _ h => h) rfl (op_move (lt_ rfl) rfl) xT ?_
   refine WA.take (i := 19) rfl (by kernel_rfl) (fun _ _ _ h => h) rfl (op_mul (lt_ rfl) rfl rfl (by omega)) xT ?_
   refine W337 ?_
   refine WA.take (i := 22) rfl (by kernel_rfl) (fun _ _ _ h => h) rfl (op_loadS fl5 (lt_ rfl) rfl xS (bvs_at (k := 4 * t + 2) (by omega) (by omega))) xT ?_
   refine W347 ?_
   refine WA.take (i := 25) rfl (by kernel_rfl) (fun _ _ _ h => h) rfl (op_or32 (lt_ rfl) rfl rfl) xT ?_
   refine WA.take (i := 26) rfl (by kernel_rfl) (fun _ _ _ h => h) rfl (op_move (lt_ rfl) rfl) xT ?_
   refine W180 ?_
   refine WA.take (i := 28) rfl (by kernel_rfl) (fun _ _ _ h => h) rfl (op_mul (lt_ rfl) rfl rfl (by omega)) xT ?_
   refine W326 ?_
   refine WA.take (i := 31) rfl (by kernel_rfl) (fun _ _ _ h => h) rfl (op_loadS fl5 (lt_ rfl) rfl xS (bvs_at (k := 4 * t + 3) (by omega) (by omega))) xT ?_
   refine WA.take (i := 32) rfl (by kernel_rfl) (fun _ _ _ h => h) rfl (op_conv832 (by kernel_rfl) Tryz.underlying181 (lt_ rfl) rfl) xT ?_
   refine WA.take (i := 33) rfl (by kernel_rfl) (fun _ _ _ h => h) rfl (op_or32 (lt_ rfl) rfl rfl) xT ?_
   refine WA.take (i := 34) rfl (by kernel_rfl) (fun _ _ _ h => h) rfl (op_indexArr Tryz.underlying183 sz181 (lt_ rfl) rfl rfl (by omega) (by omega)) xT ?_
   refine WA.stepo (G := []) (i := 35) (by kernel_rfl) rfl rfl (op_store sz181 rfl rfl xK xL xO (by simp; omega)) (fun h => absurd rfl h) ?_
   refine W19 ?_
   refine WX.blkEq (b := b2) (wvs (refW bs (t + 1) ++ List.replicate (64 - (t + 1)) 0)) xK ((wvs_put (k := t) (by omega) (by simp; omega)).trans ((congrArg wvs (set_next _ t _ (by omega) (refW_length _ _))).trans (by rw [refW_lo _ _ (by omega)]; rfl))) ?_
   refine WX.regs (L' := [(0, _), (2, _), (3, _), (4, _)]) ?_
   refine W0 ?_
   refine W245 ?_
   refine W26 ?_
   refine W0 ?_
   refine W329 ?_
   refine WX.regs (L' := [(0, _), (2, _), (3, _), (4, _)]) ?_
   refine WX.meet (t + 1) ⟨by omega, by omega⟩ (fun a w hs => hs.sub xY xT)
  ·
   refine W262 ?_
   refine W301 ?_
   refine W29 ?_
   refine WA.take (i := 1) rfl (by kernel_rfl) (fun _ _ _ h => h) rfl (op_sub (lt_ rfl) rfl rfl (by omega)) xT ?_
   refine WA.take (i := 2) rfl (by kernel_rfl) (fun _ _ _ h => h) rfl (op_indexArr Tryz.underlying183 sz181 (lt_ rfl) rfl rfl (by omega) (by omega)) xT ?_
   refine WA.take (i := 3) rfl (by kernel_rfl) (fun _ _ _ h => h) rfl (op_load1 fl181 (lt_ rfl) rfl xM (wvs_pre (k := t - 2) (by omega) (by simp; omega))) xT ?_
   refine W51 ?_
   refine WA.take (i := 5) rfl (by kernel_rfl) (fun _ _ _ h => h) rfl (op_sub (lt_ rfl) rfl rfl (by omega)) xT ?_
   refine WA.take (i := 6) rfl (by kernel_rfl) (fun _ _ _ h => h) rfl (op_indexArr Tryz.underlying183 sz181 (lt_ rfl) rfl rfl (by omega) (by omega)) xT ?_
   refine WA.take (i := 7) rfl (by kernel_rfl) (fun _ _ _ h => h) rfl (op_load1 fl181 (lt_ rfl) rfl xM (wvs_pre (k := t - 15) (by omega) (by simp; omega))) xT ?_
   refine WA.take (i := 8) rfl (by kernel_rfl) (fun _ _ _ h => h) rfl (op_assign (lt_ rfl) rfl) xT ?_
   refine WA.take (i := 9) rfl (by kernel_rfl) (fun _ _ _ h => h) rfl (op_assign (lt_ rfl) rfl) xT ?_
   refine W19 ?_
   refine WX.regs (L' := [(0, _), (2, _), (3, _), (4, _), (5, _), (6, _)]) ?_
   refine W0 ?_
   refine WC.drawnH mo 29 ?_
   refine W344 ?_
   refine W77 ?_
   refine W107 ?_
   refine WA.take (i := 7) rfl (by kernel_rfl) (fun _ _ _ h => h) rfl (op_shr32 (lt_ rfl) rfl rfl (by decide)) xT ?_
   refine W55 ?_
   refine WA.take (i := 10) rfl (by kernel_rfl) (fun _ _ _ h => h) rfl (op_sub (lt_ rfl) rfl rfl (by omega)) xT ?_
   refine WA.take (i := 11) rfl (by kernel_rfl) (fun _ _ _ h => h) rfl (op_indexArr Tryz.underlying183 sz181 (lt_ rfl) rfl rfl (by omega) (by omega)) xT ?_
   refine WA.take (i := 12) rfl (by kernel_rfl) (fun _ _ _ h => h) rfl (op_load1 fl181 (lt_ rfl) rfl xM (wvs_pre (k := t - 7) (by omega) (by simp; omega))) xT ?_
   refine W123 ?_
   refine W165 ?_
   refine WA.take (i := 19) rfl (by kernel_rfl) (fun _ _ _ h => h) rfl (op_move (lt_ rfl) rfl) xT ?_
   refine WA.take (i := 20) rfl (by kernel_rfl) (fun _ _ _ h => h) rfl (op_shr32 (lt_ rfl) rfl rfl (by decide)) xT ?_
   refine WA.take (i := 23) rfl (by kernel_rfl) (fun _ _ _ h => h) rfl (op_move (lt_ rfl) rfl) xT ?_
   refine WA.take (i := 24) rfl (by kernel_rfl) (fun _ _ _ h => h) rfl (op_sub (lt_ rfl) rfl rfl (by omega)) xT ?_
   refine WA.take (i := 25) rfl (by kernel_rfl) (fun _ _ _ h => h) rfl (op_indexArr Tryz.underlying183 sz181 (lt_ rfl) rfl rfl (by omega) (by omega)) xT ?_
   refine WA.take (i := 26) rfl (by kernel_rfl) (fun _ _ _ h => h) rfl (op_load1 fl181 (lt_ rfl) rfl xM (wvs_pre (k := t - 16) (by omega) (by simp; omega))) xT ?_
   refine WA.stepx (i := 2) (by kernel_rfl) rfl rfl (op_call (f107_spec _ _ (by decide)) ca107 (lt_ rfl) rfl) (fun _ r => xT) ?_
   rintro r1 h1
   refine WA.stepx (i := 4) (by kernel_rfl) rfl rfl (op_call (f107_spec _ _ (by decide)) ca107 (lt_ rfl) rfl) (fun _ r => xT) ?_
   rintro r2 h2
   refine WA.take (i := 5) rfl (by kernel_rfl) (fun _ _ _ h => h) rfl (op_xor32 (lt_ rfl) rfl rfl) xT ?_
   refine WA.take (i := 8) rfl (by kernel_rfl) (fun _ _ _ h => h) rfl (op_xor32 (lt_ rfl) rfl rfl) xT ?_
   refine WA.take (i := 13) rfl (by kernel_rfl) (fun _ _ _ h => h) rfl (op_add32 (lt_ rfl) rfl rfl) xT ?_
   refine WA.stepx (i := 15) (by kernel_rfl) rfl rfl (op_call (f107_spec _ _ (by decide)) ca107 (lt_ rfl) rfl) (fun _ r => xT) ?_
   rintro r3 h3
   refine WA.stepx (i := 17) (by kernel_rfl) rfl rfl (op_call (f107_spec _ _ (by decide)) ca107 (lt_ rfl) rfl) (fun _ r => xT) ?_
   rintro r4 h4
   refine WA.take (i := 18) rfl (by kernel_rfl) (fun _ _ _ h => h) rfl (op_xor32 (lt_ rfl) rfl rfl) xT ?_
   refine W181 ?_
   refine WA.take (i := 22) rfl (by kernel_rfl) (fun _ _ _ h => h) rfl (op_add32 (lt_ rfl) rfl rfl) xT ?_
   refine WA.take (i := 27) rfl (by kernel_rfl) (fun _ _ _ h => h) rfl (op_add32 (lt_ rfl) rfl rfl) xT ?_
   refine WA.take (i := 28) rfl (by kernel_rfl) (fun _ _ _ h => h) rfl (op_indexArr Tryz.underlying183 sz181 (lt_ rfl) rfl rfl (by omega) (by omega)) xT ?_
   refine WA.stepo (G := []) (i := 29) (by kernel_rfl) rfl rfl (op_store sz181 rfl rfl xK xL xO (by simp; omega)) (fun h => absurd rfl h) ?_
   refine W19 ?_
   refine WX.blkEq (b := b2) (wvs (refW bs (t + 1) ++ List.replicate (64 - (t + 1)) 0)) xK ((wvs_put (k := t) (by omega) (by simp; omega)).trans ((congrArg wvs (set_next _ t _ (by omega) (refW_length _ _))).trans (by rw [refW_hi _ _ (by omega)]; rfl))) ?_
   refine WX.regs (L' := [(0, _), (2, _), (3, _), (4, _)]) ?_
   refine W352 ?_
   refine WX.regs (L' := [(0, _), (2, _), (3, _), (4, _)]) ?_
   refine WX.meet (t + 1) ⟨by omega, by omega⟩ (fun a w hs => hs.sub xY xT)
 ·
  refine W284 ?_
  obtain rfl : t = 64 := by omega
  rw [show refW bs 64 ++ List.replicate (64 - 64) 0 = refW bs 64 by simp]
  refine wlv (op_loadAll ag183 (lt_ rfl) rfl xM xL) rfl ?_
  refine W360 ?_
  refine W250 ?_
  exact Fin.ret1 xI (()) (trivial) Tryz.results106 (.cellN rfl ag183 xM xL) xT (by simp)
end Go.Proofs.YtkjlbedebmffgaaGreat.Sx
