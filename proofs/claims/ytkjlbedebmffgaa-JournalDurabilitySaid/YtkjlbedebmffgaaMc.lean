import Derived.Test.YtkjlbedebmffgaaMb
import Derived.Test.YtkjlbedebmffgaaMa
set_option linter.unusedVariables false
set_option linter.unusedSimpArgs false
namespace Go.Proofs.Ytkjlbedebmffgaa.Sx
open Go.RowKit Go.Proofs.Ytkjlbedebmffgaa.Ty
attribute [local irreducible] blk own rd rx frameC

def be (n : Nat) : Nat → List UInt8
  | 0 => []
  | k + 1 => UInt8.ofNat (n / 256 ^ k) :: be n k
@[simp] theorem be_length (n k : Nat) : (be n k).length = k := by induction k <;> simp [be, *]
/-- The number of bytes, the first one the highest. -/
def vl (bs : List UInt8) : Nat := bs.foldl (fun n x => n * 256 + x.toNat) 0
theorem vl_snoc (bs : List UInt8) (x : UInt8) : vl (bs ++ [x]) = vl bs * 256 + x.toNat := by simp [vl]
theorem vl_from (bs : List UInt8) : ∀ a : Nat, bs.foldl (fun n x => n * 256 + x.toNat) a < (a + 1) * 256 ^ bs.length := by
  induction bs with
  | nil => intro a; simp
  | cons x bs ih =>
    intro a
    have h := ih (a * 256 + x.toNat)
    have hx := x.toNat_lt
    have h2 : (a * 256 + x.toNat + 1) * 256 ^ bs.length ≤ ((a + 1) * 256) * 256 ^ bs.length := Nat.mul_le_mul_right _ (by omega)
    have h3 : (a + 1) * 256 ^ (x :: bs).length = ((a + 1) * 256) * 256 ^ bs.length := by rw [List.length_cons, Nat.pow_succ, Nat.mul_comm (256 ^ bs.length) 256, Nat.mul_assoc]
    rw [List.foldl_cons, h3]
    omega
theorem vl_lt (bs : List UInt8) : vl bs < 256 ^ bs.length := by
  have := vl_from bs 0
  simpa [vl] using this
theorem vl_step (bs : List UInt8) (i : Nat) (h : i < bs.length) : vl (bs.take (i + 1)) = vl (bs.take i) * 256 + (bs.getD i 0).toNat := by
  rw [List.take_succ_eq_append_getElem h, vl_snoc]
  simp [h]
abbrev fineP (k g n : Int) : Prop := 0 ≤ k ∧ k ≤ 65535 ∧ 0 ≤ g ∧ g ≤ 2147483647 ∧ 0 ≤ n ∧ n ≤ 2147483647
/-- What Check answers. -/
def chk (k g n i c : Int) (m : Nat) : Int :=
  if ¬ fineP k g n ∨ c < 1 ∨ c > 586 ∨ i < 0 ∨ i ≥ c then 2
  else if m > 224 then 5
  else if (¬ i = c - 1 ∧ m < 224) ∨ (i = c - 1 ∧ c > 1 ∧ m = 0) then 4
  else if i = c - 1 ∧ 224 * i + m > 131072 then 5
  else 0
def pcells (k g n i c : Int) (v : Value) : List Value := [.int .i64 k, .int .i64 g, .int .i64 n, .int .i64 i, .int .i64 c, v]
section
variable {P : Program} {n : Fr} {L : List (Nat × Value)} {H : List Ch} {d : Nat} {ty : TypeId} {pos : String} {af : Array Edge} {g : Option (Nat × Bool)} {x y : Operand} {xt yt : TypeId}
theorem op_subw {a b : Int} (hn : d < n.n) (hx : evr L x = some (.int .i64 a)) (hy : evr L y = some (.int .i64 b)) :
    Val P ⟨some d, .binOp .sub xt x y yt, ty, pos, af, g⟩ n L H d (.int .i64 (IntKind.i64.wrap (a - b))) :=
  binop_val hn hx hy (fun _ _ => rfl) fun w => by simp [binOp, Op.intArith]
theorem op_addw {a b : Int} (hn : d < n.n) (hx : evr L x = some (.int .i64 a)) (hy : evr L y = some (.int .i64 b)) :
    Val P ⟨some d, .binOp .add xt x y yt, ty, pos, af, g⟩ n L H d (.int .i64 (IntKind.i64.wrap (a + b))) :=
  binop_val hn hx hy (fun _ _ => rfl) fun w => by simp [binOp, Op.intArith]
end
theorem wrap_in {a : Int} (h : -9223372036854775808 ≤ a ∧ a < 9223372036854775808) : IntKind.i64.wrap a = a := by
  simp [IntKind.wrap_i64]; omega
set_option maxHeartbeats 400000 in
set_option maxRecDepth 10000 in
theorem f64_spec (k g : Int) :
    Spec Try.prog 64 [.int .i64 k, .int .i64 g] [] [] (R := Bool) (fun b => b = decide (0 ≤ k ∧ k ≤ g)) (fun b => .bool b) (fun _ => []) := by
  refine Spec.intro Try.func64 Try.ntmps64 rfl (by simp) (by simp) fun w0 => ?_
  refine WC.seq ?_
  refine WC.region ?_
  refine wlv (op_assign (lt_ rfl) rfl) rfl ?_
  refine WL.nil ?_
  refine WX.regs (L' := [(0, _), (1, _)]) ?_
  refine WX.next ?_
  refine WC.seq ?_
  refine WC.region ?_
  refine wlv (op_move (lt_ rfl) rfl) rfl ?_
  refine wlv (op_geq (lt_ rfl) rfl rfl) rfl ?_
  refine wlv (op_move (lt_ rfl) rfl) rfl ?_
  refine WL.split (t := 7) rfl (fun g7 => ?_) (fun g7 => ?_)
  ·
    refine wlgv (op_move (lt_ rfl) rfl) rfl rfl rfl ?_
    refine wlgv (op_move (lt_ rfl) rfl) rfl rfl rfl ?_
    refine wlgv (op_leq (lt_ rfl) rfl rfl) rfl rfl rfl ?_
    refine wlv (op_pickT (lt_ rfl) rfl rfl) rfl ?_
    refine wlv (op_assign (lt_ rfl) rfl) rfl ?_
    refine WL.nil ?_
    refine WX.regs (L' := [(4, _)]) ?_
    refine WX.next ?_
    refine WC.ret ?_
    exact Fin.ret1 xI (_) (by simp only [true_eq_decide_iff, false_eq_decide_iff, decide_eq_decide, fineP]; omega) Try.results64 (.tmp rfl) xT (by simp)
  ·
    refine wlg_no rfl rfl rfl rfl rfl (by decide) ?_
    refine wlg_no rfl rfl rfl rfl rfl (by decide) ?_
    refine wlg_no rfl rfl rfl rfl rfl (by decide) ?_
    refine wlv (op_pickF (lt_ rfl) rfl rfl) rfl ?_
    refine wlv (op_assign (lt_ rfl) rfl) rfl ?_
    refine WL.nil ?_
    refine WX.regs (L' := [(4, _)]) ?_
    refine WX.next ?_
    refine WC.ret ?_
    exact Fin.ret1 xI (_) (by simp only [true_eq_decide_iff, false_eq_decide_iff, decide_eq_decide, fineP]; omega) Try.results64 (.tmp rfl) xT (by simp)
set_option maxHeartbeats 400000 in
set_option maxRecDepth 10000 in
theorem f65_spec (k g n : Int) :
    Spec Try.prog 65 [.agg #[.int .i64 k, .int .i64 g, .int .i64 n]] [] [] (R := Bool) (fun b => b = decide (fineP k g n)) (fun b => .bool b) (fun _ => []) := by
  refine Spec.intro Try.func65 Try.ntmps65 rfl (by simp) (by simp) fun w0 => ?_
  refine WC.seq ?_
  refine WC.region ?_
  refine wl1 (op_box (lt_ rfl) rfl rfl) rfl fun b1 => ?_
  refine wlv (op_assign (lt_ rfl) rfl) rfl ?_
  refine WL.nil ?_
  refine WX.regs (L' := [(1, _)]) ?_
  refine WX.next ?_
  refine WC.seq ?_
  refine WC.region ?_
  refine wlv (op_fieldAddr fo109_0 (lt_ rfl) rfl) rfl ?_
  refine wlv (op_load1 fl3 (lt_ rfl) rfl xM rfl) rfl ?_
  refine wlx (op_call (f64_spec _ _) ca64 (lt_ rfl) rfl) rfl ?_
  rintro _ rfl
  refine wlv (op_move (lt_ rfl) rfl) rfl ?_
  refine WL.split (t := 6) rfl (fun g6 => ?_) (fun g6 => ?_)
  ·
    refine wlgv (op_fieldAddr fo109_1 (lt_ rfl) rfl) rfl rfl rfl ?_
    refine wlgv (op_load1 fl3 (lt_ rfl) rfl xM rfl) rfl rfl rfl ?_
    refine wlgx (op_call (f64_spec _ _) ca64 (lt_ rfl) rfl) rfl rfl rfl ?_
    rintro _ rfl
    refine wlv (op_pickT (lt_ rfl) rfl rfl) rfl ?_
    refine wlv (op_move (lt_ rfl) rfl) rfl ?_
    refine WL.split (t := 11) rfl (fun g11 => ?_) (fun g11 => ?_)
    ·
      refine wlgv (op_fieldAddr fo109_2 (lt_ rfl) rfl) rfl rfl rfl ?_
      refine wlgv (op_load1 fl3 (lt_ rfl) rfl xM rfl) rfl rfl rfl ?_
      refine wlgx (op_call (f64_spec _ _) ca64 (lt_ rfl) rfl) rfl rfl rfl ?_
      rintro _ rfl
      refine wlv (op_pickT (lt_ rfl) rfl rfl) rfl ?_
      refine wlv (op_assign (lt_ rfl) rfl) rfl ?_
      refine WL.nil ?_
      refine WX.regs (L' := [(2, _)]) ?_
      refine WX.next ?_
      refine WC.ret ?_
      exact Fin.ret1 xI (_) (by simp only [true_eq_decide_iff, false_eq_decide_iff, decide_eq_decide, fineP]; omega) Try.results65 (.tmp rfl) xT (by simp)
    ·
      refine wlg_no rfl rfl rfl rfl rfl (by decide) ?_
      refine wlg_no rfl rfl rfl rfl rfl (by decide) ?_
      refine wlg_no rfl rfl rfl rfl rfl (by decide) ?_
      refine wlv (op_pickF (lt_ rfl) rfl rfl) rfl ?_
      refine wlv (op_assign (lt_ rfl) rfl) rfl ?_
      refine WL.nil ?_
      refine WX.regs (L' := [(2, _)]) ?_
      refine WX.next ?_
      refine WC.ret ?_
      exact Fin.ret1 xI (_) (by simp only [true_eq_decide_iff, false_eq_decide_iff, decide_eq_decide, fineP]; omega) Try.results65 (.tmp rfl) xT (by simp)
  ·
    refine wlg_no rfl rfl rfl rfl rfl (by decide) ?_
    refine wlg_no rfl rfl rfl rfl rfl (by decide) ?_
    refine wlg_no rfl rfl rfl rfl rfl (by decide) ?_
    refine wlv (op_pickF (lt_ rfl) rfl rfl) rfl ?_
    refine wlv (op_move (lt_ rfl) rfl) rfl ?_
    refine wlg_no rfl rfl rfl rfl rfl (by decide) ?_
    refine wlg_no rfl rfl rfl rfl rfl (by decide) ?_
    refine wlg_no rfl rfl rfl rfl rfl (by decide) ?_
    refine wlv (op_pickF (lt_ rfl) rfl rfl) rfl ?_
    refine wlv (op_assign (lt_ rfl) rfl) rfl ?_
    refine WL.nil ?_
    refine WX.regs (L' := [(2, _)]) ?_
    refine WX.next ?_
    refine WC.ret ?_
    exact Fin.ret1 xI (_) (by simp only [true_eq_decide_iff, false_eq_decide_iff, decide_eq_decide, fineP]; omega) Try.results65 (.tmp rfl) xT (by simp)
set_option maxHeartbeats 400000 in
set_option maxRecDepth 10000 in
theorem f77_spec (k g n i c : Int) (v : Value) :
    Spec Try.prog 77 [.agg (pcells k g n i c v).toArray] [] [] (R := Unit) (fun _ => True) (fun _ => .agg #[.int .i64 k, .int .i64 g, .int .i64 n]) (fun _ => []) := by
  refine Spec.intro Try.func77 Try.ntmps77 rfl (by simp) (by simp) fun w0 => ?_
  refine WC.seq ?_
  refine WC.region ?_
  refine wl1 (op_box (lt_ rfl) rfl rfl) rfl fun b1 => ?_
  refine wl1 (op_alloc ti109 (lt_ rfl)) rfl fun b2 => ?_
  refine WL.nil ?_
  refine WX.regs (L' := [(1, _), (2, _)]) ?_
  refine WX.next ?_
  refine WC.seq ?_
  refine WC.region ?_
  refine wlv (op_fieldAddr fo96_0 (lt_ rfl) rfl) rfl ?_
  refine wlv (op_load1 fl3 (lt_ rfl) rfl xM rfl) rfl ?_
  refine wlv (op_fieldAddr fo96_1 (lt_ rfl) rfl) rfl ?_
  refine wlv (op_load1 fl3 (lt_ rfl) rfl xM rfl) rfl ?_
  refine wlv (op_fieldAddr fo96_2 (lt_ rfl) rfl) rfl ?_
  refine wlv (op_load1 fl3 (lt_ rfl) rfl xM rfl) rfl ?_
  refine wlv (op_build (cs := [.int .i64 k, .int .i64 g, .int .i64 n]) (pv := [(0, _), (1, _), (2, _)]) (lt_ rfl) rfl (by kernel_rfl)) rfl ?_
  refine wl (op_storeAll sz109 rfl rfl xK xL xO xL) rfl ?_
  change WL _ _ _ _ _ _ _
  refine WL.nil ?_
  refine WX.regs (L' := [(2, _)]) ?_
  refine WX.next ?_
  refine WC.ret ?_
  exact Fin.ret1 xI (()) (trivial) Try.results77 (.cellN rfl ag109 xM xL) xT (by simp)
end Go.Proofs.Ytkjlbedebmffgaa.Sx

set_option linter.unusedVariables false
set_option linter.unusedSimpArgs false
namespace Go.Proofs.Ytkjlbedebmffgaa.Sx
open Go.RowKit Go.Proofs.Ytkjlbedebmffgaa.Ty
attribute [local irreducible] blk own rd rx frameC

def sealR (bs : List UInt8) : List UInt8 := (bs ++ List.replicate (240 - bs.length) 0).take 240
theorem sealR_length (bs : List UInt8) : (sealR bs).length = 240 := by simp [sealR]; omega
def sealB (bs : List UInt8) : List UInt8 := (sha (sealR bs)).take 16 ++ sealR bs
theorem sealB_length (bs : List UInt8) : (sealB bs).length = 256 := by simp [sealB, sealR_length, sha_length]
theorem zeros_step3 (bs : List UInt8) (j : Nat) : bvs (bs ++ List.replicate j 0) ++ [bv 0] = bvs (bs ++ List.replicate (j + 1) 0) := by
  rw [List.replicate_succ', ← List.append_assoc, bvs_append (bs ++ _)]; rfl
def blank (bs : List UInt8) : Bool := bs.all (· == 0)
theorem blank_step (bs : List UInt8) (i : Nat) (hi : i < bs.length) (h : blank (bs.take i) = true) (h0 : bs.getD i 0 = 0) : blank (bs.take (i + 1)) = true := by
  unfold blank at *
  rw [List.take_succ_eq_append_getElem hi, List.all_append, h]
  simpa [hi] using h0
theorem blank_not (bs : List UInt8) (i : Nat) (hi : i < bs.length) (h0 : ¬ bs.getD i 0 = 0) : blank bs = false := by
  unfold blank
  rw [List.all_eq_false]
  exact ⟨bs[i], List.getElem_mem hi, by simpa [hi] using h0⟩
set_option maxHeartbeats 400000 in
set_option maxRecDepth 10000 in
theorem f69_spec (A B : Option Addr) (m c m2 c2 : Nat) (xs bs : List UInt8) :
    Spec Try.prog 69 [.slice A m c, .slice B m2 c2] [] [rd (.slice A m c) 1 m (bvs xs), rd (.slice B m2 c2) 1 m2 (bvs bs)] (R := Unit) (fun _ => True) (fun _ => .bool (decide (xs = bs))) (fun _ => []) := by
  refine Spec.intro Try.func69 Try.ntmps69 rfl (by simp) (by simp) fun w0 => ?_
  refine WC.seq ?_
  refine WC.region ?_
  refine wlv (op_assign (lt_ rfl) rfl) rfl ?_
  refine WL.nil ?_
  refine WX.regs (L' := [(0, _), (1, _)]) ?_
  refine WX.next ?_
  refine WC.seq ?_
  refine WC.region ?_
  refine wlv (op_move (lt_ rfl) rfl) rfl ?_
  refine wlv (op_bytesStr Try.underlying23 Try.underlying5 Try.underlying9 (lt_ rfl) rfl xS) rfl ?_
  refine wlv (op_move (lt_ rfl) rfl) rfl ?_
  refine wlv (op_bytesStr Try.underlying23 Try.underlying5 Try.underlying9 (lt_ rfl) rfl xS) rfl ?_
  refine wlv (op_eqls (lt_ rfl) rfl rfl) rfl ?_
  refine wlv (op_assign (lt_ rfl) rfl) rfl ?_
  refine WL.nil ?_
  refine WX.regs (L' := [(4, _)]) ?_
  refine WX.next ?_
  refine WC.ret ?_
  exact Fin.ret1 xI (()) (trivial) Try.results69 (.tmp rfl) xT (by simp)
set_option maxHeartbeats 400000 in
set_option maxRecDepth 10000 in
theorem f72_spec (A : Option Addr) (m c : Nat) (bs : List UInt8) (hm : bs.length = m) (hmx : m ≤ 140737488355328) :
    Spec Try.prog 72 [.slice A m c] [] [rd (.slice A m c) 1 m (bvs bs)] (R := Option Addr × Nat) (fun _ => True) (fun r => .slice r.1 m r.2) (fun r => [own (.slice r.1 m r.2) 5 1 m (bvs bs)]) := by
  refine Spec.intro Try.func72 Try.ntmps72 rfl (by simp) (by simp) fun w0 => ?_
  refine WC.seq ?_
  refine WC.region ?_
  refine wlv (op_assign (lt_ rfl) rfl) rfl ?_
  refine WL.nil ?_
  refine WX.regs (L' := [(0, _)]) ?_
  refine WX.next ?_
  refine WC.seq ?_
  refine WC.seq ?_
  refine WC.region ?_
  refine wlv (op_move (lt_ rfl) rfl) rfl ?_
  refine wlv (op_eqlsnil Try.underlying23 (by decide) rfl rfl) rfl ?_
  refine WL.nil ?_
  refine WX.regs (L' := [(0, _), (4, _)]) ?_
  refine WX.next ?_
  refine WC.cond rfl (fun h1 => ?_) (fun h1 => ?_)
  ·
    subst h1
    refine WC.none0 xS (by decide) (fun hm0 => ?_)
    subst hm0
    obtain rfl : bs = [] := List.eq_nil_of_length_eq_zero hm
    refine WC.nilslice 5 1 ?_
    refine WC.seq ?_
    refine WC.region ?_
    refine wlv (op_assign (lt_ rfl) rfl) rfl ?_
    refine WL.nil ?_
    refine WX.regs (L' := [(2, _)]) ?_
    refine WX.next ?_
    refine WC.ret ?_
    refine WX.then_ret ?_
    exact Fin.ret1 xI ((none, 0)) (trivial) Try.results72 (.tmp rfl) xT (by simp)
  ·
    refine WC.skip ?_
    refine WX.next ?_
    refine WC.seq ?_
    refine WC.region ?_
    refine wl1 (op_lit0 Try.underlying23 ti5 (lt_ rfl)) rfl fun b1 => ?_
    refine wlv (op_move (lt_ rfl) rfl) rfl ?_
    refine wl2 (op_append0 Try.underlying23 ti5 rfl (by decide) (lt_ rfl) rfl rfl xK xS xO (by omega) (by omega)) rfl fun A1 c1 => ?_
    refine wlv (op_assign (lt_ rfl) rfl) rfl ?_
    refine WL.nil ?_
    refine WX.regs (L' := [(2, _)]) ?_
    refine WX.next ?_
    refine WC.ret ?_
    exact Fin.ret1 xI ((_, _)) (trivial) Try.results72 (.tmp rfl) xT (by simp)
set_option maxHeartbeats 400000 in
set_option maxRecDepth 10000 in
theorem f71_spec (A : Option Addr) (m c : Nat) (bs : List UInt8) (hm : bs.length = m) :
    Spec Try.prog 71 [.slice A m c] [] [rd (.slice A m c) 1 m (bvs bs)] (R := Bool) (fun b => b = blank bs) (fun b => .bool b) (fun _ => []) := by
  refine Spec.intro Try.func71 Try.ntmps71 rfl (by simp) (by simp) fun w0 => ?_
  refine WC.seq ?_
  refine WC.region ?_
  refine wlv (op_assign (lt_ rfl) rfl) rfl ?_
  refine WL.nil ?_
  refine WX.regs (L' := [(0, _)]) ?_
  refine WX.next ?_
  refine WC.seq ?_
  refine WC.seq ?_
  refine WC.region ?_
  refine wlv (op_move (lt_ rfl) rfl) rfl ?_
  refine wlv (op_len Try.underlying23 (lt_ rfl) rfl) rfl ?_
  refine wlv (op_move (lt_ rfl) rfl) rfl ?_
  refine WL.nil ?_
  refine WX.regs (L' := [(5, _), (6, _), (7, _)]) ?_
  refine WX.next ?_
  refine WC.block ?_
  refine WC.loop (X := Nat) (fun i => m - i) (fun i => i ≤ m ∧ blank (bs.take i) = true) (fun i => [(5, .slice A m c), (6, .int .i64 (m : Int)), (7, .int .i64 (i : Int))]) (fun i => [rd (.slice A m c) 1 m (bvs bs), frameC w0 (MutF [])]) (0) (⟨by omega, rfl⟩) (fun a w hs => hs.sub xY xT) ?_
  rintro i ⟨hi, hb⟩
  try dsimp only
  refine WC.seq ?_
  refine WC.region ?_
  refine wlv (op_lss (lt_ rfl) rfl rfl) rfl ?_
  refine WL.nil ?_
  refine WX.regs (L' := [(5, _), (6, _), (7, _), (8, _)]) ?_
  refine WX.next ?_
  refine WC.seq ?_
  refine WC.cond rfl (fun h1 => ?_) (fun h1 => ?_)
  ·
    refine WC.skip ?_
    refine WX.next ?_
    refine WC.seq ?_
    refine WC.block ?_
    refine WC.seq ?_
    refine WC.region ?_
    refine wlv (op_index Try.underlying23 sz5 (lt_ rfl) rfl rfl (by omega) (by omega) (by decide) xS) rfl ?_
    refine wlv (op_loadS fl5 (lt_ rfl) rfl xS (bvs_at (k := i) (by omega) (by omega))) rfl ?_
    refine wlv (op_assign (lt_ rfl) rfl) rfl ?_
    refine WL.nil ?_
    refine WX.regs (L' := [(4, _), (5, _), (6, _), (7, _)]) ?_
    refine WX.next ?_
    refine WC.seq ?_
    refine WC.region ?_
    refine wlv (op_move (lt_ rfl) rfl) rfl ?_
    refine wlv (op_neq8 (b := 0) (lt_ rfl) rfl rfl) rfl ?_
    refine WL.nil ?_
    refine WX.regs (L' := [(5, _), (6, _), (7, _), (12, _)]) ?_
    refine WX.next ?_
    refine WC.cond rfl (fun h2 => ?_) (fun h2 => ?_)
    ·
      refine WC.seq ?_
      refine WC.region ?_
      refine wlv (op_assign (lt_ rfl) rfl) rfl ?_
      refine WL.nil ?_
      refine WX.regs (L' := [(2, _)]) ?_
      refine WX.next ?_
      refine WC.ret ?_
      refine WX.in_ret ?_
      refine WX.then_ret ?_
      refine WX.then_ret ?_
      refine WX.in_ret ?_
      refine WX.then_ret ?_
      exact Fin.ret1 xI (_) ((blank_not bs i (by omega) h2).symm) Try.results71 (.tmp rfl) xT (by simp)
    ·
      refine WC.skip ?_
      refine WX.in_normal ?_
      refine WX.next ?_
      refine WC.region ?_
      refine WL.capm xS (fun hcm => ?_)
      refine wlv (op_add (lt_ rfl) rfl rfl (by omega)) rfl ?_
      refine wlv (op_move (lt_ rfl) rfl) rfl ?_
      refine WL.nil ?_
      refine WX.regs (L' := [(5, _), (6, _), (7, _)]) ?_
      refine WX.meet (i + 1) ⟨⟨by omega, blank_step bs i (by omega) hb (by simpa using h2)⟩, by omega⟩ (fun a w hs => hs.sub xY xT)
  ·
    refine WC.exit ?_
    refine WX.then_exit ?_
    refine WX.then_exit ?_
    refine WX.in_hit ?_
    refine WX.next ?_
    refine WC.seq ?_
    refine WC.region ?_
    refine wlv (op_assign (lt_ rfl) rfl) rfl ?_
    refine WL.nil ?_
    refine WX.regs (L' := [(2, _)]) ?_
    refine WX.next ?_
    refine WC.ret ?_
    exact Fin.ret1 xI (_) (by rw [← hb, show bs.take i = bs by rw [List.take_of_length_le (by omega)]]) Try.results71 (.tmp rfl) xT (by simp)
end Go.Proofs.Ytkjlbedebmffgaa.Sx

set_option linter.unusedVariables false
set_option linter.unusedSimpArgs false
namespace Go.Proofs.Ytkjlbedebmffgaa.Sx
open Go.RowKit Go.Proofs.Ytkjlbedebmffgaa.Ty
attribute [local irreducible] blk own rd rx frameC

theorem ag120 : Agg Try.prog 120 2 := Agg.mk' Try.underlying120 rfl (by kernel_rfl)
def hdr (k g n i c m : Nat) : List UInt8 := be g 4 ++ (be n 4 ++ (be k 2 ++ (be i 2 ++ (be c 2 ++ be m 2))))
theorem hdr_length (k g n i c m : Nat) : (hdr k g n i c m).length = 16 := by simp [hdr]
def enc (k g n i c : Nat) (bs : List UInt8) : List UInt8 := sealB (hdr k g n i c bs.length ++ bs)
theorem enc_length (k g n i c : Nat) (bs : List UInt8) : (enc k g n i c bs).length = 256 := sealB_length _
def encP (k g n i c : Int) (bs : List UInt8) : List UInt8 := if chk k g n i c bs.length = 0 then enc k.toNat g.toNat n.toNat i.toNat c.toNat bs else []
/-! ### The bytes of a sector as they come -/
def fil (pre : List UInt8) : List UInt8 := pre ++ List.replicate (256 - pre.length) 0
theorem fil_length (pre : List UInt8) (h : pre.length ≤ 256) : (fil pre).length = 256 := by simp [fil]; omega
theorem pset_bvs (cur ys : List UInt8) (m : Nat) : pset (bvs cur) m (bvs ys) = bvs (cur.take m ++ ys ++ cur.drop (m + ys.length)) := by
  simp [pset, bvs]
theorem fil_app (pre ys : List UInt8) (m : Nat) (hm : pre.length = m) (h : m + ys.length ≤ 256) : pset (bvs (fil pre)) m (bvs ys) = bvs (fil (pre ++ ys)) := by
  subst hm
  rw [pset_bvs]
  unfold fil
  congr 1
  rw [List.take_left' rfl, List.drop_append, List.drop_eq_nil_of_le (by omega), List.nil_append, List.drop_replicate, List.length_append]
  congr 2
  omega
def fo : Nat → Nat | 0 => 1 | 1 => 2 | 2 => 0 | 3 => 3 | 4 => 4 | _ => 6
def fz : Nat → Nat | 0 => 4 | 1 => 4 | _ => 2
theorem fz_le (j : Nat) : 2 ≤ fz j ∧ fz j ≤ 4 := by
  match j with
  | 0 | 1 => decide
  | j + 2 => simp [fz]
def fv (k g n i c m : Nat) : Nat → Nat | 0 => g | 1 => n | 2 => k | 3 => i | 4 => c | _ => m
def hp (k g n i c m : Nat) : Nat → List UInt8
  | 0 => []
  | j + 1 => hp k g n i c m j ++ be (fv k g n i c m j) (fz j)
theorem hp_end (k g n i c m : Nat) : hp k g n i c m 6 = hdr k g n i c m := by simp [hp, hdr, fv, fz]
theorem hp_len (k g n i c m j : Nat) (h : j ≤ 6) : (hp k g n i c m j).length ≤ 16 := by
  have e : ∀ d, (hp k g n i c m j).length ≤ (hp k g n i c m (j + d)).length := by
    intro d
    induction d with
    | zero => exact Nat.le_refl _
    | succ d ih => exact Nat.le_trans ih (by rw [← Nat.add_assoc]; simp [hp])
  have h2 := e (6 - j)
  rw [Nat.add_sub_cancel' h, hp_end, hdr_length] at h2
  exact h2
def hdc (k g n i c : Int) (v : Value) (m : Int) : List Value := pcells k g n i c v ++ [.int .i64 m]
theorem hdc_at (k g n i c m : Nat) (v : Value) (j : Nat) (h : j < 6) : (hdc k g n i c v m)[fo j]? = some (.int .i64 (fv k g n i c m j : Nat)) := by
  match j, h with
  | 0, _ | 1, _ | 2, _ | 3, _ | 4, _ | 5, _ => rfl
def fcells (b : Nat) : List Value := [.pointer (some ⟨b, 1, none⟩), .int .i64 4, .pointer (some ⟨b, 2, none⟩), .int .i64 4, .pointer (some ⟨b, 0, none⟩), .int .i64 2, .pointer (some ⟨b, 3, none⟩), .int .i64 2, .pointer (some ⟨b, 4, none⟩), .int .i64 2, .pointer (some ⟨b, 6, none⟩), .int .i64 2]
theorem fcells_at (b j : Nat) (h : j < 6) : ((fcells b).drop (j * 2)).take 2 = [.pointer (some ⟨b, fo j, none⟩), .int .i64 ((fz j : Nat) : Int)] := by
  match j, h with
  | 0, _ | 1, _ | 2, _ | 3, _ | 4, _ | 5, _ => rfl
theorem be_take (n s : Nat) : ∀ r, r < s → (be n s).take (r + 1) = (be n s).take r ++ [UInt8.ofNat (n / 256 ^ (s - 1 - r))] := by
  induction s with
  | zero => intro r h; omega
  | succ s ih =>
    intro r h
    cases r with
    | zero => simp [be]
    | succ r =>
      simp only [be, List.take_succ_cons, List.cons_append]
      rw [ih r (by omega)]
      have : s + 1 - 1 - (r + 1) = s - 1 - r := by omega
      rw [this]
set_option maxHeartbeats 400000 in
set_option maxRecDepth 10000 in
theorem f73_spec (k g n i c : Int) (A : Option Addr) (m cap : Nat) :
    Spec Try.prog 73 [.agg (pcells k g n i c (.slice A m cap)).toArray] [] [] (R := Int) (fun r => r = chk k g n i c m) (fun r => .int .i64 r) (fun _ => []) := by
  have hw : 1 ≤ c ∧ c ≤ 586 → IntKind.i64.wrap (c - 1) = c - 1 := fun h => wrap_in (by omega)
  refine Spec.intro Try.func73 Try.ntmps73 rfl (by simp) (by simp) fun w0 => ?_
  refine WC.seq ?_
  refine WC.region ?_
  refine wl1 (op_box (lt_ rfl) rfl rfl) rfl fun b1 => ?_
  refine wlv (op_assign (lt_ rfl) rfl) rfl ?_
  refine WL.nil ?_
  refine WX.regs (L' := [(1, _)]) ?_
  refine WX.next ?_
  refine WC.seq ?_
  refine WC.region ?_
  refine wlv (op_fieldAddr fo96_3 (lt_ rfl) rfl) rfl ?_
  refine wlv (op_load1 fl3 (lt_ rfl) rfl xM rfl) rfl ?_
  refine wlv (op_fieldAddr fo96_4 (lt_ rfl) rfl) rfl ?_
  refine wlv (op_load1 fl3 (lt_ rfl) rfl xM rfl) rfl ?_
  refine wlv (op_subw (by decide) rfl rfl) rfl ?_
  refine wlv (op_eql (lt_ rfl) rfl rfl) rfl ?_
  refine wlv (op_assign (lt_ rfl) rfl) rfl ?_
  refine WL.nil ?_
  refine WX.regs (L' := [(1, _), (3, _)]) ?_
  refine WX.next ?_
  refine WC.seq ?_
  refine WC.region ?_
  refine wlv (op_fieldAddr fo96_5 (lt_ rfl) rfl) rfl ?_
  refine wlv (op_load1 fl23 (lt_ rfl) rfl xM rfl) rfl ?_
  refine wlv (op_len Try.underlying23 (lt_ rfl) rfl) rfl ?_
  refine wlv (op_assign (lt_ rfl) rfl) rfl ?_
  refine WL.nil ?_
  refine WX.regs (L' := [(1, _), (3, _), (4, _)]) ?_
  refine WX.next ?_
  refine WC.seq ?_
  refine WC.block ?_
  refine WC.seq ?_
  refine WC.region ?_
  refine wlv (op_loadAll ag96 (lt_ rfl) rfl xM xL) rfl ?_
  refine wlx (op_call (f77_spec k g n i c (.slice A m cap)) ca77 (lt_ rfl) rfl) rfl ?_
  rintro _ _
  refine wlx (op_call (f65_spec _ _ _) ca65 (lt_ rfl) rfl) rfl ?_
  rintro _ rfl
  refine wlv (op_notp (lt_ rfl) rfl) rfl ?_
  refine wlv (op_move (lt_ rfl) rfl) rfl ?_
  refine WL.split (t := 19) rfl (fun g19 => ?_) (fun g19 => ?_)
  ·
    refine wlg_no rfl rfl rfl rfl rfl (by decide) ?_
    refine wlg_no rfl rfl rfl rfl rfl (by decide) ?_
    refine wlg_no rfl rfl rfl rfl rfl (by decide) ?_
    refine wlv (op_pickT (lt_ rfl) rfl rfl) rfl ?_
    refine wlv (op_move (lt_ rfl) rfl) rfl ?_
    refine wlg_no rfl rfl rfl rfl rfl (by decide) ?_
    refine wlg_no rfl rfl rfl rfl rfl (by decide) ?_
    refine wlg_no rfl rfl rfl rfl rfl (by decide) ?_
    refine wlv (op_pickT (lt_ rfl) rfl rfl) rfl ?_
    refine wlv (op_move (lt_ rfl) rfl) rfl ?_
    refine wlg_no rfl rfl rfl rfl rfl (by decide) ?_
    refine wlg_no rfl rfl rfl rfl rfl (by decide) ?_
    refine wlg_no rfl rfl rfl rfl rfl (by decide) ?_
    refine wlg_no rfl rfl rfl rfl rfl (by decide) ?_
    refine wlg_no rfl rfl rfl rfl rfl (by decide) ?_
    refine wlg_no rfl rfl rfl rfl rfl (by decide) ?_
    refine wlg_no rfl rfl rfl rfl rfl (by decide) ?_
    refine wlv (op_pickT (lt_ rfl) rfl rfl) rfl ?_
    refine wlv (op_assign (lt_ rfl) rfl) rfl ?_
    refine WL.nil ?_
    refine WX.regs (L' := [(1, _), (3, _), (4, _), (14, _)]) ?_
    refine WX.next ?_
    refine WC.condT rfl ?_
    refine WC.seq ?_
    refine WC.region ?_
    refine wlv (op_assign (lt_ rfl) rfl) rfl ?_
    refine WL.nil ?_
    refine WX.regs (L' := [(2, _)]) ?_
    refine WX.next ?_
    refine WC.ret ?_
    refine WX.in_ret ?_
    refine WX.then_ret ?_
    exact Fin.ret1 xI (_) (by (try simp only []); unfold chk; (try simp only [fineP] at *); repeat (split); all_goals omega) Try.results73 (.tmp rfl) xT (by simp)
  ·
    refine wlgv (op_fieldAddr fo96_4 (lt_ rfl) rfl) rfl rfl rfl ?_
    refine wlgv (op_load1 fl3 (lt_ rfl) rfl xM rfl) rfl rfl rfl ?_
    refine wlgv (op_lss (lt_ rfl) rfl rfl) rfl rfl rfl ?_
    refine wlv (op_pickF (lt_ rfl) rfl rfl) rfl ?_
    refine wlv (op_move (lt_ rfl) rfl) rfl ?_
    refine WL.split (t := 24) rfl (fun g24 => ?_) (fun g24 => ?_)
    ·
      refine wlg_no rfl rfl rfl rfl rfl (by decide) ?_
      refine wlg_no rfl rfl rfl rfl rfl (by decide) ?_
      refine wlg_no rfl rfl rfl rfl rfl (by decide) ?_
      refine wlv (op_pickT (lt_ rfl) rfl rfl) rfl ?_
      refine wlv (op_move (lt_ rfl) rfl) rfl ?_
      refine wlg_no rfl rfl rfl rfl rfl (by decide) ?_
      refine wlg_no rfl rfl rfl rfl rfl (by decide) ?_
      refine wlg_no rfl rfl rfl rfl rfl (by decide) ?_
      refine wlg_no rfl rfl rfl rfl rfl (by decide) ?_
      refine wlg_no rfl rfl rfl rfl rfl (by decide) ?_
      refine wlg_no rfl rfl rfl rfl rfl (by decide) ?_
      refine wlg_no rfl rfl rfl rfl rfl (by decide) ?_
      refine wlv (op_pickT (lt_ rfl) rfl rfl) rfl ?_
      refine wlv (op_assign (lt_ rfl) rfl) rfl ?_
      refine WL.nil ?_
      refine WX.regs (L' := [(1, _), (3, _), (4, _), (14, _)]) ?_
      refine WX.next ?_
      refine WC.condT rfl ?_
      refine WC.seq ?_
      refine WC.region ?_
      refine wlv (op_assign (lt_ rfl) rfl) rfl ?_
      refine WL.nil ?_
      refine WX.regs (L' := [(2, _)]) ?_
      refine WX.next ?_
      refine WC.ret ?_
      refine WX.in_ret ?_
      refine WX.then_ret ?_
      exact Fin.ret1 xI (_) (by (try simp only []); unfold chk; (try simp only [fineP] at *); repeat (split); all_goals omega) Try.results73 (.tmp rfl) xT (by simp)
    ·
      refine wlgv (op_fieldAddr fo96_4 (lt_ rfl) rfl) rfl rfl rfl ?_
      refine wlgv (op_load1 fl3 (lt_ rfl) rfl xM rfl) rfl rfl rfl ?_
      refine wlgv (op_gtr (lt_ rfl) rfl rfl) rfl rfl rfl ?_
      refine wlv (op_pickF (lt_ rfl) rfl rfl) rfl ?_
      refine wlv (op_move (lt_ rfl) rfl) rfl ?_
      refine WL.split (t := 29) rfl (fun g29 => ?_) (fun g29 => ?_)
      ·
        refine wlg_no rfl rfl rfl rfl rfl (by decide) ?_
        refine wlg_no rfl rfl rfl rfl rfl (by decide) ?_
        refine wlg_no rfl rfl rfl rfl rfl (by decide) ?_
        refine wlg_no rfl rfl rfl rfl rfl (by decide) ?_
        refine wlg_no rfl rfl rfl rfl rfl (by decide) ?_
        refine wlg_no rfl rfl rfl rfl rfl (by decide) ?_
        refine wlg_no rfl rfl rfl rfl rfl (by decide) ?_
        refine wlv (op_pickT (lt_ rfl) rfl rfl) rfl ?_
        refine wlv (op_assign (lt_ rfl) rfl) rfl ?_
        refine WL.nil ?_
        refine WX.regs (L' := [(1, _), (3, _), (4, _), (14, _)]) ?_
        refine WX.next ?_
        refine WC.condT rfl ?_
        refine WC.seq ?_
        refine WC.region ?_
        refine wlv (op_assign (lt_ rfl) rfl) rfl ?_
        refine WL.nil ?_
        refine WX.regs (L' := [(2, _)]) ?_
        refine WX.next ?_
        refine WC.ret ?_
        refine WX.in_ret ?_
        refine WX.then_ret ?_
        exact Fin.ret1 xI (_) (by (try simp only []); unfold chk; (try simp only [fineP] at *); repeat (split); all_goals omega) Try.results73 (.tmp rfl) xT (by simp)
      ·
        refine wlgv (op_fieldAddr fo96_3 (lt_ rfl) rfl) rfl rfl rfl ?_
        refine wlgv (op_load1 fl3 (lt_ rfl) rfl xM rfl) rfl rfl rfl ?_
        refine wlgv (op_fieldAddr fo96_4 (lt_ rfl) rfl) rfl rfl rfl ?_
        refine wlgv (op_load1 fl3 (lt_ rfl) rfl xM rfl) rfl rfl rfl ?_
        refine wlgv (op_sub (lt_ rfl) rfl rfl (by omega)) rfl rfl rfl ?_
        refine wlgx (op_call (f64_spec _ _) ca64 (lt_ rfl) rfl) rfl rfl rfl ?_
        rintro _ rfl
        refine wlgv (op_notp (lt_ rfl) rfl) rfl rfl rfl ?_
        refine wlv (op_pickF (lt_ rfl) rfl rfl) rfl ?_
        refine wlv (op_assign (lt_ rfl) rfl) rfl ?_
        refine WL.nil ?_
        refine WX.regs (L' := [(1, _), (3, _), (4, _), (14, _)]) ?_
        refine WX.next ?_
        refine WC.cond rfl (fun h1 => ?_) (fun h1 => ?_)
        ·
          refine WC.seq ?_
          refine WC.region ?_
          refine wlv (op_assign (lt_ rfl) rfl) rfl ?_
          refine WL.nil ?_
          refine WX.regs (L' := [(2, _)]) ?_
          refine WX.next ?_
          refine WC.ret ?_
          refine WX.in_ret ?_
          refine WX.then_ret ?_
          exact Fin.ret1 xI (_) (by (try simp only []); unfold chk; (try simp only [fineP] at *); repeat (split); all_goals omega) Try.results73 (.tmp rfl) xT (by simp)
        ·
          refine WC.seq ?_
          refine WC.region ?_
          refine wlv (op_move (lt_ rfl) rfl) rfl ?_
          refine wlv (op_gtr (lt_ rfl) rfl rfl) rfl ?_
          refine wlv (op_assign (lt_ rfl) rfl) rfl ?_
          refine WL.nil ?_
          refine WX.regs (L' := [(1, _), (3, _), (4, _), (38, _)]) ?_
          refine WX.next ?_
          refine WC.cond rfl (fun h2 => ?_) (fun h2 => ?_)
          ·
            refine WC.seq ?_
            refine WC.region ?_
            refine wlv (op_assign (lt_ rfl) rfl) rfl ?_
            refine WL.nil ?_
            refine WX.regs (L' := [(2, _)]) ?_
            refine WX.next ?_
            refine WC.ret ?_
            refine WX.in_ret ?_
            refine WX.then_ret ?_
            exact Fin.ret1 xI (_) (by (try simp only []); unfold chk; (try simp only [fineP] at *); repeat (split); all_goals omega) Try.results73 (.tmp rfl) xT (by simp)
          ·
            refine WC.seq ?_
            refine WC.region ?_
            refine wlv (op_move (lt_ rfl) rfl) rfl ?_
            refine wlv (op_lss (lt_ rfl) rfl rfl) rfl ?_
            refine wlv (op_move (lt_ rfl) rfl) rfl ?_
            refine WL.split (t := 44) rfl (fun g44 => ?_) (fun g44 => ?_)
            ·
              refine wlgv (op_move (lt_ rfl) rfl) rfl rfl rfl ?_
              refine wlgv (op_notp (lt_ rfl) rfl) rfl rfl rfl ?_
              refine wlv (op_pickT (lt_ rfl) rfl rfl) rfl ?_
              refine wlv (op_move (lt_ rfl) rfl) rfl ?_
              refine WL.split (t := 48) rfl (fun g48 => ?_) (fun g48 => ?_)
              ·
                refine wlg_no rfl rfl rfl rfl rfl (by decide) ?_
                refine wlg_no rfl rfl rfl rfl rfl (by decide) ?_
                refine wlg_undef rfl rfl rfl rfl (by decide) ?_
                refine wlg_undef rfl rfl rfl rfl (by decide) ?_
                refine wlg_undef rfl rfl rfl rfl (by decide) ?_
                refine wlg_no rfl rfl rfl rfl rfl (by decide) ?_
                refine wlg_no rfl rfl rfl rfl rfl (by decide) ?_
                refine wlg_undef rfl rfl rfl rfl (by decide) ?_
                refine wlg_undef rfl rfl rfl rfl (by decide) ?_
                refine wlg_no rfl rfl rfl rfl rfl (by decide) ?_
                refine wlv (op_pickT (lt_ rfl) rfl rfl) rfl ?_
                refine wlv (op_assign (lt_ rfl) rfl) rfl ?_
                refine WL.nil ?_
                refine WX.regs (L' := [(1, _), (3, _), (4, _), (41, _)]) ?_
                refine WX.next ?_
                refine WC.condT rfl ?_
                refine WC.seq ?_
                refine WC.region ?_
                refine wlv (op_assign (lt_ rfl) rfl) rfl ?_
                refine WL.nil ?_
                refine WX.regs (L' := [(2, _)]) ?_
                refine WX.next ?_
                refine WC.ret ?_
                refine WX.in_ret ?_
                refine WX.then_ret ?_
                exact Fin.ret1 xI (_) (by (try simp only []); unfold chk; (try simp only [fineP] at *); repeat (split); all_goals omega) Try.results73 (.tmp rfl) xT (by simp)
              ·
                refine wlgv (op_move (lt_ rfl) rfl) rfl rfl rfl ?_
                refine wlgv (op_move (lt_ rfl) rfl) rfl rfl rfl ?_
                refine WL.split (t := 50) rfl (fun g50 => ?_) (fun g50 => ?_)
                ·
                  refine wlgv (op_fieldAddr fo96_4 (lt_ rfl) rfl) rfl rfl rfl ?_
                  refine wlgv (op_load1 fl3 (lt_ rfl) rfl xM rfl) rfl rfl rfl ?_
                  refine wlgv (op_gtr (lt_ rfl) rfl rfl) rfl rfl rfl ?_
                  refine wlgv (op_pickT (lt_ rfl) rfl rfl) rfl rfl rfl ?_
                  refine wlgv (op_move (lt_ rfl) rfl) rfl rfl rfl ?_
                  refine WL.split (t := 55) rfl (fun g55 => ?_) (fun g55 => ?_)
                  ·
                    refine wlgv (op_move (lt_ rfl) rfl) rfl rfl rfl ?_
                    refine wlgv (op_eql (lt_ rfl) rfl rfl) rfl rfl rfl ?_
                    refine wlgv (op_pickT (lt_ rfl) rfl rfl) rfl rfl rfl ?_
                    refine wlv (op_pickF (lt_ rfl) rfl rfl) rfl ?_
                    refine wlv (op_assign (lt_ rfl) rfl) rfl ?_
                    refine WL.nil ?_
                    refine WX.regs (L' := [(1, _), (3, _), (4, _), (41, _)]) ?_
                    refine WX.next ?_
                    refine WC.cond rfl (fun h3 => ?_) (fun h3 => ?_)
                    ·
                      refine WC.seq ?_
                      refine WC.region ?_
                      refine wlv (op_assign (lt_ rfl) rfl) rfl ?_
                      refine WL.nil ?_
                      refine WX.regs (L' := [(2, _)]) ?_
                      refine WX.next ?_
                      refine WC.ret ?_
                      refine WX.in_ret ?_
                      refine WX.then_ret ?_
                      exact Fin.ret1 xI (_) (by (try simp only []); unfold chk; (try simp only [fineP] at *); repeat (split); all_goals omega) Try.results73 (.tmp rfl) xT (by simp)
                    ·
                      refine WC.seq ?_
                      refine WC.region ?_
                      refine wlv (op_move (lt_ rfl) rfl) rfl ?_
                      refine wlv (op_move (lt_ rfl) rfl) rfl ?_
                      refine WL.split (t := 62) rfl (fun g62 => ?_) (fun g62 => ?_)
                      ·
                        refine wlgv (op_fieldAddr fo96_3 (lt_ rfl) rfl) rfl rfl rfl ?_
                        refine wlgv (op_load1 fl3 (lt_ rfl) rfl xM rfl) rfl rfl rfl ?_
                        refine wlgv (op_mul (lt_ rfl) rfl rfl (by simp only [fineP] at *; omega)) rfl rfl rfl ?_
                        refine wlgv (op_move (lt_ rfl) rfl) rfl rfl rfl ?_
                        refine wlgv (op_add (lt_ rfl) rfl rfl (by simp only [fineP] at *; omega)) rfl rfl rfl ?_
                        refine wlgv (op_gtr (lt_ rfl) rfl rfl) rfl rfl rfl ?_
                        refine wlv (op_pickT (lt_ rfl) rfl rfl) rfl ?_
                        refine wlv (op_assign (lt_ rfl) rfl) rfl ?_
                        refine WL.nil ?_
                        refine WX.regs (L' := [(60, _)]) ?_
                        refine WX.next ?_
                        refine WC.cond rfl (fun h4 => ?_) (fun h4 => ?_)
                        ·
                          refine WC.seq ?_
                          refine WC.region ?_
                          refine wlv (op_assign (lt_ rfl) rfl) rfl ?_
                          refine WL.nil ?_
                          refine WX.regs (L' := [(2, _)]) ?_
                          refine WX.next ?_
                          refine WC.ret ?_
                          refine WX.in_ret ?_
                          refine WX.then_ret ?_
                          exact Fin.ret1 xI (_) (by (try simp only []); unfold chk; (try simp only [fineP] at *); repeat (split); all_goals omega) Try.results73 (.tmp rfl) xT (by simp)
                        ·
                          refine WC.skip ?_
                          refine WX.in_normal ?_
                          refine WX.next ?_
                          refine WC.seq ?_
                          refine WC.region ?_
                          refine wlv (op_assign (lt_ rfl) rfl) rfl ?_
                          refine WL.nil ?_
                          refine WX.regs (L' := [(2, _)]) ?_
                          refine WX.next ?_
                          refine WC.ret ?_
                          exact Fin.ret1 xI (_) (by (try simp only []); unfold chk; (try simp only [fineP] at *); repeat (split); all_goals omega) Try.results73 (.tmp rfl) xT (by simp)
                      ·
                        refine wlg_no rfl rfl rfl rfl rfl (by decide) ?_
                        refine wlg_no rfl rfl rfl rfl rfl (by decide) ?_
                        refine wlg_no rfl rfl rfl rfl rfl (by decide) ?_
                        refine wlg_no rfl rfl rfl rfl rfl (by decide) ?_
                        refine wlg_no rfl rfl rfl rfl rfl (by decide) ?_
                        refine wlg_no rfl rfl rfl rfl rfl (by decide) ?_
                        refine wlv (op_pickF (lt_ rfl) rfl rfl) rfl ?_
                        refine wlv (op_assign (lt_ rfl) rfl) rfl ?_
                        refine WL.nil ?_
                        refine WX.regs (L' := [(60, _)]) ?_
                        refine WX.next ?_
                        refine WC.condF rfl ?_
                        refine WC.skip ?_
                        refine WX.in_normal ?_
                        refine WX.next ?_
                        refine WC.seq ?_
                        refine WC.region ?_
                        refine wlv (op_assign (lt_ rfl) rfl) rfl ?_
                        refine WL.nil ?_
                        refine WX.regs (L' := [(2, _)]) ?_
                        refine WX.next ?_
                        refine WC.ret ?_
                        exact Fin.ret1 xI (_) (by (try simp only []); unfold chk; (try simp only [fineP] at *); repeat (split); all_goals omega) Try.results73 (.tmp rfl) xT (by simp)
                  ·
                    refine wlg_no rfl rfl rfl rfl rfl (by decide) ?_
                    refine wlg_no rfl rfl rfl rfl rfl (by decide) ?_
                    refine wlgv (op_pickF (lt_ rfl) rfl rfl) rfl rfl rfl ?_
                    refine wlv (op_pickF (lt_ rfl) rfl rfl) rfl ?_
                    refine wlv (op_assign (lt_ rfl) rfl) rfl ?_
                    refine WL.nil ?_
                    refine WX.regs (L' := [(1, _), (3, _), (4, _), (41, _)]) ?_
                    refine WX.next ?_
                    refine WC.condF rfl ?_
                    refine WC.seq ?_
                    refine WC.region ?_
                    refine wlv (op_move (lt_ rfl) rfl) rfl ?_
                    refine wlv (op_move (lt_ rfl) rfl) rfl ?_
                    refine WL.split (t := 62) rfl (fun g62 => ?_) (fun g62 => ?_)
                    ·
                      refine wlgv (op_fieldAddr fo96_3 (lt_ rfl) rfl) rfl rfl rfl ?_
                      refine wlgv (op_load1 fl3 (lt_ rfl) rfl xM rfl) rfl rfl rfl ?_
                      refine wlgv (op_mul (lt_ rfl) rfl rfl (by simp only [fineP] at *; omega)) rfl rfl rfl ?_
                      refine wlgv (op_move (lt_ rfl) rfl) rfl rfl rfl ?_
                      refine wlgv (op_add (lt_ rfl) rfl rfl (by simp only [fineP] at *; omega)) rfl rfl rfl ?_
                      refine wlgv (op_gtr (lt_ rfl) rfl rfl) rfl rfl rfl ?_
                      refine wlv (op_pickT (lt_ rfl) rfl rfl) rfl ?_
                      refine wlv (op_assign (lt_ rfl) rfl) rfl ?_
                      refine WL.nil ?_
                      refine WX.regs (L' := [(60, _)]) ?_
                      refine WX.next ?_
                      refine WC.cond rfl (fun h4 => ?_) (fun h4 => ?_)
                      ·
                        refine WC.seq ?_
                        refine WC.region ?_
                        refine wlv (op_assign (lt_ rfl) rfl) rfl ?_
                        refine WL.nil ?_
                        refine WX.regs (L' := [(2, _)]) ?_
                        refine WX.next ?_
                        refine WC.ret ?_
                        refine WX.in_ret ?_
                        refine WX.then_ret ?_
                        exact Fin.ret1 xI (_) (by (try simp only []); unfold chk; (try simp only [fineP] at *); repeat (split); all_goals omega) Try.results73 (.tmp rfl) xT (by simp)
                      ·
                        refine WC.skip ?_
                        refine WX.in_normal ?_
                        refine WX.next ?_
                        refine WC.seq ?_
                        refine WC.region ?_
                        refine wlv (op_assign (lt_ rfl) rfl) rfl ?_
                        refine WL.nil ?_
                        refine WX.regs (L' := [(2, _)]) ?_
                        refine WX.next ?_
                        refine WC.ret ?_
                        exact Fin.ret1 xI (_) (by (try simp only []); unfold chk; (try simp only [fineP] at *); repeat (split); all_goals omega) Try.results73 (.tmp rfl) xT (by simp)
                    ·
                      refine wlg_no rfl rfl rfl rfl rfl (by decide) ?_
                      refine wlg_no rfl rfl rfl rfl rfl (by decide) ?_
                      refine wlg_no rfl rfl rfl rfl rfl (by decide) ?_
                      refine wlg_no rfl rfl rfl rfl rfl (by decide) ?_
                      refine wlg_no rfl rfl rfl rfl rfl (by decide) ?_
                      refine wlg_no rfl rfl rfl rfl rfl (by decide) ?_
                      refine wlv (op_pickF (lt_ rfl) rfl rfl) rfl ?_
                      refine wlv (op_assign (lt_ rfl) rfl) rfl ?_
                      refine WL.nil ?_
                      refine WX.regs (L' := [(60, _)]) ?_
                      refine WX.next ?_
                      refine WC.condF rfl ?_
                      refine WC.skip ?_
                      refine WX.in_normal ?_
                      refine WX.next ?_
                      refine WC.seq ?_
                      refine WC.region ?_
                      refine wlv (op_assign (lt_ rfl) rfl) rfl ?_
                      refine WL.nil ?_
                      refine WX.regs (L' := [(2, _)]) ?_
                      refine WX.next ?_
                      refine WC.ret ?_
                      exact Fin.ret1 xI (_) (by (try simp only []); unfold chk; (try simp only [fineP] at *); repeat (split); all_goals omega) Try.results73 (.tmp rfl) xT (by simp)
                ·
                  refine wlg_no rfl rfl rfl rfl rfl (by decide) ?_
                  refine wlg_no rfl rfl rfl rfl rfl (by decide) ?_
                  refine wlg_no rfl rfl rfl rfl rfl (by decide) ?_
                  refine wlgv (op_pickF (lt_ rfl) rfl rfl) rfl rfl rfl ?_
                  refine wlgv (op_move (lt_ rfl) rfl) rfl rfl rfl ?_
                  refine wlg_no rfl rfl rfl rfl rfl (by decide) ?_
                  refine wlg_no rfl rfl rfl rfl rfl (by decide) ?_
                  refine wlgv (op_pickF (lt_ rfl) rfl rfl) rfl rfl rfl ?_
                  refine wlv (op_pickF (lt_ rfl) rfl rfl) rfl ?_
                  refine wlv (op_assign (lt_ rfl) rfl) rfl ?_
                  refine WL.nil ?_
                  refine WX.regs (L' := [(1, _), (3, _), (4, _), (41, _)]) ?_
                  refine WX.next ?_
                  refine WC.condF rfl ?_
                  refine WC.seq ?_
                  refine WC.region ?_
                  refine wlv (op_move (lt_ rfl) rfl) rfl ?_
                  refine wlv (op_move (lt_ rfl) rfl) rfl ?_
                  refine WL.split (t := 62) rfl (fun g62 => ?_) (fun g62 => ?_)
                  ·
                    refine wlgv (op_fieldAddr fo96_3 (lt_ rfl) rfl) rfl rfl rfl ?_
                    refine wlgv (op_load1 fl3 (lt_ rfl) rfl xM rfl) rfl rfl rfl ?_
                    refine wlgv (op_mul (lt_ rfl) rfl rfl (by simp only [fineP] at *; omega)) rfl rfl rfl ?_
                    refine wlgv (op_move (lt_ rfl) rfl) rfl rfl rfl ?_
                    refine wlgv (op_add (lt_ rfl) rfl rfl (by simp only [fineP] at *; omega)) rfl rfl rfl ?_
                    refine wlgv (op_gtr (lt_ rfl) rfl rfl) rfl rfl rfl ?_
                    refine wlv (op_pickT (lt_ rfl) rfl rfl) rfl ?_
                    refine wlv (op_assign (lt_ rfl) rfl) rfl ?_
                    refine WL.nil ?_
                    refine WX.regs (L' := [(60, _)]) ?_
                    refine WX.next ?_
                    refine WC.cond rfl (fun h4 => ?_) (fun h4 => ?_)
                    ·
                      refine WC.seq ?_
                      refine WC.region ?_
                      refine wlv (op_assign (lt_ rfl) rfl) rfl ?_
                      refine WL.nil ?_
                      refine WX.regs (L' := [(2, _)]) ?_
                      refine WX.next ?_
                      refine WC.ret ?_
                      refine WX.in_ret ?_
                      refine WX.then_ret ?_
                      exact Fin.ret1 xI (_) (by (try simp only []); unfold chk; (try simp only [fineP] at *); repeat (split); all_goals omega) Try.results73 (.tmp rfl) xT (by simp)
                    ·
                      refine WC.skip ?_
                      refine WX.in_normal ?_
                      refine WX.next ?_
                      refine WC.seq ?_
                      refine WC.region ?_
                      refine wlv (op_assign (lt_ rfl) rfl) rfl ?_
                      refine WL.nil ?_
                      refine WX.regs (L' := [(2, _)]) ?_
                      refine WX.next ?_
                      refine WC.ret ?_
                      exact Fin.ret1 xI (_) (by (try simp only []); unfold chk; (try simp only [fineP] at *); repeat (split); all_goals omega) Try.results73 (.tmp rfl) xT (by simp)
                  ·
                    refine wlg_no rfl rfl rfl rfl rfl (by decide) ?_
                    refine wlg_no rfl rfl rfl rfl rfl (by decide) ?_
                    refine wlg_no rfl rfl rfl rfl rfl (by decide) ?_
                    refine wlg_no rfl rfl rfl rfl rfl (by decide) ?_
                    refine wlg_no rfl rfl rfl rfl rfl (by decide) ?_
                    refine wlg_no rfl rfl rfl rfl rfl (by decide) ?_
                    refine wlv (op_pickF (lt_ rfl) rfl rfl) rfl ?_
                    refine wlv (op_assign (lt_ rfl) rfl) rfl ?_
                    refine WL.nil ?_
                    refine WX.regs (L' := [(60, _)]) ?_
                    refine WX.next ?_
                    refine WC.condF rfl ?_
                    refine WC.skip ?_
                    refine WX.in_normal ?_
                    refine WX.next ?_
                    refine WC.seq ?_
                    refine WC.region ?_
                    refine wlv (op_assign (lt_ rfl) rfl) rfl ?_
                    refine WL.nil ?_
                    refine WX.regs (L' := [(2, _)]) ?_
                    refine WX.next ?_
                    refine WC.ret ?_
                    exact Fin.ret1 xI (_) (by (try simp only []); unfold chk; (try simp only [fineP] at *); repeat (split); all_goals omega) Try.results73 (.tmp rfl) xT (by simp)
            ·
              refine wlg_no rfl rfl rfl rfl rfl (by decide) ?_
              refine wlg_no rfl rfl rfl rfl rfl (by decide) ?_
              refine wlv (op_pickF (lt_ rfl) rfl rfl) rfl ?_
              refine wlv (op_move (lt_ rfl) rfl) rfl ?_
              refine wlgv (op_move (lt_ rfl) rfl) rfl rfl rfl ?_
              refine wlgv (op_move (lt_ rfl) rfl) rfl rfl rfl ?_
              refine WL.split (t := 50) rfl (fun g50 => ?_) (fun g50 => ?_)
              ·
                refine wlgv (op_fieldAddr fo96_4 (lt_ rfl) rfl) rfl rfl rfl ?_
                refine wlgv (op_load1 fl3 (lt_ rfl) rfl xM rfl) rfl rfl rfl ?_
                refine wlgv (op_gtr (lt_ rfl) rfl rfl) rfl rfl rfl ?_
                refine wlgv (op_pickT (lt_ rfl) rfl rfl) rfl rfl rfl ?_
                refine wlgv (op_move (lt_ rfl) rfl) rfl rfl rfl ?_
                refine WL.split (t := 55) rfl (fun g55 => ?_) (fun g55 => ?_)
                ·
                  refine wlgv (op_move (lt_ rfl) rfl) rfl rfl rfl ?_
                  refine wlgv (op_eql (lt_ rfl) rfl rfl) rfl rfl rfl ?_
                  refine wlgv (op_pickT (lt_ rfl) rfl rfl) rfl rfl rfl ?_
                  refine wlv (op_pickF (lt_ rfl) rfl rfl) rfl ?_
                  refine wlv (op_assign (lt_ rfl) rfl) rfl ?_
                  refine WL.nil ?_
                  refine WX.regs (L' := [(1, _), (3, _), (4, _), (41, _)]) ?_
                  refine WX.next ?_
                  refine WC.cond rfl (fun h3 => ?_) (fun h3 => ?_)
                  ·
                    refine WC.seq ?_
                    refine WC.region ?_
                    refine wlv (op_assign (lt_ rfl) rfl) rfl ?_
                    refine WL.nil ?_
                    refine WX.regs (L' := [(2, _)]) ?_
                    refine WX.next ?_
                    refine WC.ret ?_
                    refine WX.in_ret ?_
                    refine WX.then_ret ?_
                    exact Fin.ret1 xI (_) (by (try simp only []); unfold chk; (try simp only [fineP] at *); repeat (split); all_goals omega) Try.results73 (.tmp rfl) xT (by simp)
                  ·
                    refine WC.seq ?_
                    refine WC.region ?_
                    refine wlv (op_move (lt_ rfl) rfl) rfl ?_
                    refine wlv (op_move (lt_ rfl) rfl) rfl ?_
                    refine WL.split (t := 62) rfl (fun g62 => ?_) (fun g62 => ?_)
                    ·
                      refine wlgv (op_fieldAddr fo96_3 (lt_ rfl) rfl) rfl rfl rfl ?_
                      refine wlgv (op_load1 fl3 (lt_ rfl) rfl xM rfl) rfl rfl rfl ?_
                      refine wlgv (op_mul (lt_ rfl) rfl rfl (by simp only [fineP] at *; omega)) rfl rfl rfl ?_
                      refine wlgv (op_move (lt_ rfl) rfl) rfl rfl rfl ?_
                      refine wlgv (op_add (lt_ rfl) rfl rfl (by simp only [fineP] at *; omega)) rfl rfl rfl ?_
                      refine wlgv (op_gtr (lt_ rfl) rfl rfl) rfl rfl rfl ?_
                      refine wlv (op_pickT (lt_ rfl) rfl rfl) rfl ?_
                      refine wlv (op_assign (lt_ rfl) rfl) rfl ?_
                      refine WL.nil ?_
                      refine WX.regs (L' := [(60, _)]) ?_
                      refine WX.next ?_
                      refine WC.cond rfl (fun h4 => ?_) (fun h4 => ?_)
                      ·
                        refine WC.seq ?_
                        refine WC.region ?_
                        refine wlv (op_assign (lt_ rfl) rfl) rfl ?_
                        refine WL.nil ?_
                        refine WX.regs (L' := [(2, _)]) ?_
                        refine WX.next ?_
                        refine WC.ret ?_
                        refine WX.in_ret ?_
                        refine WX.then_ret ?_
                        exact Fin.ret1 xI (_) (by (try simp only []); unfold chk; (try simp only [fineP] at *); repeat (split); all_goals omega) Try.results73 (.tmp rfl) xT (by simp)
                      ·
                        refine WC.skip ?_
                        refine WX.in_normal ?_
                        refine WX.next ?_
                        refine WC.seq ?_
                        refine WC.region ?_
                        refine wlv (op_assign (lt_ rfl) rfl) rfl ?_
                        refine WL.nil ?_
                        refine WX.regs (L' := [(2, _)]) ?_
                        refine WX.next ?_
                        refine WC.ret ?_
                        exact Fin.ret1 xI (_) (by (try simp only []); unfold chk; (try simp only [fineP] at *); repeat (split); all_goals omega) Try.results73 (.tmp rfl) xT (by simp)
                    ·
                      refine wlg_no rfl rfl rfl rfl rfl (by decide) ?_
                      refine wlg_no rfl rfl rfl rfl rfl (by decide) ?_
                      refine wlg_no rfl rfl rfl rfl rfl (by decide) ?_
                      refine wlg_no rfl rfl rfl rfl rfl (by decide) ?_
                      refine wlg_no rfl rfl rfl rfl rfl (by decide) ?_
                      refine wlg_no rfl rfl rfl rfl rfl (by decide) ?_
                      refine wlv (op_pickF (lt_ rfl) rfl rfl) rfl ?_
                      refine wlv (op_assign (lt_ rfl) rfl) rfl ?_
                      refine WL.nil ?_
                      refine WX.regs (L' := [(60, _)]) ?_
                      refine WX.next ?_
                      refine WC.condF rfl ?_
                      refine WC.skip ?_
                      refine WX.in_normal ?_
                      refine WX.next ?_
                      refine WC.seq ?_
                      refine WC.region ?_
                      refine wlv (op_assign (lt_ rfl) rfl) rfl ?_
                      refine WL.nil ?_
                      refine WX.regs (L' := [(2, _)]) ?_
                      refine WX.next ?_
                      refine WC.ret ?_
                      exact Fin.ret1 xI (_) (by (try simp only []); unfold chk; (try simp only [fineP] at *); repeat (split); all_goals omega) Try.results73 (.tmp rfl) xT (by simp)
                ·
                  refine wlg_no rfl rfl rfl rfl rfl (by decide) ?_
                  refine wlg_no rfl rfl rfl rfl rfl (by decide) ?_
                  refine wlgv (op_pickF (lt_ rfl) rfl rfl) rfl rfl rfl ?_
                  refine wlv (op_pickF (lt_ rfl) rfl rfl) rfl ?_
                  refine wlv (op_assign (lt_ rfl) rfl) rfl ?_
                  refine WL.nil ?_
                  refine WX.regs (L' := [(1, _), (3, _), (4, _), (41, _)]) ?_
                  refine WX.next ?_
                  refine WC.condF rfl ?_
                  refine WC.seq ?_
                  refine WC.region ?_
                  refine wlv (op_move (lt_ rfl) rfl) rfl ?_
                  refine wlv (op_move (lt_ rfl) rfl) rfl ?_
                  refine WL.split (t := 62) rfl (fun g62 => ?_) (fun g62 => ?_)
                  ·
                    refine wlgv (op_fieldAddr fo96_3 (lt_ rfl) rfl) rfl rfl rfl ?_
                    refine wlgv (op_load1 fl3 (lt_ rfl) rfl xM rfl) rfl rfl rfl ?_
                    refine wlgv (op_mul (lt_ rfl) rfl rfl (by simp only [fineP] at *; omega)) rfl rfl rfl ?_
                    refine wlgv (op_move (lt_ rfl) rfl) rfl rfl rfl ?_
                    refine wlgv (op_add (lt_ rfl) rfl rfl (by simp only [fineP] at *; omega)) rfl rfl rfl ?_
                    refine wlgv (op_gtr (lt_ rfl) rfl rfl) rfl rfl rfl ?_
                    refine wlv (op_pickT (lt_ rfl) rfl rfl) rfl ?_
                    refine wlv (op_assign (lt_ rfl) rfl) rfl ?_
                    refine WL.nil ?_
                    refine WX.regs (L' := [(60, _)]) ?_
                    refine WX.next ?_
                    refine WC.cond rfl (fun h4 => ?_) (fun h4 => ?_)
                    ·
                      refine WC.seq ?_
                      refine WC.region ?_
                      refine wlv (op_assign (lt_ rfl) rfl) rfl ?_
                      refine WL.nil ?_
                      refine WX.regs (L' := [(2, _)]) ?_
                      refine WX.next ?_
                      refine WC.ret ?_
                      refine WX.in_ret ?_
                      refine WX.then_ret ?_
                      exact Fin.ret1 xI (_) (by (try simp only []); unfold chk; (try simp only [fineP] at *); repeat (split); all_goals omega) Try.results73 (.tmp rfl) xT (by simp)
                    ·
                      refine WC.skip ?_
                      refine WX.in_normal ?_
                      refine WX.next ?_
                      refine WC.seq ?_
                      refine WC.region ?_
                      refine wlv (op_assign (lt_ rfl) rfl) rfl ?_
                      refine WL.nil ?_
                      refine WX.regs (L' := [(2, _)]) ?_
                      refine WX.next ?_
                      refine WC.ret ?_
                      exact Fin.ret1 xI (_) (by (try simp only []); unfold chk; (try simp only [fineP] at *); repeat (split); all_goals omega) Try.results73 (.tmp rfl) xT (by simp)
                  ·
                    refine wlg_no rfl rfl rfl rfl rfl (by decide) ?_
                    refine wlg_no rfl rfl rfl rfl rfl (by decide) ?_
                    refine wlg_no rfl rfl rfl rfl rfl (by decide) ?_
                    refine wlg_no rfl rfl rfl rfl rfl (by decide) ?_
                    refine wlg_no rfl rfl rfl rfl rfl (by decide) ?_
                    refine wlg_no rfl rfl rfl rfl rfl (by decide) ?_
                    refine wlv (op_pickF (lt_ rfl) rfl rfl) rfl ?_
                    refine wlv (op_assign (lt_ rfl) rfl) rfl ?_
                    refine WL.nil ?_
                    refine WX.regs (L' := [(60, _)]) ?_
                    refine WX.next ?_
                    refine WC.condF rfl ?_
                    refine WC.skip ?_
                    refine WX.in_normal ?_
                    refine WX.next ?_
                    refine WC.seq ?_
                    refine WC.region ?_
                    refine wlv (op_assign (lt_ rfl) rfl) rfl ?_
                    refine WL.nil ?_
                    refine WX.regs (L' := [(2, _)]) ?_
                    refine WX.next ?_
                    refine WC.ret ?_
                    exact Fin.ret1 xI (_) (by (try simp only []); unfold chk; (try simp only [fineP] at *); repeat (split); all_goals omega) Try.results73 (.tmp rfl) xT (by simp)
              ·
                refine wlg_no rfl rfl rfl rfl rfl (by decide) ?_
                refine wlg_no rfl rfl rfl rfl rfl (by decide) ?_
                refine wlg_no rfl rfl rfl rfl rfl (by decide) ?_
                refine wlgv (op_pickF (lt_ rfl) rfl rfl) rfl rfl rfl ?_
                refine wlgv (op_move (lt_ rfl) rfl) rfl rfl rfl ?_
                refine wlg_no rfl rfl rfl rfl rfl (by decide) ?_
                refine wlg_no rfl rfl rfl rfl rfl (by decide) ?_
                refine wlgv (op_pickF (lt_ rfl) rfl rfl) rfl rfl rfl ?_
                refine wlv (op_pickF (lt_ rfl) rfl rfl) rfl ?_
                refine wlv (op_assign (lt_ rfl) rfl) rfl ?_
                refine WL.nil ?_
                refine WX.regs (L' := [(1, _), (3, _), (4, _), (41, _)]) ?_
                refine WX.next ?_
                refine WC.condF rfl ?_
                refine WC.seq ?_
                refine WC.region ?_
                refine wlv (op_move (lt_ rfl) rfl) rfl ?_
                refine wlv (op_move (lt_ rfl) rfl) rfl ?_
                refine WL.split (t := 62) rfl (fun g62 => ?_) (fun g62 => ?_)
                ·
                  refine wlgv (op_fieldAddr fo96_3 (lt_ rfl) rfl) rfl rfl rfl ?_
                  refine wlgv (op_load1 fl3 (lt_ rfl) rfl xM rfl) rfl rfl rfl ?_
                  refine wlgv (op_mul (lt_ rfl) rfl rfl (by simp only [fineP] at *; omega)) rfl rfl rfl ?_
                  refine wlgv (op_move (lt_ rfl) rfl) rfl rfl rfl ?_
                  refine wlgv (op_add (lt_ rfl) rfl rfl (by simp only [fineP] at *; omega)) rfl rfl rfl ?_
                  refine wlgv (op_gtr (lt_ rfl) rfl rfl) rfl rfl rfl ?_
                  refine wlv (op_pickT (lt_ rfl) rfl rfl) rfl ?_
                  refine wlv (op_assign (lt_ rfl) rfl) rfl ?_
                  refine WL.nil ?_
                  refine WX.regs (L' := [(60, _)]) ?_
                  refine WX.next ?_
                  refine WC.cond rfl (fun h4 => ?_) (fun h4 => ?_)
                  ·
                    refine WC.seq ?_
                    refine WC.region ?_
                    refine wlv (op_assign (lt_ rfl) rfl) rfl ?_
                    refine WL.nil ?_
                    refine WX.regs (L' := [(2, _)]) ?_
                    refine WX.next ?_
                    refine WC.ret ?_
                    refine WX.in_ret ?_
                    refine WX.then_ret ?_
                    exact Fin.ret1 xI (_) (by (try simp only []); unfold chk; (try simp only [fineP] at *); repeat (split); all_goals omega) Try.results73 (.tmp rfl) xT (by simp)
                  ·
                    refine WC.skip ?_
                    refine WX.in_normal ?_
                    refine WX.next ?_
                    refine WC.seq ?_
                    refine WC.region ?_
                    refine wlv (op_assign (lt_ rfl) rfl) rfl ?_
                    refine WL.nil ?_
                    refine WX.regs (L' := [(2, _)]) ?_
                    refine WX.next ?_
                    refine WC.ret ?_
                    exact Fin.ret1 xI (_) (by (try simp only []); unfold chk; (try simp only [fineP] at *); repeat (split); all_goals omega) Try.results73 (.tmp rfl) xT (by simp)
                ·
                  refine wlg_no rfl rfl rfl rfl rfl (by decide) ?_
                  refine wlg_no rfl rfl rfl rfl rfl (by decide) ?_
                  refine wlg_no rfl rfl rfl rfl rfl (by decide) ?_
                  refine wlg_no rfl rfl rfl rfl rfl (by decide) ?_
                  refine wlg_no rfl rfl rfl rfl rfl (by decide) ?_
                  refine wlg_no rfl rfl rfl rfl rfl (by decide) ?_
                  refine wlv (op_pickF (lt_ rfl) rfl rfl) rfl ?_
                  refine wlv (op_assign (lt_ rfl) rfl) rfl ?_
                  refine WL.nil ?_
                  refine WX.regs (L' := [(60, _)]) ?_
                  refine WX.next ?_
                  refine WC.condF rfl ?_
                  refine WC.skip ?_
                  refine WX.in_normal ?_
                  refine WX.next ?_
                  refine WC.seq ?_
                  refine WC.region ?_
                  refine wlv (op_assign (lt_ rfl) rfl) rfl ?_
                  refine WL.nil ?_
                  refine WX.regs (L' := [(2, _)]) ?_
                  refine WX.next ?_
                  refine WC.ret ?_
                  exact Fin.ret1 xI (_) (by (try simp only []); unfold chk; (try simp only [fineP] at *); repeat (split); all_goals omega) Try.results73 (.tmp rfl) xT (by simp)
set_option maxHeartbeats 400000 in
set_option maxRecDepth 10000 in
theorem f70_spec (b : Nat) :
    Spec Try.prog 70 [.pointer (some ⟨b, 0, none⟩)] [] [] (R := Unit) (fun _ => True) (fun _ => .agg (fcells b).toArray) (fun _ => []) := by
  refine Spec.intro Try.func70 Try.ntmps70 rfl (by simp) (by simp) fun w0 => ?_
  refine WC.seq ?_
  refine WC.region ?_
  refine wl1 (op_alloc ti121 (lt_ rfl)) rfl fun b1 => ?_
  refine WL.nil ?_
  refine WX.regs (L' := [(0, _), (2, _)]) ?_
  refine WX.next ?_
  refine WC.seq ?_
  refine WC.drawnH mo 30 ?_
  refine WA.take (i := 0) rfl (by kernel_rfl) (fun _ _ _ h => h) rfl (op_move (lt_ rfl) rfl) xT ?_
  refine WA.take (i := 1) rfl (by kernel_rfl) (fun _ _ _ h => h) rfl (op_nilCheck (lt_ rfl) rfl) xT ?_
  refine WA.take (i := 2) rfl (by kernel_rfl) (fun _ _ _ h => h) rfl (op_fieldAddr fo118_0 (lt_ rfl) rfl) xT ?_
  refine WA.take (i := 3) rfl (by kernel_rfl) (fun _ _ _ h => h) rfl (op_fieldAddr fo96_1 (lt_ rfl) rfl) xT ?_
  refine WA.take (i := 4) rfl (by kernel_rfl) (fun _ _ _ h => h) rfl (op_build (cs := [.pointer (some ⟨b, 1, none⟩), .int .i64 4]) (pv := [(0, _), (1, _)]) (lt_ rfl) rfl (by kernel_rfl)) xT ?_
  refine WA.take (i := 5) rfl (by kernel_rfl) (fun _ _ _ h => h) rfl (op_move (lt_ rfl) rfl) xT ?_
  refine WA.take (i := 6) rfl (by kernel_rfl) (fun _ _ _ h => h) rfl (op_nilCheck (lt_ rfl) rfl) xT ?_
  refine WA.take (i := 7) rfl (by kernel_rfl) (fun _ _ _ h => h) rfl (op_fieldAddr fo118_0 (lt_ rfl) rfl) xT ?_
  refine WA.take (i := 8) rfl (by kernel_rfl) (fun _ _ _ h => h) rfl (op_fieldAddr fo96_2 (lt_ rfl) rfl) xT ?_
  refine WA.take (i := 9) rfl (by kernel_rfl) (fun _ _ _ h => h) rfl (op_build (cs := [.pointer (some ⟨b, 2, none⟩), .int .i64 4]) (pv := [(0, _), (1, _)]) (lt_ rfl) rfl (by kernel_rfl)) xT ?_
  refine WA.take (i := 10) rfl (by kernel_rfl) (fun _ _ _ h => h) rfl (op_move (lt_ rfl) rfl) xT ?_
  refine WA.take (i := 11) rfl (by kernel_rfl) (fun _ _ _ h => h) rfl (op_nilCheck (lt_ rfl) rfl) xT ?_
  refine WA.take (i := 12) rfl (by kernel_rfl) (fun _ _ _ h => h) rfl (op_fieldAddr fo118_0 (lt_ rfl) rfl) xT ?_
  refine WA.take (i := 13) rfl (by kernel_rfl) (fun _ _ _ h => h) rfl (op_fieldAddr fo96_0 (lt_ rfl) rfl) xT ?_
  refine WA.take (i := 14) rfl (by kernel_rfl) (fun _ _ _ h => h) rfl (op_build (cs := [.pointer (some ⟨b, 0, none⟩), .int .i64 2]) (pv := [(0, _), (1, _)]) (lt_ rfl) rfl (by kernel_rfl)) xT ?_
  refine WA.take (i := 15) rfl (by kernel_rfl) (fun _ _ _ h => h) rfl (op_move (lt_ rfl) rfl) xT ?_
  refine WA.take (i := 16) rfl (by kernel_rfl) (fun _ _ _ h => h) rfl (op_nilCheck (lt_ rfl) rfl) xT ?_
  refine WA.take (i := 17) rfl (by kernel_rfl) (fun _ _ _ h => h) rfl (op_fieldAddr fo118_0 (lt_ rfl) rfl) xT ?_
  refine WA.take (i := 18) rfl (by kernel_rfl) (fun _ _ _ h => h) rfl (op_fieldAddr fo96_3 (lt_ rfl) rfl) xT ?_
  refine WA.take (i := 19) rfl (by kernel_rfl) (fun _ _ _ h => h) rfl (op_build (cs := [.pointer (some ⟨b, 3, none⟩), .int .i64 2]) (pv := [(0, _), (1, _)]) (lt_ rfl) rfl (by kernel_rfl)) xT ?_
  refine WA.take (i := 20) rfl (by kernel_rfl) (fun _ _ _ h => h) rfl (op_move (lt_ rfl) rfl) xT ?_
  refine WA.take (i := 21) rfl (by kernel_rfl) (fun _ _ _ h => h) rfl (op_nilCheck (lt_ rfl) rfl) xT ?_
  refine WA.take (i := 22) rfl (by kernel_rfl) (fun _ _ _ h => h) rfl (op_fieldAddr fo118_0 (lt_ rfl) rfl) xT ?_
  refine WA.take (i := 23) rfl (by kernel_rfl) (fun _ _ _ h => h) rfl (op_fieldAddr fo96_4 (lt_ rfl) rfl) xT ?_
  refine WA.take (i := 24) rfl (by kernel_rfl) (fun _ _ _ h => h) rfl (op_build (cs := [.pointer (some ⟨b, 4, none⟩), .int .i64 2]) (pv := [(0, _), (1, _)]) (lt_ rfl) rfl (by kernel_rfl)) xT ?_
  refine WA.take (i := 25) rfl (by kernel_rfl) (fun _ _ _ h => h) rfl (op_move (lt_ rfl) rfl) xT ?_
  refine WA.take (i := 26) rfl (by kernel_rfl) (fun _ _ _ h => h) rfl (op_nilCheck (lt_ rfl) rfl) xT ?_
  refine WA.take (i := 27) rfl (by kernel_rfl) (fun _ _ _ h => h) rfl (op_fieldAddr fo118_1 (lt_ rfl) rfl) xT ?_
  refine WA.take (i := 28) rfl (by kernel_rfl) (fun _ _ _ h => h) rfl (op_build (cs := [.pointer (some ⟨b, 6, none⟩), .int .i64 2]) (pv := [(0, _), (1, _)]) (lt_ rfl) rfl (by kernel_rfl)) xT ?_
  refine WA.take (i := 29) rfl (by kernel_rfl) (fun _ _ _ h => h) rfl (op_build (cs := (fcells b)) (pv := [(0, _), (1, _), (2, _), (3, _), (4, _), (5, _)]) (lt_ rfl) rfl (by kernel_rfl)) xT ?_
  refine WA.stepo (G := []) (i := 30) (by kernel_rfl) rfl rfl (op_storeAll sz121 rfl rfl xK xL xO xL) (fun h => absurd rfl h) ?_
  refine WA.done (by kernel_rfl) ?_
  refine WX.regs (L' := [(2, _)]) ?_
  refine WX.next ?_
  refine WC.ret ?_
  exact Fin.ret1 xI (()) (trivial) Try.results70 (.cellN rfl ag121 xM xL) xT (by simp)
end Go.Proofs.Ytkjlbedebmffgaa.Sx

set_option linter.unusedVariables false
set_option linter.unusedSimpArgs false
namespace Go.Proofs.Ytkjlbedebmffgaa.Sx
open Go.RowKit Go.Proofs.Ytkjlbedebmffgaa.Ty
attribute [local irreducible] blk own rd rx frameC

def z16 : List UInt8 := List.replicate 16 0
theorem z16_length : z16.length = 16 := rfl
theorem chk_ok {k g n i c : Int} {m : Nat} (h : chk k g n i c m = 0) : fineP k g n ∧ 1 ≤ c ∧ c ≤ 586 ∧ 0 ≤ i ∧ i < c ∧ m ≤ 224 := by
  unfold chk at h
  split at h
  · omega
  · split at h
    · omega
    · rename_i h1 h2
      simp only [fineP] at *
      omega
theorem fv_lt (k g n i c m : Nat) (j : Nat) (hk : k < 65536) (hg : g < 2147483648) (hn : n < 2147483648) (hi : i < 65536) (hc : c < 65536) (hm : m < 65536) : fv k g n i c m j < 2147483648 := by
  unfold fv
  split <;> omega
theorem fil_step (k g n i c m j r : Nat) (h : r < fz j) (hj : j < 6) :
    pset (bvs (fil (z16 ++ hp k g n i c m j ++ (be (fv k g n i c m j) (fz j)).take r))) (16 + (hp k g n i c m j).length + r) (bvs [UInt8.ofNat (((fv k g n i c m j : Nat) : Int) / ((2 ^ (8 * (((fz j : Nat) : Int) - 1 - (r : Int))).toNat : Nat) : Int)).toNat])
      = bvs (fil (z16 ++ hp k g n i c m j ++ (be (fv k g n i c m j) (fz j)).take (r + 1))) := by
  have hl := hp_len k g n i c m j (by omega)
  have hz := fz_le j
  have e1 : (8 * (((fz j : Nat) : Int) - 1 - (r : Int))).toNat = 8 * (fz j - 1 - r) := by omega
  have e2 : (2 : Nat) ^ (8 * (fz j - 1 - r)) = 256 ^ (fz j - 1 - r) := by rw [Nat.pow_mul]
  have e3 : (((fv k g n i c m j : Nat) : Int) / ((256 ^ (fz j - 1 - r) : Nat) : Int)).toNat = fv k g n i c m j / 256 ^ (fz j - 1 - r) := by rw [← Int.natCast_ediv]; exact Int.toNat_natCast _
  rw [e1, e2, e3, be_take _ _ _ h, ← List.append_assoc]
  refine fil_app _ [_] _ ?_ ?_
  · simp only [List.length_append, z16_length, List.length_take, be_length]; omega
  · simp only [List.length_singleton]; omega
theorem fil_drop (x : List UInt8) (h : x.length ≤ 240) : (fil (z16 ++ x)).drop 16 = sealR x := by
  unfold fil sealR
  have e : ∀ l : List UInt8, (z16 ++ l).drop 16 = l := fun l => rfl
  rw [List.append_assoc, e, List.take_of_length_le (by simp; omega), List.length_append, z16_length]
  congr 2
  omega
theorem fil_seal (x : List UInt8) (h : x.length ≤ 240) : pset (bvs (fil (z16 ++ x))) 0 (bvs ((sha (sealR x)).take 16)) = bvs (sealB x) := by
  rw [pset_bvs]
  have : 0 + ((sha (sealR x)).take 16).length = 16 := by simp [sha_length]
  rw [this, fil_drop x h]
  rfl
set_option maxHeartbeats 400000 in
set_option maxRecDepth 10000 in
theorem f66_spec (k g n i c : Int) (A : Option Addr) (m cap : Nat) (bs : List UInt8) (hm : bs.length = m) :
    Spec Try.prog 66 [.agg (pcells k g n i c (.slice A m cap)).toArray] [] [rd (.slice A m cap) 1 m (bvs bs)] (R := Option Addr × Nat × List UInt8 × Int × Nat)
      (fun q => q.2.2.1 = encP k g n i c bs ∧ q.2.2.2.1 = chk k g n i c m ∧ q.2.2.2.2 = q.2.2.1.length) (fun q => .tuple #[.slice q.1 q.2.2.2.2 q.2.1, .int .i64 q.2.2.2.1]) (fun q => [own (.slice q.1 q.2.2.2.2 q.2.1) 5 1 q.2.2.2.2 (bvs q.2.2.1)]) := by
  refine Spec.intro Try.func66 Try.ntmps66 rfl (by simp) (by simp) fun w0 => ?_
  refine WC.seq ?_
  refine WC.region ?_
  refine wl1 (op_box (lt_ rfl) rfl rfl) rfl fun b1 => ?_
  refine wlv (op_assign (lt_ rfl) rfl) rfl ?_
  refine wlv (op_assign (lt_ rfl) rfl) rfl ?_
  refine WL.nil ?_
  refine WX.regs (L' := [(1, _)]) ?_
  refine WX.next ?_
  refine WC.seq ?_
  refine WC.seq ?_
  refine WC.region ?_
  refine wlv (op_loadAll ag96 (lt_ rfl) rfl xM xL) rfl ?_
  refine wlx (op_call (f73_spec k g n i c A m cap) ca73 (lt_ rfl) rfl) rfl ?_
  rintro _ rfl
  refine wlv (op_assign (lt_ rfl) rfl) rfl ?_
  refine WL.nil ?_
  refine WX.regs (L' := [(1, _), (4, _)]) ?_
  refine WX.next ?_
  refine WC.seq ?_
  refine WC.region ?_
  refine wlv (op_move (lt_ rfl) rfl) rfl ?_
  refine wlv (op_neq (lt_ rfl) rfl rfl) rfl ?_
  refine WL.nil ?_
  refine WX.regs (L' := [(1, _), (4, _), (14, _)]) ?_
  refine WX.next ?_
  refine WC.cond rfl (fun h1 => ?_) (fun h1 => ?_)
  ·
    refine WC.seq ?_
    refine WC.region ?_
    refine wlv (op_move (lt_ rfl) rfl) rfl ?_
    refine wlv (op_assign (lt_ rfl) rfl) rfl ?_
    refine wlv (op_assign (lt_ rfl) rfl) rfl ?_
    refine WL.nil ?_
    refine WX.nilown 5 1 ?_
    refine WX.regs (L' := [(2, _), (3, _)]) ?_
    refine WX.next ?_
    refine WC.ret ?_
    refine WX.then_ret ?_
    exact Fin.ret2 xI ((none, 0, [], chk k g n i c m, 0)) (⟨by unfold encP; rw [if_neg (by rw [hm]; exact h1)], rfl, rfl⟩) Try.results66 rfl (.tmp rfl) (.tmp rfl) xT (by simp)
  ·
    have h0 : chk k g n i c m = 0 := by omega
    obtain ⟨hf, hc1, hc2, hi1, hi2, h224⟩ := chk_ok h0
    simp only [fineP] at hf
    obtain ⟨k, rfl⟩ := Int.eq_ofNat_of_zero_le hf.1
    obtain ⟨g, rfl⟩ := Int.eq_ofNat_of_zero_le hf.2.2.1
    obtain ⟨n, rfl⟩ := Int.eq_ofNat_of_zero_le hf.2.2.2.2.1
    obtain ⟨i, rfl⟩ := Int.eq_ofNat_of_zero_le hi1
    obtain ⟨c, rfl⟩ := Int.eq_ofNat_of_zero_le (by omega : 0 ≤ c)
    refine WC.skip ?_
    refine WX.next ?_
    refine WC.seq ?_
    refine WC.region ?_
    refine wlv (op_loadAll ag96 (lt_ rfl) rfl xM xL) rfl ?_
    refine wlv (op_fieldAddr fo96_5 (lt_ rfl) rfl) rfl ?_
    refine wlv (op_load1 fl23 (lt_ rfl) rfl xM rfl) rfl ?_
    refine wlv (op_len Try.underlying23 (lt_ rfl) rfl) rfl ?_
    refine wlv (op_build (cs := (hdc k g n i c (.slice A m cap) m)) (pv := [(0, _), (1, _)]) (lt_ rfl) rfl (by kernel_rfl)) rfl ?_
    refine wl1 (op_alloc ti118 (lt_ rfl)) rfl fun b2 => ?_
    refine wl (op_storeAll sz118 rfl rfl xK xL xO xL) rfl ?_
    change WL _ _ _ _ _ _ _
    refine WL.nil ?_
    refine WX.regs (L' := [(1, _), (5, _)]) ?_
    refine WX.next ?_
    refine WC.seq ?_
    refine WC.region ?_
    refine wl1 (op_make (z1 := (.int .u8 0)) (sz := 1) (zero := []) Try.underlying23 ti5 (lt_ rfl) rfl rfl (by omega) (by omega) (by omega) (by omega)) rfl fun b3 => ?_
    refine WL.blkEq (b := b3) (bvs (fil (z16 ++ hp k g n i c m 0))) xK (by rfl) ?_
    refine wlv (op_assign (lt_ rfl) rfl) rfl ?_
    refine WL.nil ?_
    refine WX.regs (L' := [(1, _), (5, _), (6, _)]) ?_
    refine WX.next ?_
    refine WC.seq ?_
    refine WC.seq ?_
    refine WC.region ?_
    refine wlx (op_call (f70_spec b2) ca70 (lt_ rfl) rfl) rfl ?_
    rintro _ _
    refine wlv (op_move (lt_ rfl) rfl) rfl ?_
    refine WL.nil ?_
    refine WX.regs (L' := [(1, _), (6, _), (22, _), (23, _)]) ?_
    refine WX.next ?_
    refine WC.block ?_
    refine WC.loop (X := Nat) (fun j => 6 - j) (fun j => j ≤ 6) (fun j => [(1, .pointer (some ⟨b1, 0, none⟩)), (6, .slice (some ⟨b3, 0, none⟩) (16 + (hp k g n i c m j).length) 256), (22, .agg (fcells b2).toArray), (23, .int .i64 (j : Int))]) (fun j => [blk b3 (bvs (fil (z16 ++ hp k g n i c m j))) 5, blk b2 (hdc k g n i c (.slice A m cap) m) 118, blk b1 (pcells k g n i c (.slice A m cap)) 96, rd (.slice A m cap) 1 m (bvs bs), frameC w0 (MutF [])]) (0) (by omega) (fun a w hs => hs.sub xY xT) ?_
    rintro j hj
    try dsimp only
    have hlj := hp_len k g n i c m j hj
    have hz := fz_le j
    have hfv := fv_lt k g n i c m j (by omega) (by omega) (by omega) (by omega) (by omega) (by omega)
    refine WC.seq ?_
    refine WC.region ?_
    refine wlv (op_lss (lt_ rfl) rfl rfl) rfl ?_
    refine WL.nil ?_
    refine WX.regs (L' := [(1, _), (6, _), (22, _), (23, _), (24, _)]) ?_
    refine WX.next ?_
    refine WC.seq ?_
    refine WC.cond rfl (fun h2 => ?_) (fun h2 => ?_)
    ·
      refine WC.skip ?_
      refine WX.next ?_
      refine WC.seq ?_
      refine WC.block ?_
      refine WC.seq ?_
      refine WC.region ?_
      refine wlv (op_indexVN Try.underlying121 sz120 ag120 (by decide) rfl rfl (by omega) (by omega) (fcells_at b2 j (by omega)) (by simp [fcells]; omega)) rfl ?_
      refine wl1 (op_alloc ti120 (lt_ rfl)) rfl fun b4 => ?_
      refine wl (op_storeAll sz120 rfl rfl xK xL xO xL) rfl ?_
      change WL _ _ _ _ _ _ _
      refine WL.nil ?_
      refine WX.regs (L' := [(1, _), (6, _), (8, _), (22, _), (23, _)]) ?_
      refine WX.next ?_
      refine WC.seq ?_
      refine WC.region ?_
      refine wlv (op_fieldAddr fo120_1 (lt_ rfl) rfl) rfl ?_
      refine wlv (op_load1 fl3 (lt_ rfl) rfl xM rfl) rfl ?_
      refine wlv (op_sub (lt_ rfl) rfl rfl (by omega)) rfl ?_
      refine wlv (op_assign (lt_ rfl) rfl) rfl ?_
      refine WL.nil ?_
      refine WX.regs (L' := [(1, _), (6, _), (8, _), (9, _), (22, _), (23, _)]) ?_
      refine WX.next ?_
      refine WC.block ?_
      rw [show z16 ++ hp k g n i c m j = z16 ++ hp k g n i c m j ++ (be (fv k g n i c m j) (fz j)).take 0 by simp]
      refine WC.loop (X := Nat) (fun r => fz j - r) (fun r => r ≤ fz j) (fun r => [(1, .pointer (some ⟨b1, 0, none⟩)), (6, .slice (some ⟨b3, 0, none⟩) (16 + (hp k g n i c m j).length + r) 256), (8, .pointer (some ⟨b4, 0, none⟩)), (9, .int .i64 (((fz j : Nat) : Int) - 1 - (r : Int))), (22, .agg (fcells b2).toArray), (23, .int .i64 (j : Int))]) (fun r => [blk b3 (bvs (fil (z16 ++ hp k g n i c m j ++ (be (fv k g n i c m j) (fz j)).take r))) 5, blk b4 [.pointer (some ⟨b2, fo j, none⟩), .int .i64 ((fz j : Nat) : Int)] 120, blk b2 (hdc k g n i c (.slice A m cap) m) 118, blk b1 (pcells k g n i c (.slice A m cap)) 96, rd (.slice A m cap) 1 m (bvs bs), frameC w0 (MutF [])]) (0) (by omega) (fun a w hs => hs.sub xY xT) ?_
      rintro r hr
      try dsimp only
      refine WC.seq ?_
      refine WC.seq ?_
      refine WC.region ?_
      refine wlv (op_move (lt_ rfl) rfl) rfl ?_
      refine wlv (op_geq (lt_ rfl) rfl rfl) rfl ?_
      refine WL.nil ?_
      refine WX.regs (L' := [(1, _), (6, _), (8, _), (9, _), (22, _), (23, _), (30, _)]) ?_
      refine WX.next ?_
      refine WC.cond rfl (fun h3 => ?_) (fun h3 => ?_)
      ·
        refine WC.skip ?_
        refine WX.next ?_
        refine WC.seq ?_
        refine WC.block ?_
        refine WC.region ?_
        refine wlv (op_move (lt_ rfl) rfl) rfl ?_
        refine wlv (op_fieldAddr fo120_0 (lt_ rfl) rfl) rfl ?_
        refine wlv (op_load1 fl119 (lt_ rfl) rfl xM rfl) rfl ?_
        refine wlv (op_nilCheck (lt_ rfl) rfl) rfl ?_
        refine wlv (op_load1 fl3 (lt_ rfl) rfl xM (hdc_at k g n i c m _ j (by omega))) rfl ?_
        refine wlv (op_move (lt_ rfl) rfl) rfl ?_
        refine wlv (op_mul (lt_ rfl) rfl rfl (by omega)) rfl ?_
        refine wlv (op_shri (lt_ rfl) rfl rfl (by omega)) rfl ?_
        refine wlv (op_convByte (by kernel_rfl) Try.underlying5 (lt_ rfl) rfl (Int.ediv_nonneg (by omega) (Int.natCast_nonneg _))) rfl ?_
        refine wl1 (op_lit1 Try.underlying23 ti5 rfl (by decide) (lt_ rfl) rfl rfl) rfl fun b5 => ?_
        refine wl (op_appendBlk Try.underlying23 ti5 (by decide) rfl rfl xK xS (bvs_one [_]) (by omega) (by rw [bvs_length, fil_length _ (by simp [z16_length]; omega)])) rfl ?_
        change WL _ _ _ _ _ _ _
        refine wlv (op_assign (lt_ rfl) rfl) rfl ?_
        refine WL.nil ?_
        refine WX.blkEq (b := b3) _ xK (fil_step k g n i c m j r (by omega) (by omega)) ?_
        refine WX.regs (L' := [(1, _), (6, _), (8, _), (9, _), (22, _), (23, _)]) ?_
        refine WX.in_normal ?_
        refine WX.next ?_
        refine WC.region ?_
        refine wlv (op_move (lt_ rfl) rfl) rfl ?_
        refine wlv (op_sub (lt_ rfl) rfl rfl (by omega)) rfl ?_
        refine wlv (op_assign (lt_ rfl) rfl) rfl ?_
        refine WL.nil ?_
        refine WX.regs (L' := [(1, _), (6, _), (8, _), (9, _), (22, _), (23, _)]) ?_
        refine WX.meet (r + 1) ⟨by omega, by omega⟩ (fun a w hs => hs.sub xY xT)
      ·
        refine WC.exit ?_
        refine WX.then_exit ?_
        refine WX.then_exit ?_
        refine WX.in_hit ?_
        refine WX.in_normal ?_
        refine WX.next ?_
        refine WC.region ?_
        refine wlv (op_add (lt_ rfl) rfl rfl (by omega)) rfl ?_
        refine wlv (op_move (lt_ rfl) rfl) rfl ?_
        refine WL.nil ?_
        refine WX.regs (L' := [(1, _), (6, _), (22, _), (23, _)]) ?_
        obtain rfl : r = fz j := by omega
        rw [show z16 ++ hp k g n i c m j ++ (be (fv k g n i c m j) (fz j)).take (fz j) = z16 ++ hp k g n i c m (j + 1) by rw [List.take_of_length_le (by simp)]; simp [hp], show 16 + (hp k g n i c m j).length + fz j = 16 + (hp k g n i c m (j + 1)).length by simp [hp]; omega]
        refine WX.meet (j + 1) ⟨by omega, by omega⟩ (fun a w hs => hs.sub xY xT)
    ·
      refine WC.exit ?_
      refine WX.then_exit ?_
      refine WX.then_exit ?_
      refine WX.in_hit ?_
      refine WX.next ?_
      refine WC.seq ?_
      refine WC.region ?_
      obtain rfl : j = 6 := by omega
      rw [hp_end, hdr_length]
      refine wlv (op_move (lt_ rfl) rfl) rfl ?_
      refine wlv (op_fieldAddr fo96_5 (lt_ rfl) rfl) rfl ?_
      refine wlv (op_load1 fl23 (lt_ rfl) rfl xM rfl) rfl ?_
      refine wl (op_appendBlk Try.underlying23 ti5 (by decide) rfl rfl xK xS (bvs_one _) (by omega) (by rw [bvs_length, fil_length _ (by simp [z16_length, hdr_length])])) rfl ?_
      change WL _ _ _ _ _ _ _
      rw [fil_app _ bs 32 (by simp [z16_length, hdr_length]) (by omega), List.append_assoc]
      refine wlv (op_assign (lt_ rfl) rfl) rfl ?_
      refine WL.nil ?_
      refine WX.regs (L' := [(6, _)]) ?_
      refine WX.next ?_
      refine WC.seq ?_
      refine WC.region ?_
      refine wlv (op_move (lt_ rfl) rfl) rfl ?_
      refine wlv (op_slice_h Try.underlying23 sz5 (lt_ rfl) rfl rfl (by omega) (by omega)) rfl ?_
      refine wlv (op_assign (lt_ rfl) rfl) rfl ?_
      refine WL.nil ?_
      refine WX.regs (L' := [(6, _)]) ?_
      refine WX.next ?_
      refine WC.seq ?_
      refine WC.region ?_
      refine wlv (op_move (lt_ rfl) rfl) rfl ?_
      refine wlx (op_call (f68_spec (some ⟨b3, 0, none⟩) 256 256 (fil (z16 ++ (hdr k g n i c m ++ bs))) (fil_length _ (by simp [z16_length, hdr_length]; omega)) (by decide) (by decide)) ca68 (lt_ rfl) rfl (by apply Give.mk; (exact Takes.nil); exact Reads.cons (c := blk b3 (bvs (fil (z16 ++ (hdr k g n i c m ++ bs)))) 5) xM (by simp) (blk_whole_rd (by rw [bvs_length, fil_length _ (by simp [z16_length, hdr_length]; omega)]) (by decide)) Reads.nil)) rfl ?_
      rintro _ _
      refine wl1 (op_alloc ti114 (lt_ rfl)) rfl fun b6 => ?_
      refine wl (op_storeAll sz114 rfl rfl xK xL xO xL) rfl ?_
      change WL _ _ _ _ _ _ _
      refine WL.nil ?_
      refine WX.regs (L' := [(6, _), (10, _)]) ?_
      refine WX.next ?_
      refine WC.seq ?_
      refine WC.region ?_
      refine wlv (op_move (lt_ rfl) rfl) rfl ?_
      refine wlv (op_sliceArr Try.underlying114 sz5 (lt_ rfl) rfl) rfl ?_
      refine WL.turn (c := blk b6 (bvs ((sha ((fil (z16 ++ (hdr k g n i c m ++ bs))).drop 16)).take 16)) 114) (d := rd (.slice (some ⟨b6, 0, none⟩) 16 16) 1 16 (bvs ((sha ((fil (z16 ++ (hdr k g n i c m ++ bs))).drop 16)).take 16))) xK (blk_whole_rd (by simp [sha_length]) (by decide)) ?_
      refine wl (op_copyBlk Try.underlying23 sz5 (by decide) rfl rfl xK xS (bvs_one _) (by decide) (by decide) (by rw [bvs_length, fil_length _ (by simp [z16_length, hdr_length]; omega)]; decide)) rfl ?_
      change WL _ _ _ _ _ _ _
      refine WL.nil ?_
      refine WX.regs (L' := [(6, _)]) ?_
      refine WX.next ?_
      refine WC.seq ?_
      refine WC.region ?_
      rw [fil_drop _ (by simp [hdr_length]; omega), fil_seal _ (by simp [hdr_length]; omega), show sealB (hdr k g n i c m ++ bs) = enc k g n i c bs by unfold enc; rw [hm]]
      refine WL.turn (c := blk b3 (bvs (enc k g n i c bs)) 5) (d := own (.slice (some ⟨b3, 0, none⟩) 256 256) 5 1 256 (bvs (enc k g n i c bs))) xK (own_le_blk (by rw [bvs_length, enc_length]) (by decide)) ?_
      refine wlv (op_move (lt_ rfl) rfl) rfl ?_
      refine wlv (op_assign (lt_ rfl) rfl) rfl ?_
      refine wlv (op_assign (lt_ rfl) rfl) rfl ?_
      refine WL.nil ?_
      refine WX.regs (L' := [(2, _), (3, _)]) ?_
      refine WX.next ?_
      refine WC.ret ?_
      exact Fin.ret2 xI ((some ⟨b3, 0, none⟩, 256, enc k g n i c bs, 0, 256)) (⟨by unfold encP; rw [if_pos (by rw [hm]; exact h0)]; rfl, h0.symm, (enc_length _ _ _ _ _ _).symm⟩) Try.results66 rfl (.tmp rfl) (.tmp rfl) xT (by simp)
end Go.Proofs.Ytkjlbedebmffgaa.Sx

set_option linter.unusedVariables false
set_option linter.unusedSimpArgs false
namespace Go.Proofs.Ytkjlbedebmffgaa.Sx
open Go.RowKit Go.Proofs.Ytkjlbedebmffgaa.Ty
attribute [local irreducible] blk own rd rx frameC

structure Pt where
  (k g n i c : Int)
  b : List UInt8
def pt0 : Pt := ⟨0, 0, 0, 0, 0, []⟩
def fld (bs : List UInt8) (o l : Nat) : Nat := vl ((bs.drop o).take l)
def decP (bs : List UInt8) : Pt := ⟨fld bs 24 2, fld bs 16 4, fld bs 20 4, fld bs 26 2, fld bs 28 2, (bs.drop 32).take (fld bs 30 2)⟩
def Pt.chk (p : Pt) : Int := Sx.chk p.k p.g p.n p.i p.c p.b.length
/-- What a sector holds. -/
def dec (bs : List UInt8) : Pt × Int :=
  if bs.length < 256 then (pt0, 4)
  else if bs.length > 256 then (pt0, 5)
  else if ¬ (sha (bs.drop 16)).take 16 = bs.take 16 then (pt0, 22)
  else if fld bs 30 2 > 224 then (pt0, 3)
  else if ¬ (decP bs).chk = 0 ∨ blank (bs.drop (32 + fld bs 30 2)) = false then (pt0, 3)
  else (decP bs, 0)
section
variable {bs : List UInt8}
theorem dec_short (h : bs.length < 256) : dec bs = (pt0, 4) := by unfold dec; rw [if_pos h]
theorem dec_long (h : bs.length > 256) : dec bs = (pt0, 5) := by unfold dec; rw [if_neg (by omega), if_pos h]
theorem dec_sum (h : bs.length = 256) (h1 : ¬ (sha (bs.drop 16)).take 16 = bs.take 16) : dec bs = (pt0, 22) := by unfold dec; rw [if_neg (by omega), if_neg (by omega), if_pos h1]
theorem dec_len (h : bs.length = 256) (h1 : (sha (bs.drop 16)).take 16 = bs.take 16) (h2 : fld bs 30 2 > 224) : dec bs = (pt0, 3) := by unfold dec; rw [if_neg (by omega), if_neg (by omega), if_neg (fun k => k h1), if_pos h2]
theorem dec_bad (h : bs.length = 256) (h1 : (sha (bs.drop 16)).take 16 = bs.take 16) (h2 : ¬ fld bs 30 2 > 224) (h3 : ¬ (decP bs).chk = 0 ∨ blank (bs.drop (32 + fld bs 30 2)) = false) : dec bs = (pt0, 3) := by
  unfold dec; rw [if_neg (by omega), if_neg (by omega), if_neg (fun k => k h1), if_neg h2, if_pos h3]
theorem dec_ok (h : bs.length = 256) (h1 : (sha (bs.drop 16)).take 16 = bs.take 16) (h2 : ¬ fld bs 30 2 > 224) (h3 : (decP bs).chk = 0) (h4 : blank (bs.drop (32 + fld bs 30 2)) = true) : dec bs = (decP bs, 0) := by
  unfold dec; rw [if_neg (by omega), if_neg (by omega), if_neg (fun k => k h1), if_neg h2, if_neg (by rw [h4]; simp [h3])]
theorem decP_len (h : bs.length = 256) (h2 : ¬ fld bs 30 2 > 224) : (decP bs).b.length = fld bs 30 2 := by
  simp only [decP, List.length_take, List.length_drop]; omega
theorem getD_drop (a j : Nat) : (bs.drop a).getD j 0 = bs.getD (a + j) 0 := by simp [List.getD_eq_getElem?_getD]
theorem take_eq_step {xs ys : List UInt8} {i : Nat} (h : xs.take i = ys.take i) (hx : i < xs.length) (hy : i < ys.length) (he : xs.getD i 0 = ys.getD i 0) : xs.take (i + 1) = ys.take (i + 1) := by
  have he' : xs[i] = ys[i] := by simpa [hx, hy] using he
  rw [List.take_succ_eq_append_getElem hx, List.take_succ_eq_append_getElem hy, h, he']
theorem take_ne {xs ys : List UInt8} {i j : Nat} (hij : i < j) (hx : i < xs.length) (hy : i < ys.length) (he : ¬ xs.getD i 0 = ys.getD i 0) : ¬ xs.take j = ys.take j := by
  intro h
  apply he
  have := congrArg (fun l => l.getD i 0) h
  simpa [List.getD_eq_getElem?_getD, List.getElem?_take, hij] using this
end
end Go.Proofs.Ytkjlbedebmffgaa.Sx

set_option linter.unusedVariables false
set_option linter.unusedSimpArgs false
namespace Go.Proofs.Ytkjlbedebmffgaa.Sx
open Go.RowKit Go.Proofs.Ytkjlbedebmffgaa.Ty
attribute [local irreducible] blk own rd rx frameC

/-- The header's cells where its fields are a 0 .. a 5 in the order of the sector. -/
def hq (a : Nat → Nat) : List Value := hdc (a 2) (a 0) (a 1) (a 3) (a 4) (.slice none 0 0) (a 5)
theorem hq_congr {a b : Nat → Nat} (h : ∀ t, t < 6 → a t = b t) : hq a = hq b := by
  unfold hq
  rw [h 0 (by decide), h 1 (by decide), h 2 (by decide), h 3 (by decide), h 4 (by decide), h 5 (by decide)]
theorem hq_at (a : Nat → Nat) (j : Nat) (h : j < 6) : (hq a)[fo j]? = some (.int .i64 (a j : Nat)) := by
  match j, h with
  | 0, _ | 1, _ | 2, _ | 3, _ | 4, _ | 5, _ => rfl
theorem fo_le (j : Nat) : fo j ≤ 6 := by
  unfold fo; split <;> decide
theorem hq_put (a : Nat → Nat) (j x : Nat) (h : j < 6) : pset (hq a) (fo j) (Value.int .i64 (x : Nat)).cells.toList = hq (fun t => if t = j then x else a t) := by
  match j, h with
  | 0, _ | 1, _ | 2, _ | 3, _ | 4, _ | 5, _ => rfl
def ps : Nat → Nat | 0 => 0 | 1 => 4 | 2 => 8 | 3 => 10 | 4 => 12 | 5 => 14 | _ => 16
theorem ps_succ (j : Nat) (h : j < 6) : ps (j + 1) = ps j + fz j := by
  match j, h with
  | 0, _ | 1, _ | 2, _ | 3, _ | 4, _ | 5, _ => rfl
theorem ps_le (j : Nat) : ps j ≤ 16 := by
  unfold ps; split <;> decide
/-- j fields are read, of the next one r bytes. -/
def ha (bs : List UInt8) (j r t : Nat) : Nat := if t = j then fld bs (16 + ps t) r else if t < j then fld bs (16 + ps t) (fz t) else 0
theorem fld_step (bs : List UInt8) (o r : Nat) (h : o + r < bs.length) : fld bs o (r + 1) = fld bs o r * 256 + (bs.getD (o + r) 0).toNat := by
  unfold fld
  rw [vl_step _ _ (by simp; omega), getD_drop]
theorem fld_lt (bs : List UInt8) (o r : Nat) (h : r ≤ 4) : fld bs o r < 4294967296 := by
  have h1 := vl_lt ((bs.drop o).take r)
  have h2 : ((bs.drop o).take r).length ≤ 4 := by simp; omega
  have h3 : 256 ^ ((bs.drop o).take r).length ≤ 256 ^ 4 := Nat.pow_le_pow_right (by decide) h2
  unfold fld
  omega
theorem ha_next (bs : List UInt8) (j t : Nat) (ht : t < 6) : ha bs j (fz j) t = ha bs (j + 1) 0 t := by
  unfold ha
  by_cases h1 : t = j
  · subst h1
    rw [if_pos rfl, if_neg (by omega), if_pos (by omega)]
  · rw [if_neg h1]
    by_cases h2 : t = j + 1
    · subst h2
      rw [if_neg (by omega), if_pos rfl]
      simp [fld, vl]
    · rw [if_neg h2]
      by_cases h3 : t < j
      · rw [if_pos h3, if_pos (by omega)]
      · rw [if_neg h3, if_neg (by omega)]
theorem ha_put (bs : List UInt8) (j r x : Nat) (hj : j < 6) (h : x = fld bs (16 + ps j) (r + 1)) : pset (hq (ha bs j r)) (fo j) (Value.int .i64 (x : Nat)).cells.toList = hq (ha bs j (r + 1)) := by
  rw [hq_put _ _ _ hj]
  apply hq_congr
  intro t _
  unfold ha
  by_cases h1 : t = j
  · subst h1; simp [h]
  · simp [h1]
theorem ha_end (bs : List UInt8) : hq (ha bs 6 0) = hdc (fld bs 24 2 : Nat) (fld bs 16 4 : Nat) (fld bs 20 4 : Nat) (fld bs 26 2 : Nat) (fld bs 28 2 : Nat) (.slice none 0 0) (fld bs 30 2 : Nat) := rfl
set_option maxHeartbeats 400000 in
set_option maxRecDepth 10000 in
theorem f53_spec (A : Option Addr) (m c : Nat) (bs : List UInt8) (hm : bs.length = m) :
    Spec Try.prog 53 [.slice A m c] [] [rd (.slice A m c) 1 m (bvs bs)] (R := Option Addr × Nat × Nat × Pt × Int)
      (fun q => (q.2.2.2.1, q.2.2.2.2) = dec bs ∧ q.2.2.1 = q.2.2.2.1.b.length)
      (fun q => .tuple #[.agg (pcells q.2.2.2.1.k q.2.2.2.1.g q.2.2.2.1.n q.2.2.2.1.i q.2.2.2.1.c (.slice q.1 q.2.2.1 q.2.1)).toArray, .int .i64 q.2.2.2.2])
      (fun q => [own (.slice q.1 q.2.2.1 q.2.1) 5 1 q.2.2.1 (bvs q.2.2.2.1.b)]) := by
  refine Spec.intro Try.func53 Try.ntmps53 rfl (by simp) (by simp) fun w0 => ?_
  refine WC.seq ?_
  refine WC.region ?_
  refine wl1 (op_alloc ti96 (lt_ rfl)) rfl fun b1 => ?_
  refine wlv (op_assign (lt_ rfl) rfl) rfl ?_
  refine WL.nil ?_
  refine WX.regs (L' := [(0, _), (2, _)]) ?_
  refine WX.next ?_
  refine WC.seq ?_
  refine WC.block ?_
  refine WC.seq ?_
  refine WC.region ?_
  refine wlv (op_move (lt_ rfl) rfl) rfl ?_
  refine wlv (op_len Try.underlying23 (lt_ rfl) rfl) rfl ?_
  refine wlv (op_lss (lt_ rfl) rfl rfl) rfl ?_
  refine wlv (op_assign (lt_ rfl) rfl) rfl ?_
  refine WL.nil ?_
  refine WX.regs (L' := [(0, _), (2, _), (9, _)]) ?_
  refine WX.next ?_
  refine WC.cond rfl (fun h1 => ?_) (fun h1 => ?_)
  ·
    refine WC.seq ?_
    refine WC.region ?_
    refine wlv (op_build (cs := (pcells 0 0 0 0 0 (.slice none 0 0))) (pv := []) (lt_ rfl) rfl (by kernel_rfl)) rfl ?_
    refine wl (op_storeAll sz96 rfl rfl xK xL xO xL) rfl ?_
    change WL _ _ _ _ _ _ _
    refine wlv (op_assign (lt_ rfl) rfl) rfl ?_
    refine WL.nil ?_
    refine WX.nilown 5 1 ?_
    refine WX.regs (L' := [(2, _), (3, _)]) ?_
    refine WX.next ?_
    refine WC.ret ?_
    refine WX.in_ret ?_
    refine WX.then_ret ?_
    exact Fin.ret2 xI ((none, 0, 0, pt0, 4)) (⟨(dec_short (by omega)).symm, rfl⟩) Try.results53 rfl (.cellN rfl ag96 xM xL) (.tmp rfl) xT (by simp)
  ·
    refine WC.seq ?_
    refine WC.region ?_
    refine wlv (op_move (lt_ rfl) rfl) rfl ?_
    refine wlv (op_len Try.underlying23 (lt_ rfl) rfl) rfl ?_
    refine wlv (op_gtr (lt_ rfl) rfl rfl) rfl ?_
    refine wlv (op_assign (lt_ rfl) rfl) rfl ?_
    refine WL.nil ?_
    refine WX.regs (L' := [(0, _), (2, _), (14, _)]) ?_
    refine WX.next ?_
    refine WC.cond rfl (fun h2 => ?_) (fun h2 => ?_)
    ·
      refine WC.seq ?_
      refine WC.region ?_
      refine wlv (op_build (cs := (pcells 0 0 0 0 0 (.slice none 0 0))) (pv := []) (lt_ rfl) rfl (by kernel_rfl)) rfl ?_
      refine wl (op_storeAll sz96 rfl rfl xK xL xO xL) rfl ?_
      change WL _ _ _ _ _ _ _
      refine wlv (op_assign (lt_ rfl) rfl) rfl ?_
      refine WL.nil ?_
      refine WX.nilown 5 1 ?_
      refine WX.regs (L' := [(2, _), (3, _)]) ?_
      refine WX.next ?_
      refine WC.ret ?_
      refine WX.in_ret ?_
      refine WX.then_ret ?_
      exact Fin.ret2 xI ((none, 0, 0, pt0, 5)) (⟨(dec_long (by omega)).symm, rfl⟩) Try.results53 rfl (.cellN rfl ag96 xM xL) (.tmp rfl) xT (by simp)
    ·
      obtain rfl : m = 256 := by omega
      refine WC.capx xS (fun hcap => ?_)
      refine WC.skip ?_
      refine WX.in_normal ?_
      refine WX.next ?_
      refine WC.seq ?_
      refine WC.seq ?_
      refine WC.region ?_
      refine wlv (op_move (lt_ rfl) rfl) rfl ?_
      refine wlx (op_call (f68_spec A 256 c bs hm (by decide) (by decide)) ca68 (lt_ rfl) rfl) rfl ?_
      rintro _ _
      refine WL.dupr (v := .slice A 256 c) (sz := 1) (m := 256) (xs := bvs bs) xM (rd_subB (l := 0) (h := 16) (by decide) (by decide)) ?_
      refine wl1 (op_alloc ti114 (lt_ rfl)) rfl fun b2 => ?_
      refine wl (op_storeAll sz114 rfl rfl xK xL xO xL) rfl ?_
      change WL _ _ _ _ _ _ _
      refine WL.turn (c := blk b2 (bvs ((sha (bs.drop 16)).take 16)) 114) (d := rd (.slice (some ⟨b2, 0, none⟩) 16 16) 1 16 (bvs ((sha (bs.drop 16)).take 16))) xK (blk_whole_rd (by simp [sha_length]) (by decide)) ?_
      refine WL.nil ?_
      refine WX.regs (L' := [(0, _), (2, _), (4, _)]) ?_
      refine WX.next ?_
      refine WC.seq ?_
      refine WC.drawnH mo 999 ?_
      refine WA.take (i := 0) rfl (by kernel_rfl) (fun _ _ _ h => h) rfl (op_sliceArr Try.underlying114 sz5 (lt_ rfl) rfl) xT ?_
      refine WA.take (i := 1) rfl (by kernel_rfl) (fun _ _ _ h => h) rfl (op_move (lt_ rfl) rfl) xT ?_
      refine WA.take (i := 2) rfl (by kernel_rfl) (fun _ _ _ h => h) rfl (op_slice_h Try.underlying23 sz5 (lt_ rfl) rfl rfl (by omega) (by omega)) xT ?_
      refine WA.stepx (i := 3) (by kernel_rfl) rfl rfl (op_call (f69_spec _ _ 16 _ 16 _ ((sha (bs.drop 16)).take 16) (bs.take 16)) ca69 (lt_ rfl) rfl) (fun _ r => xT) ?_
      rintro _ _
      refine WA.take (i := 4) rfl (by kernel_rfl) (fun _ _ _ h => h) rfl (op_notp (lt_ rfl) rfl) xT ?_
      refine WA.done (by kernel_rfl) ?_
      refine WX.regs (L' := [(0, _), (2, _), (25, _)]) ?_
      refine WX.next ?_
      refine WC.cond rfl (fun h3 => ?_) (fun h3 => ?_)
      ·
        refine WC.seq ?_
        refine WC.region ?_
        refine wlv (op_build (cs := (pcells 0 0 0 0 0 (.slice none 0 0))) (pv := []) (lt_ rfl) rfl (by kernel_rfl)) rfl ?_
        refine wl (op_storeAll sz96 rfl rfl xK xL xO xL) rfl ?_
        change WL _ _ _ _ _ _ _
        refine wlv (op_assign (lt_ rfl) rfl) rfl ?_
        refine WL.nil ?_
        refine WX.nilown 5 1 ?_
        refine WX.regs (L' := [(2, _), (3, _)]) ?_
        refine WX.next ?_
        refine WC.ret ?_
        refine WX.then_ret ?_
        exact Fin.ret2 xI ((none, 0, 0, pt0, 22)) (⟨(dec_sum hm (by assumption)).symm, rfl⟩) Try.results53 rfl (.cellN rfl ag96 xM xL) (.tmp rfl) xT (by simp)
      ·
        have heq := Decidable.not_not.1 h3
        refine WC.skip ?_
        refine WX.next ?_
        refine WC.seq ?_
        refine WC.region ?_
        refine wl1 (op_alloc ti118 (lt_ rfl)) rfl fun b3 => ?_
        refine WL.nil ?_
        refine WX.regs (L' := [(0, _), (2, _), (5, _)]) ?_
        refine WX.next ?_
        refine WC.seq ?_
        refine WC.region ?_
        refine wlv (op_assign (lt_ rfl) rfl) rfl ?_
        refine WL.nil ?_
        refine WX.regs (L' := [(0, _), (2, _), (5, _), (6, _)]) ?_
        refine WX.next ?_
        refine WC.seq ?_
        refine WC.seq ?_
        refine WC.region ?_
        refine wlx (op_call (f70_spec b3) ca70 (lt_ rfl) rfl) rfl ?_
        rintro _ _
        refine wlv (op_move (lt_ rfl) rfl) rfl ?_
        refine WL.nil ?_
        refine WX.regs (L' := [(0, _), (2, _), (5, _), (6, _), (27, _), (28, _)]) ?_
        refine WX.next ?_
        refine WC.block ?_
        refine WC.loop (X := Nat) (fun j => 6 - j) (fun j => j ≤ 6) (fun j => [(0, .slice A 256 c), (2, .pointer (some ⟨b1, 0, none⟩)), (5, .pointer (some ⟨b3, 0, none⟩)), (6, .int .i64 ((16 + ps j : Nat) : Int)), (27, .agg (fcells b3).toArray), (28, .int .i64 (j : Int))]) (fun j => [blk b3 (hq (ha bs j 0)) 118, blk b1 (pcells 0 0 0 0 0 (.slice none 0 0)) 96, rd (.slice A 256 c) 1 256 (bvs bs), frameC w0 (MutF [])]) (0) (by omega) (fun a w hs => hs.sub xY xT) ?_
        rintro j hj
        try dsimp only
        have hz := fz_le j
        have hps := ps_le j
        have hps1 : j < 6 → ps j + fz j ≤ 16 := fun h => by rw [← ps_succ j h]; exact ps_le _
        refine WC.seq ?_
        refine WC.region ?_
        refine wlv (op_lss (lt_ rfl) rfl rfl) rfl ?_
        refine WL.nil ?_
        refine WX.regs (L' := [(0, _), (2, _), (5, _), (6, _), (27, _), (28, _), (29, _)]) ?_
        refine WX.next ?_
        refine WC.seq ?_
        refine WC.cond rfl (fun h4 => ?_) (fun h4 => ?_)
        ·
          refine WC.skip ?_
          refine WX.next ?_
          refine WC.seq ?_
          refine WC.block ?_
          refine WC.seq ?_
          refine WC.region ?_
          refine wlv (op_indexVN Try.underlying121 sz120 ag120 (by decide) rfl rfl (by omega) (by omega) (fcells_at b3 j (by omega)) (by simp [fcells]; omega)) rfl ?_
          refine wl1 (op_alloc ti120 (lt_ rfl)) rfl fun b4 => ?_
          refine wl (op_storeAll sz120 rfl rfl xK xL xO xL) rfl ?_
          change WL _ _ _ _ _ _ _
          refine WL.nil ?_
          refine WX.regs (L' := [(0, _), (2, _), (5, _), (6, _), (8, _), (27, _), (28, _)]) ?_
          refine WX.next ?_
          refine WC.seq ?_
          refine WC.region ?_
          refine wlv (op_fieldAddr fo120_1 (lt_ rfl) rfl) rfl ?_
          refine wlv (op_load1 fl3 (lt_ rfl) rfl xM rfl) rfl ?_
          refine wlv (op_move (lt_ rfl) rfl) rfl ?_
          refine WL.nil ?_
          refine WX.regs (L' := [(0, _), (2, _), (5, _), (6, _), (8, _), (27, _), (28, _), (32, _), (33, _)]) ?_
          refine WX.next ?_
          refine WC.block ?_
          refine WC.loop (X := Nat) (fun r => fz j - r) (fun r => r ≤ fz j) (fun r => [(0, .slice A 256 c), (2, .pointer (some ⟨b1, 0, none⟩)), (5, .pointer (some ⟨b3, 0, none⟩)), (6, .int .i64 ((16 + ps j + r : Nat) : Int)), (8, .pointer (some ⟨b4, 0, none⟩)), (27, .agg (fcells b3).toArray), (28, .int .i64 (j : Int)), (32, .int .i64 ((fz j : Nat) : Int)), (33, .int .i64 (r : Int))]) (fun r => [blk b3 (hq (ha bs j r)) 118, blk b4 [.pointer (some ⟨b3, fo j, none⟩), .int .i64 ((fz j : Nat) : Int)] 120, blk b1 (pcells 0 0 0 0 0 (.slice none 0 0)) 96, rd (.slice A 256 c) 1 256 (bvs bs), frameC w0 (MutF [])]) (0) (by omega) (fun a w hs => hs.sub xY xT) ?_
          rintro r hr
          try dsimp only
          refine WC.seq ?_
          refine WC.region ?_
          refine wlv (op_lss (lt_ rfl) rfl rfl) rfl ?_
          refine WL.nil ?_
          refine WX.regs (L' := [(0, _), (2, _), (5, _), (6, _), (8, _), (27, _), (28, _), (32, _), (33, _), (34, _)]) ?_
          refine WX.next ?_
          refine WC.seq ?_
          refine WC.cond rfl (fun h5 => ?_) (fun h5 => ?_)
          ·
            refine WC.skip ?_
            refine WX.next ?_
            refine WC.seq ?_
            refine WC.block ?_
            refine WC.seq ?_
            refine WC.drawnH mo 14 ?_
            refine WA.take (i := 0) rfl (by kernel_rfl) (fun _ _ _ h => h) rfl (op_fieldAddr fo120_0 (lt_ rfl) rfl) xT ?_
            refine WA.take (i := 1) rfl (by kernel_rfl) (fun _ _ _ h => h) rfl (op_load1 fl119 (lt_ rfl) rfl xM rfl) xT ?_
            refine WA.take (i := 2) rfl (by kernel_rfl) (fun _ _ _ h => h) rfl (op_fieldAddr fo120_0 (lt_ rfl) rfl) xT ?_
            refine WA.take (i := 3) rfl (by kernel_rfl) (fun _ _ _ h => h) rfl (op_load1 fl119 (lt_ rfl) rfl xM rfl) xT ?_
            refine WA.take (i := 4) rfl (by kernel_rfl) (fun _ _ _ h => h) rfl (op_nilCheck (lt_ rfl) rfl) xT ?_
            refine WA.take (i := 5) rfl (by kernel_rfl) (fun _ _ _ h => h) rfl (op_load1 fl3 (lt_ rfl) rfl xM (hq_at _ j (by omega))) xT ?_
            refine WA.take (i := 6) rfl (by kernel_rfl) (fun _ _ _ h => h) rfl (op_shl8i (by decide) rfl rfl (by have := fld_lt bs (16 + ps j) r (by omega); unfold ha; rw [if_pos rfl]; omega)) xT ?_
            refine WA.take (i := 7) rfl (by kernel_rfl) (fun _ _ _ h => h) rfl (op_move (lt_ rfl) rfl) xT ?_
            refine WA.take (i := 8) rfl (by kernel_rfl) (fun _ _ _ h => h) rfl (op_move (lt_ rfl) rfl) xT ?_
            refine WA.take (i := 9) rfl (by kernel_rfl) (fun _ _ _ h => h) rfl (op_index Try.underlying23 sz5 (lt_ rfl) rfl rfl (by omega) (by omega) (by decide) xS) xT ?_
            refine WA.take (i := 10) rfl (by kernel_rfl) (fun _ _ _ h => h) rfl (op_loadS fl5 (lt_ rfl) rfl xS (bvs_at (k := 16 + ps j + r) (by omega) (by omega))) xT ?_
            refine WA.take (i := 11) rfl (by kernel_rfl) (fun _ _ _ h => h) rfl (op_conv8i (by kernel_rfl) Try.underlying3 (lt_ rfl) rfl) xT ?_
            refine WA.take (i := 12) rfl (by kernel_rfl) (fun _ _ _ h => h) rfl (op_ori8 (by decide) rfl rfl (by have := fld_lt bs (16 + ps j) r (by omega); have := (bs.getD (16 + ps j + r) 0).toNat_lt; unfold ha; rw [if_pos rfl]; omega)) xT ?_
            refine WA.take (i := 13) rfl (by kernel_rfl) (fun _ _ _ h => h) rfl (op_nilCheck (lt_ rfl) rfl) xT ?_
            refine WA.stepo (G := []) (i := 14) (by kernel_rfl) rfl rfl (op_store sz3 rfl rfl xK xL xO (by have := fo_le j; simp [hq, hdc, pcells]; omega)) (fun h => absurd rfl h) ?_
            refine WA.done (by kernel_rfl) ?_
            rw [show ((ha bs j r j : Nat) : Int) * 256 + (((bs.getD (16 + ps j + r) 0).toNat : Nat) : Int) = ((fld bs (16 + ps j) (r + 1) : Nat) : Int) by rw [fld_step bs _ _ (by omega)]; unfold ha; rw [if_pos rfl]; simp]
            refine WX.blkEq (b := b3) _ xK (ha_put bs j r _ (by omega) rfl) ?_
            refine WX.regs (L' := [(0, _), (2, _), (5, _), (6, _), (8, _), (27, _), (28, _), (32, _), (33, _)]) ?_
            refine WX.next ?_
            refine WC.region ?_
            refine wlv (op_move (lt_ rfl) rfl) rfl ?_
            refine wlv (op_add (lt_ rfl) rfl rfl (by omega)) rfl ?_
            refine wlv (op_assign (lt_ rfl) rfl) rfl ?_
            refine WL.nil ?_
            refine WX.regs (L' := [(0, _), (2, _), (5, _), (6, _), (8, _), (27, _), (28, _), (32, _), (33, _)]) ?_
            refine WX.in_normal ?_
            refine WX.next ?_
            refine WC.region ?_
            refine wlv (op_add (lt_ rfl) rfl rfl (by omega)) rfl ?_
            refine wlv (op_move (lt_ rfl) rfl) rfl ?_
            refine WL.nil ?_
            refine WX.regs (L' := [(0, _), (2, _), (5, _), (6, _), (8, _), (27, _), (28, _), (32, _), (33, _)]) ?_
            refine WX.meet (r + 1) ⟨by omega, by omega⟩ (fun a w hs => hs.sub xY xT)
          ·
            refine WC.exit ?_
            refine WX.then_exit ?_
            refine WX.then_exit ?_
            refine WX.in_hit ?_
            refine WX.in_normal ?_
            refine WX.next ?_
            refine WC.region ?_
            refine wlv (op_add (lt_ rfl) rfl rfl (by omega)) rfl ?_
            refine wlv (op_move (lt_ rfl) rfl) rfl ?_
            refine WL.nil ?_
            refine WX.regs (L' := [(0, _), (2, _), (5, _), (6, _), (27, _), (28, _)]) ?_
            obtain rfl : r = fz j := by omega
            rw [hq_congr (fun t ht => ha_next bs j t ht), show 16 + ps j + fz j = 16 + ps (j + 1) by rw [ps_succ j (by omega)]; omega]
            refine WX.meet (j + 1) ⟨by omega, by omega⟩ (fun a w hs => hs.sub xY xT)
        ·
          refine WC.exit ?_
          refine WX.then_exit ?_
          refine WX.then_exit ?_
          refine WX.in_hit ?_
          refine WX.next ?_
          refine WC.seq ?_
          refine WC.seq ?_
          refine WC.region ?_
          obtain rfl : j = 6 := by omega
          rw [ha_end]
          refine wlv (op_fieldAddr fo118_1 (lt_ rfl) rfl) rfl ?_
          refine wlv (op_load1 fl3 (lt_ rfl) rfl xM rfl) rfl ?_
          refine wlv (op_gtr (lt_ rfl) rfl rfl) rfl ?_
          refine wlv (op_move (lt_ rfl) rfl) rfl ?_
          refine WL.split (t := 56) rfl (fun g56 => ?_) (fun g56 => ?_)
          ·
            refine wlg_no rfl rfl rfl rfl rfl (by decide) ?_
            refine wlg_no rfl rfl rfl rfl rfl (by decide) ?_
            refine wlg_no rfl rfl rfl rfl rfl (by decide) ?_
            refine wlg_no rfl rfl rfl rfl rfl (by decide) ?_
            refine wlg_no rfl rfl rfl rfl rfl (by decide) ?_
            refine wlg_no rfl rfl rfl rfl rfl (by decide) ?_
            refine wlg_no rfl rfl rfl rfl rfl (by decide) ?_
            refine wlv (op_pickT (lt_ rfl) rfl rfl) rfl ?_
            refine WL.nil ?_
            refine WX.regs (L' := [(0, _), (2, _), (5, _), (64, _)]) ?_
            refine WX.next ?_
            refine WC.condT rfl ?_
            refine WC.seq ?_
            refine WC.region ?_
            refine wlv (op_build (cs := (pcells 0 0 0 0 0 (.slice none 0 0))) (pv := []) (lt_ rfl) rfl (by kernel_rfl)) rfl ?_
            refine wl (op_storeAll sz96 rfl rfl xK xL xO xL) rfl ?_
            change WL _ _ _ _ _ _ _
            refine wlv (op_assign (lt_ rfl) rfl) rfl ?_
            refine WL.nil ?_
            refine WX.nilown 5 1 ?_
            refine WX.regs (L' := [(2, _), (3, _)]) ?_
            refine WX.next ?_
            refine WC.ret ?_
            refine WX.then_ret ?_
            exact Fin.ret2 xI ((none, 0, 0, pt0, 3)) (⟨Eq.symm (by first | exact dec_len hm heq (by omega) | exact dec_bad hm heq (by omega) (.inr (by simpa using h6))), rfl⟩) Try.results53 rfl (.cellN rfl ag96 xM xL) (.tmp rfl) xT (by simp)
          ·
            refine WL.dupr (v := .slice A 256 c) (sz := 1) (m := 256) (xs := bvs bs) xM (rd_dropB (l := 32 + (fld bs 30 2)) hm (by omega)) ?_
            refine wlgv (op_move (lt_ rfl) rfl) rfl rfl rfl ?_
            refine wlgv (op_fieldAddr fo118_1 (lt_ rfl) rfl) rfl rfl rfl ?_
            refine wlgv (op_load1 fl3 (lt_ rfl) rfl xM rfl) rfl rfl rfl ?_
            refine wlgv (op_add (lt_ rfl) rfl rfl (by omega)) rfl rfl rfl ?_
            refine wlgv (op_slice_l Try.underlying23 sz5 (lt_ rfl) rfl rfl (by omega) (by omega)) rfl rfl rfl ?_
            refine wlgx (op_call (f71_spec _ (256 - (32 + (fld bs 30 2))) _ (bs.drop (32 + (fld bs 30 2))) (by simp; omega)) ca71 (lt_ rfl) rfl) rfl rfl rfl ?_
            rintro _ rfl
            refine wlgv (op_not (lt_ rfl) rfl) rfl rfl rfl ?_
            refine wlv (op_pickF (lt_ rfl) rfl rfl) rfl ?_
            refine WL.nil ?_
            refine WX.regs (L' := [(0, _), (2, _), (5, _), (64, _)]) ?_
            refine WX.next ?_
            refine WC.condb rfl (fun h6 => ?_) (fun h6 => ?_)
            ·
              refine WC.seq ?_
              refine WC.region ?_
              refine wlv (op_build (cs := (pcells 0 0 0 0 0 (.slice none 0 0))) (pv := []) (lt_ rfl) rfl (by kernel_rfl)) rfl ?_
              refine wl (op_storeAll sz96 rfl rfl xK xL xO xL) rfl ?_
              change WL _ _ _ _ _ _ _
              refine wlv (op_assign (lt_ rfl) rfl) rfl ?_
              refine WL.nil ?_
              refine WX.nilown 5 1 ?_
              refine WX.regs (L' := [(2, _), (3, _)]) ?_
              refine WX.next ?_
              refine WC.ret ?_
              refine WX.then_ret ?_
              exact Fin.ret2 xI ((none, 0, 0, pt0, 3)) (⟨Eq.symm (by first | exact dec_len hm heq (by omega) | exact dec_bad hm heq (by omega) (.inr (by simpa using h6))), rfl⟩) Try.results53 rfl (.cellN rfl ag96 xM xL) (.tmp rfl) xT (by simp)
            ·
              refine WC.skip ?_
              refine WX.next ?_
              refine WC.seq ?_
              refine WC.region ?_
              refine WL.dupr (v := .slice A 256 c) (sz := 1) (m := 256) (xs := bvs bs) xM (rd_subB (l := 32) (h := 32 + (fld bs 30 2)) (by omega) (by omega)) ?_
              refine wlv (op_move (lt_ rfl) rfl) rfl ?_
              refine wlv (op_fieldAddr fo118_1 (lt_ rfl) rfl) rfl ?_
              refine wlv (op_load1 fl3 (lt_ rfl) rfl xM rfl) rfl ?_
              refine wlv (op_add (lt_ rfl) rfl rfl (by omega)) rfl ?_
              refine wlv (op_slice_lh Try.underlying23 sz5 (lt_ rfl) rfl rfl rfl (by omega) (by omega) (by omega)) rfl ?_
              refine wlx (op_call (f72_spec _ (32 + (fld bs 30 2) - 32) _ ((bs.drop 32).take (32 + (fld bs 30 2) - 32)) (by simp; omega) (by omega)) ca72 (lt_ rfl) rfl) rfl ?_
              rintro ⟨Ac, cc⟩ _
              rw [show 32 + (fld bs 30 2) - 32 = (fld bs 30 2) by omega]
              refine wlv (op_fieldAddr fo118_0 (lt_ rfl) rfl) rfl ?_
              refine wlv (op_fieldAddr fo96_5 (lt_ rfl) rfl) rfl ?_
              refine wl (op_store sz23 rfl rfl xK xL xO (by first | exact Nat.le_of_ble_eq_true rfl | (simp; omega))) rfl ?_
              change WL _ _ _ _ _ _ _
              refine WL.blkEq (b := b3) (hdc (fld bs 24 2 : Nat) (fld bs 16 4 : Nat) (fld bs 20 4 : Nat) (fld bs 26 2 : Nat) (fld bs 28 2 : Nat) (.slice Ac (fld bs 30 2) cc) (fld bs 30 2 : Nat)) xK (by rfl) ?_
              refine WL.nil ?_
              refine WX.regs (L' := [(2, _), (5, _)]) ?_
              refine WX.next ?_
              refine WC.seq ?_
              refine WC.seq ?_
              refine WC.region ?_
              refine wlv (op_fieldAddr fo118_0 (lt_ rfl) rfl) rfl ?_
              refine wlv (op_loadN ag96 (lt_ rfl) rfl xM rfl) rfl ?_
              refine wlx (op_call (f73_spec _ _ _ _ _ Ac (fld bs 30 2) cc) ca73 (lt_ rfl) rfl) rfl ?_
              rintro _ rfl
              refine wlv (op_neq (lt_ rfl) rfl rfl) rfl ?_
              refine WL.nil ?_
              refine WX.regs (L' := [(2, _), (5, _), (77, _)]) ?_
              refine WX.next ?_
              refine WC.cond rfl (fun h7 => ?_) (fun h7 => ?_)
              ·
                refine WC.seq ?_
                refine WC.region ?_
                refine wlv (op_build (cs := (pcells 0 0 0 0 0 (.slice none 0 0))) (pv := []) (lt_ rfl) rfl (by kernel_rfl)) rfl ?_
                refine wl (op_storeAll sz96 rfl rfl xK xL xO xL) rfl ?_
                change WL _ _ _ _ _ _ _
                refine wlv (op_assign (lt_ rfl) rfl) rfl ?_
                refine WL.nil ?_
                refine WX.nilown 5 1 ?_
                refine WX.regs (L' := [(2, _), (3, _)]) ?_
                refine WX.next ?_
                refine WC.ret ?_
                refine WX.then_ret ?_
                exact Fin.ret2 xI ((none, 0, 0, pt0, 3)) (⟨(dec_bad hm heq (by omega) (.inl (by unfold Pt.chk; rw [decP_len hm (by omega)]; exact h7))).symm, rfl⟩) Try.results53 rfl (.cellN rfl ag96 xM xL) (.tmp rfl) xT (by simp)
              ·
                refine WC.skip ?_
                refine WX.next ?_
                refine WC.seq ?_
                refine WC.region ?_
                refine wlv (op_fieldAddr fo118_0 (lt_ rfl) rfl) rfl ?_
                refine wlv (op_loadN ag96 (lt_ rfl) rfl xM rfl) rfl ?_
                refine wl (op_storeAll sz96 rfl rfl xK xL xO xL) rfl ?_
                change WL _ _ _ _ _ _ _
                refine wlv (op_assign (lt_ rfl) rfl) rfl ?_
                refine WL.nil ?_
                refine WX.regs (L' := [(2, _), (3, _)]) ?_
                refine WX.next ?_
                refine WC.ret ?_
                exact Fin.ret2 xI ((Ac, cc, (fld bs 30 2), decP bs, 0)) (⟨(dec_ok hm heq (by omega) (by unfold Pt.chk; rw [decP_len hm (by omega)]; exact Decidable.not_not.1 h7) (by simpa using h6)).symm, (decP_len hm (by omega)).symm⟩) Try.results53 rfl (.cellN rfl ag96 xM xL) (.tmp rfl) xT (by simp)
end Go.Proofs.Ytkjlbedebmffgaa.Sx

set_option linter.unusedVariables false
set_option linter.unusedSimpArgs false
namespace Go.Proofs.Ytkjlbedebmffgaa.Sx
open Go.RowKit Go.Proofs.Ytkjlbedebmffgaa.Ty
attribute [local irreducible] blk own rd rx frameC

def need (m : Nat) : Nat := max 1 ((m + 223) / 224)
def chunk (p : List UInt8) (i : Nat) : List UInt8 := (p.drop (i * 224)).take (min ((i + 1) * 224) p.length - i * 224)
def sect (k g n : Int) (p : List UInt8) (i : Nat) : List UInt8 := enc k.toNat g.toNat n.toNat i (need p.length) (chunk p i)
def sects (k g n : Int) (p : List UInt8) : List (List UInt8) := (List.range (need p.length)).map (sect k g n p)
def split (k g n : Int) (p : List UInt8) : List (List UInt8) × Int :=
  if ¬ fineP k g n then ([], 2) else if p.length > 131072 then ([], 5) else (sects k g n p, 0)
theorem need_le {m : Nat} (h : m ≤ 131072) : 1 ≤ need m ∧ need m ≤ 586 := by unfold need; omega
theorem chunk_length (p : List UInt8) (i : Nat) : (chunk p i).length = min ((i + 1) * 224) p.length - i * 224 := by
  simp only [chunk, List.length_take, List.length_drop]; omega
theorem chk_part {k g n : Int} {p : List UInt8} {i : Nat} (hf : fineP k g n) (hp : p.length ≤ 131072) (hi : i < need p.length) : chk k g n i (need p.length) (chunk p i).length = 0 := by
  have hn := need_le hp
  have hl := chunk_length p i
  have hi2 := hi
  generalize (chunk p i).length = l at *
  have hb : i * 224 < p.length ∨ (i = 0 ∧ p.length = 0) := by unfold need at hi2; omega
  have hc : ¬ i = need p.length - 1 → (i + 1) * 224 < p.length := by unfold need at *; omega
  have hd : i = need p.length - 1 → p.length ≤ (i + 1) * 224 := by unfold need at *; omega
  have he : need p.length > 1 → 224 < p.length := by unfold need at *; omega
  generalize need p.length = c at *
  unfold chk
  rw [if_neg (by simp only [fineP] at *; omega), if_neg (by omega), if_neg (by omega), if_neg (by omega)]
theorem range_push {α : Type} (f : Nat → α) (i : Nat) : (List.range (i + 1)).map f = (List.range i).map f ++ [f i] := by simp [List.range_succ]
theorem map_push (rs : List Bs) (r : Bs) : rs.map Bs.v ++ [r.v] = (rs ++ [r]).map Bs.v := by simp
theorem len_push (rs : List Bs) (r : Bs) : rs.length + 1 = (rs ++ [r]).length := by simp
section
variable {P : Program} {n : Fr} {L : List (Nat × Value)} {H : List Ch} {d : Nat} {ty : TypeId} {pos : String} {af : Array Edge} {g : Option (Nat × Bool)} {x y : Operand} {t : TypeId} {ats : Array TypeId}
theorem op_minN {k : IntKind} {a b : Nat} (hn : d < n.n) (hx : evr L x = some (.int k (a : Int))) (hy : evr L y = some (.int k (b : Int))) :
    Val P ⟨some d, .call { callee := .builtin .min, args := #[x, y], argTypes := ats }, ty, pos, af, g⟩ n L H d (.int k ((min a b : Nat) : Int)) := by
  have h := op_min (P := P) (H := H) (t := 0) (ty := ty) (pos := pos) (af := af) (g := g) (ats := ats) hn hx hy
  have e : min (a : Int) (b : Int) = ((min a b : Nat) : Int) := by omega
  rw [e] at h
  exact h
theorem op_maxN {k : IntKind} {a b : Nat} (hn : d < n.n) (hx : evr L x = some (.int k (a : Int))) (hy : evr L y = some (.int k (b : Int))) :
    Val P ⟨some d, .call { callee := .builtin .max, args := #[x, y], argTypes := ats }, ty, pos, af, g⟩ n L H d (.int k ((max a b : Nat) : Int)) := by
  have h := op_max (P := P) (H := H) (t := 0) (ty := ty) (pos := pos) (af := af) (g := g) (ats := ats) hn hx hy
  have e : max (a : Int) (b : Int) = ((max a b : Nat) : Int) := by omega
  rw [e] at h
  exact h
end
set_option maxHeartbeats 400000 in
set_option maxRecDepth 10000 in
theorem f41_spec (m : Int) :
    Spec Try.prog 41 [.int .i64 m] [] [] (R := Int × Int) (fun q => q = if 0 ≤ m ∧ m ≤ 131072 then ((((need m.toNat : Nat) : Int), 0) : Int × Int) else (0, 2)) (fun q => .tuple #[.int .i64 q.1, .int .i64 q.2]) (fun _ => []) := by
  refine Spec.intro Try.func41 Try.ntmps41 rfl (by simp) (by simp) fun w0 => ?_
  refine WC.seq ?_
  refine WC.region ?_
  refine wlv (op_assign (lt_ rfl) rfl) rfl ?_
  refine wlv (op_assign (lt_ rfl) rfl) rfl ?_
  refine WL.nil ?_
  refine WX.regs (L' := [(0, _)]) ?_
  refine WX.next ?_
  refine WC.seq ?_
  refine WC.seq ?_
  refine WC.region ?_
  refine wlv (op_move (lt_ rfl) rfl) rfl ?_
  refine wlx (op_call (f64_spec _ _) ca64 (lt_ rfl) rfl) rfl ?_
  rintro _ rfl
  refine wlv (op_notp (lt_ rfl) rfl) rfl ?_
  refine WL.nil ?_
  refine WX.regs (L' := [(0, _), (6, _)]) ?_
  refine WX.next ?_
  refine WC.cond rfl (fun h1 => ?_) (fun h1 => ?_)
  ·
    refine WC.seq ?_
    refine WC.region ?_
    refine wlv (op_assign (lt_ rfl) rfl) rfl ?_
    refine wlv (op_assign (lt_ rfl) rfl) rfl ?_
    refine WL.nil ?_
    refine WX.regs (L' := [(2, _), (3, _)]) ?_
    refine WX.next ?_
    refine WC.ret ?_
    refine WX.then_ret ?_
    exact Fin.ret2 xI ((0, 2)) (by rw [if_neg h1]) Try.results41 rfl (.tmp rfl) (.tmp rfl) xT (by simp)
  ·
    obtain ⟨m, rfl⟩ := Int.eq_ofNat_of_zero_le (by omega : 0 ≤ m)
    have e1 : ((m : Int) + 224 - 1) / 224 = (((m + 223) / 224 : Nat) : Int) := by omega
    refine WC.skip ?_
    refine WX.next ?_
    refine WC.seq ?_
    refine WC.region ?_
    refine wlv (op_move (lt_ rfl) rfl) rfl ?_
    refine wlv (op_add (lt_ rfl) rfl rfl (by omega)) rfl ?_
    refine wlv (op_sub (lt_ rfl) rfl rfl (by omega)) rfl ?_
    refine wlv (op_quo (lt_ rfl) rfl rfl (by omega) (by omega)) rfl ?_
    rw [e1]
    refine wlv (op_maxN (a := 1) (b := (m + 223) / 224) (by decide) rfl rfl) rfl ?_
    refine wlv (op_assign (lt_ rfl) rfl) rfl ?_
    refine wlv (op_assign (lt_ rfl) rfl) rfl ?_
    refine WL.nil ?_
    refine WX.regs (L' := [(2, _), (3, _)]) ?_
    refine WX.next ?_
    refine WC.ret ?_
    exact Fin.ret2 xI ((((need m : Nat) : Int), 0)) (by rw [if_pos (by omega)]; rfl) Try.results41 rfl (.tmp rfl) (.tmp rfl) xT (by simp)
set_option maxHeartbeats 400000 in
set_option maxRecDepth 10000 in
theorem f43_spec (k g n : Int) (A : Option Addr) (m c : Nat) (p : List UInt8) (hm : p.length = m) :
    Spec Try.prog 43 [.agg #[.int .i64 k, .int .i64 g, .int .i64 n, .slice A m c]] [] [rd (.slice A m c) 1 m (bvs p)] (R := Option Addr × Nat × List Bs × Int)
      (fun q => (q.2.2.1.map Bs.s, q.2.2.2) = split k g n p) (fun q => .tuple #[.slice q.1 q.2.2.1.length q.2.1, .int .i64 q.2.2.2])
      (fun q => [own (.slice q.1 q.2.2.1.length q.2.1) 23 1 q.2.2.1.length (q.2.2.1.map Bs.v), rowsC true q.2.2.1]) := by
  refine Spec.intro Try.func43 Try.ntmps43 rfl (by simp) (by simp) fun w0 => ?_
  refine WC.seq ?_
  refine WC.region ?_
  refine wl1 (op_box (lt_ rfl) rfl rfl) rfl fun b1 => ?_
  refine wlv (op_assign (lt_ rfl) rfl) rfl ?_
  refine wlv (op_assign (lt_ rfl) rfl) rfl ?_
  refine WL.nil ?_
  refine WX.regs (L' := [(1, _)]) ?_
  refine WX.next ?_
  refine WC.seq ?_
  refine WC.block ?_
  refine WC.seq ?_
  refine WC.region ?_
  refine wlv (op_fieldAddr fo89_0 (lt_ rfl) rfl) rfl ?_
  refine wlv (op_load1 fl3 (lt_ rfl) rfl xM rfl) rfl ?_
  refine wlv (op_fieldAddr fo89_1 (lt_ rfl) rfl) rfl ?_
  refine wlv (op_load1 fl3 (lt_ rfl) rfl xM rfl) rfl ?_
  refine wlv (op_fieldAddr fo89_2 (lt_ rfl) rfl) rfl ?_
  refine wlv (op_load1 fl3 (lt_ rfl) rfl xM rfl) rfl ?_
  refine wlv (op_build (cs := [.int .i64 k, .int .i64 g, .int .i64 n]) (pv := [(0, _), (1, _), (2, _)]) (lt_ rfl) rfl (by kernel_rfl)) rfl ?_
  refine wlx (op_call (f65_spec _ _ _) ca65 (lt_ rfl) rfl) rfl ?_
  rintro _ rfl
  refine wlv (op_notp (lt_ rfl) rfl) rfl ?_
  refine wlv (op_assign (lt_ rfl) rfl) rfl ?_
  refine WL.nil ?_
  refine WX.regs (L' := [(1, _), (11, _)]) ?_
  refine WX.next ?_
  refine WC.cond rfl (fun h1 => ?_) (fun h1 => ?_)
  ·
    refine WC.seq ?_
    refine WC.region ?_
    refine wlv (op_assign (lt_ rfl) rfl) rfl ?_
    refine wlv (op_assign (lt_ rfl) rfl) rfl ?_
    refine WL.nil ?_
    refine WX.nilrows true ?_
    refine WX.nilown 23 1 ?_
    refine WX.regs (L' := [(2, _), (3, _)]) ?_
    refine WX.next ?_
    refine WC.ret ?_
    refine WX.in_ret ?_
    refine WX.then_ret ?_
    exact Fin.ret2 xI ((none, 0, [], 2)) (by unfold split; rw [if_pos (by omega)]; rfl) Try.results43 rfl (.tmp rfl) (.tmp rfl) xT (by simp)
  ·
    have hf : fineP k g n := by omega
    refine WC.seq ?_
    refine WC.region ?_
    refine wlv (op_fieldAddr fo89_3 (lt_ rfl) rfl) rfl ?_
    refine wlv (op_load1 fl23 (lt_ rfl) rfl xM rfl) rfl ?_
    refine wlv (op_len Try.underlying23 (lt_ rfl) rfl) rfl ?_
    refine wlv (op_gtr (lt_ rfl) rfl rfl) rfl ?_
    refine wlv (op_assign (lt_ rfl) rfl) rfl ?_
    refine WL.nil ?_
    refine WX.regs (L' := [(1, _), (21, _)]) ?_
    refine WX.next ?_
    refine WC.cond rfl (fun h2 => ?_) (fun h2 => ?_)
    ·
      refine WC.seq ?_
      refine WC.region ?_
      refine wlv (op_assign (lt_ rfl) rfl) rfl ?_
      refine wlv (op_assign (lt_ rfl) rfl) rfl ?_
      refine WL.nil ?_
      refine WX.nilrows true ?_
      refine WX.nilown 23 1 ?_
      refine WX.regs (L' := [(2, _), (3, _)]) ?_
      refine WX.next ?_
      refine WC.ret ?_
      refine WX.in_ret ?_
      refine WX.then_ret ?_
      exact Fin.ret2 xI ((none, 0, [], 5)) (by unfold split; rw [if_neg (by omega), if_pos (by omega)]; rfl) Try.results43 rfl (.tmp rfl) (.tmp rfl) xT (by simp)
    ·
      have hnd := need_le (m := m) (by omega)
      refine WC.skip ?_
      refine WX.in_normal ?_
      refine WX.next ?_
      refine WC.seq ?_
      refine WC.region ?_
      refine wlv (op_fieldAddr fo89_3 (lt_ rfl) rfl) rfl ?_
      refine wlv (op_load1 fl23 (lt_ rfl) rfl xM rfl) rfl ?_
      refine wlv (op_len Try.underlying23 (lt_ rfl) rfl) rfl ?_
      refine wlx (op_call (f41_spec _) ca41 (lt_ rfl) rfl) rfl ?_
      rintro _ rfl
      rw [if_pos (by omega), show ((m : Int)).toNat = m from rfl]
      refine wlv (op_move (lt_ rfl) rfl) rfl ?_
      refine wlv (op_extract (lt_ rfl) rfl rfl) rfl ?_
      refine wlv (op_extract (lt_ rfl) rfl rfl) rfl ?_
      refine wlv (op_assign (lt_ rfl) rfl) rfl ?_
      refine wlv (op_assign (lt_ rfl) rfl) rfl ?_
      refine WL.nil ?_
      refine WX.regs (L' := [(1, _), (4, _)]) ?_
      refine WX.next ?_
      refine WC.seq ?_
      refine WC.region ?_
      refine wlv (op_assign (lt_ rfl) rfl) rfl ?_
      refine WL.nil ?_
      refine WX.regs (L' := [(1, _), (4, _), (6, _)]) ?_
      refine WX.next ?_
      refine WC.seq ?_
      refine WC.seq ?_
      refine WC.region ?_
      refine wlv (op_move (lt_ rfl) rfl) rfl ?_
      refine wlv (op_move (lt_ rfl) rfl) rfl ?_
      refine WL.nil ?_
      refine WX.regs (L' := [(1, _), (4, _), (6, _), (33, _), (34, _)]) ?_
      refine WX.next ?_
      refine WC.block ?_
      refine WC.nilrows true ?_
      refine WC.nilslice 23 1 ?_
      refine WC.loop (X := Nat × List Bs × Option Addr × Nat) (fun q => need m - q.1) (fun q => q.1 ≤ need m ∧ q.2.1.map Bs.s = (List.range q.1).map (sect k g n p)) (fun q => [(1, .pointer (some ⟨b1, 0, none⟩)), (4, .int .i64 ((need m : Nat) : Int)), (6, .slice q.2.2.1 q.2.1.length q.2.2.2), (33, .int .i64 ((need m : Nat) : Int)), (34, .int .i64 (q.1 : Int))]) (fun q => [own (.slice q.2.2.1 q.2.1.length q.2.2.2) 23 1 q.2.1.length (q.2.1.map Bs.v), rowsC true q.2.1, blk b1 [.int .i64 k, .int .i64 g, .int .i64 n, .slice A m c] 89, rd (.slice A m c) 1 m (bvs p), frameC w0 (MutF [])]) ((0, [], none, 0)) (⟨Nat.zero_le _, rfl⟩) (fun a w hs => hs.sub xY xT) ?_
      rintro ⟨i, rs, Ao, co⟩ ⟨hi, hrs⟩
      try dsimp only at hi hrs ⊢
      have hlen : rs.length = i := by have := congrArg List.length hrs; simpa using this
      refine WC.seq ?_
      refine WC.region ?_
      refine wlv (op_lss (lt_ rfl) rfl rfl) rfl ?_
      refine WL.nil ?_
      refine WX.regs (L' := [(1, _), (4, _), (6, _), (33, _), (34, _), (35, _)]) ?_
      refine WX.next ?_
      refine WC.seq ?_
      refine WC.cond rfl (fun h3 => ?_) (fun h3 => ?_)
      ·
        refine WC.skip ?_
        refine WX.next ?_
        refine WC.seq ?_
        refine WC.block ?_
        refine WC.seq ?_
        refine WC.region ?_
        refine wlv (op_move (lt_ rfl) rfl) rfl ?_
        refine wlv (op_assign (lt_ rfl) rfl) rfl ?_
        refine WL.nil ?_
        refine WX.regs (L' := [(1, _), (4, _), (6, _), (7, _), (33, _), (34, _)]) ?_
        refine WX.next ?_
        refine WC.seq ?_
        refine WC.region ?_
        refine wlv (op_fieldAddr fo89_0 (lt_ rfl) rfl) rfl ?_
        refine wlv (op_load1 fl3 (lt_ rfl) rfl xM rfl) rfl ?_
        refine wlv (op_fieldAddr fo89_1 (lt_ rfl) rfl) rfl ?_
        refine wlv (op_load1 fl3 (lt_ rfl) rfl xM rfl) rfl ?_
        refine wlv (op_fieldAddr fo89_2 (lt_ rfl) rfl) rfl ?_
        refine wlv (op_load1 fl3 (lt_ rfl) rfl xM rfl) rfl ?_
        refine wlv (op_move (lt_ rfl) rfl) rfl ?_
        refine wlv (op_move (lt_ rfl) rfl) rfl ?_
        refine wlv (op_build (cs := (pcells k g n (i : Int) (need m : Nat) (.slice none 0 0))) (pv := [(0, _), (1, _), (2, _), (3, _), (4, _)]) (lt_ rfl) rfl (by kernel_rfl)) rfl ?_
        refine wl1 (op_alloc ti96 (lt_ rfl)) rfl fun b2 => ?_
        refine wl (op_storeAll sz96 rfl rfl xK xL xO xL) rfl ?_
        change WL _ _ _ _ _ _ _
        refine WL.nil ?_
        refine WX.regs (L' := [(1, _), (4, _), (6, _), (7, _), (8, _), (33, _), (34, _)]) ?_
        refine WX.next ?_
        refine WC.seq ?_
        refine WC.region ?_
        refine WL.capx xS (fun hcap => ?_)
        refine WL.dupr (v := .slice A m c) (sz := 1) (m := m) (xs := bvs p) xM (rd_subB (l := i * 224) (h := min ((i + 1) * 224) m) (by unfold need at *; omega) (by omega)) ?_
        refine wlv (op_fieldAddr fo89_3 (lt_ rfl) rfl) rfl ?_
        refine wlv (op_load1 fl23 (lt_ rfl) rfl xM rfl) rfl ?_
        refine wlv (op_move (lt_ rfl) rfl) rfl ?_
        refine wlv (op_mul (lt_ rfl) rfl rfl (by omega)) rfl ?_
        refine wlv (op_move (lt_ rfl) rfl) rfl ?_
        refine wlv (op_add (lt_ rfl) rfl rfl (by omega)) rfl ?_
        refine wlv (op_mul (lt_ rfl) rfl rfl (by omega)) rfl ?_
        refine wlv (op_fieldAddr fo89_3 (lt_ rfl) rfl) rfl ?_
        refine wlv (op_load1 fl23 (lt_ rfl) rfl xM rfl) rfl ?_
        refine wlv (op_len Try.underlying23 (lt_ rfl) rfl) rfl ?_
        refine wlv (op_minN (a := (i + 1) * 224) (b := m) (by decide) rfl rfl) rfl ?_
        refine wlv (op_slice_lh Try.underlying23 sz5 (lt_ rfl) rfl rfl rfl (by omega) (by unfold need at *; omega) (by omega)) rfl ?_
        refine wlv (op_fieldAddr fo96_5 (lt_ rfl) rfl) rfl ?_
        refine wl (op_store sz23 rfl rfl xK xL xO (by first | exact Nat.le_of_ble_eq_true rfl | (simp; omega))) rfl ?_
        change WL _ _ _ _ _ _ _
        refine WL.nil ?_
        refine WX.regs (L' := [(1, _), (4, _), (6, _), (8, _), (33, _), (34, _)]) ?_
        refine WX.next ?_
        refine WC.seq ?_
        refine WC.region ?_
        refine wlv (op_loadAll ag96 (lt_ rfl) rfl xM xL) rfl ?_
        refine wlx (op_call (f66_spec k g n i (need m : Nat) _ (min ((i + 1) * 224) m - i * 224) _ ((p.drop (i * 224)).take (min ((i + 1) * 224) m - i * 224)) (by simp only [List.length_take, List.length_drop]; omega)) ca66 (lt_ rfl) rfl) rfl ?_
        rintro ⟨Ae, ce, le, ee, me⟩ ⟨hle, hee, hme⟩
        dsimp only at hle hee hme
        obtain rfl := hme
        rw [show (p.drop (i * 224)).take (min ((i + 1) * 224) m - i * 224) = chunk p i by unfold chunk; rw [hm]] at hle
        have hch : chk k g n i (need m : Nat) (min ((i + 1) * 224) m - i * 224) = 0 := by
          have := chk_part (p := p) (i := i) hf (by omega) (by rw [hm]; omega)
          rwa [chunk_length, hm] at this
        obtain rfl : ee = 0 := hee.trans hch
        have hle2 : le = sect k g n p i := by
          rw [hle]
          unfold encP
          rw [if_pos (by rw [chunk_length, hm]; exact hch)]
          unfold sect
          rw [hm]
          rfl
        refine wlv (op_move (lt_ rfl) rfl) rfl ?_
        refine wlv (op_extract (lt_ rfl) rfl rfl) rfl ?_
        refine wlv (op_extract (lt_ rfl) rfl rfl) rfl ?_
        refine wlv (op_assign (lt_ rfl) rfl) rfl ?_
        refine wlv (op_assign (lt_ rfl) rfl) rfl ?_
        refine WL.nil ?_
        refine WX.regs (L' := [(1, _), (4, _), (6, _), (9, _), (10, _), (33, _), (34, _)]) ?_
        refine WX.next ?_
        refine WC.seq ?_
        refine WC.seq ?_
        refine WC.region ?_
        refine wlv (op_move (lt_ rfl) rfl) rfl ?_
        refine wlv (op_neq (lt_ rfl) rfl rfl) rfl ?_
        refine WL.nil ?_
        refine WX.regs (L' := [(1, _), (4, _), (6, _), (9, _), (10, _), (33, _), (34, _), (65, _)]) ?_
        refine WX.next ?_
        refine WC.condF rfl ?_
        refine WC.skip ?_
        refine WX.next ?_
        refine WC.region ?_
        refine wlv (op_move (lt_ rfl) rfl) rfl ?_
        refine wlv (op_move (lt_ rfl) rfl) rfl ?_
        refine wl1 (op_lit1 Try.underlying70 ti23 rfl (by decide) (lt_ rfl) rfl rfl) rfl fun b3 => ?_
        refine wl2 (op_append Try.underlying70 ti23 rfl (by decide) (lt_ rfl) rfl rfl xK xS (by rfl) (by omega) (by omega)) rfl fun A1 c1 => ?_
        refine wlv (op_assign (lt_ rfl) rfl) rfl ?_
        refine WL.nil ?_
        refine WX.regs (L' := [(1, _), (4, _), (6, _), (33, _), (34, _)]) ?_
        refine WX.in_normal ?_
        refine WX.next ?_
        refine WC.region ?_
        refine wlv (op_add (lt_ rfl) rfl rfl (by omega)) rfl ?_
        refine wlv (op_move (lt_ rfl) rfl) rfl ?_
        refine WL.nil ?_
        refine WX.regs (L' := [(1, _), (4, _), (6, _), (33, _), (34, _)]) ?_
        refine WX.ownEq (v := .slice A1 (rs.length + 1) c1) _ xK (map_push rs ⟨Ae, ce, le⟩) ?_
        refine WX.merge2 (c1 := rowsC true rs) (c2 := own (.slice Ae le.length ce) 5 1 le.length (bvs le)) (d := rowsC true (rs ++ [⟨Ae, ce, le⟩])) xK xK (rowsC_snoc (own_le_bs rfl) (fun _ => by simp)) ?_
        rw [len_push rs ⟨Ae, ce, le⟩]
        refine WX.meet ((i + 1, rs ++ [⟨Ae, ce, le⟩], A1, c1)) ⟨⟨by omega, by rw [range_push, ← hrs, ← hle2]; simp⟩, by simp only []; omega⟩ (fun a w hs => hs.sub xY xT)
      ·
        refine WC.exit ?_
        refine WX.then_exit ?_
        refine WX.then_exit ?_
        refine WX.in_hit ?_
        refine WX.next ?_
        refine WC.seq ?_
        refine WC.region ?_
        refine wlv (op_move (lt_ rfl) rfl) rfl ?_
        refine wlv (op_assign (lt_ rfl) rfl) rfl ?_
        refine wlv (op_assign (lt_ rfl) rfl) rfl ?_
        refine WL.nil ?_
        refine WX.regs (L' := [(2, _), (3, _)]) ?_
        refine WX.next ?_
        refine WC.ret ?_
        obtain rfl : i = need m := by omega
        exact Fin.ret2 xI ((Ao, co, rs, 0)) (by unfold split; rw [if_neg (by omega), if_neg (by omega)]; unfold sects; rw [hm, hrs]) Try.results43 rfl (.tmp rfl) (.tmp rfl) xT (by simp)
end Go.Proofs.Ytkjlbedebmffgaa.Sx

set_option linter.unusedVariables false
set_option linter.unusedSimpArgs false
namespace Go.Proofs.Ytkjlbedebmffgaa.Sx
open Go.RowKit Go.Proofs.Ytkjlbedebmffgaa.Ty
attribute [local irreducible] blk own rd rx frameC
section
variable {n : Fr} {L : List (Nat × Value)} {H : List Ch} {d : Nat} {ty : TypeId} {pos : String} {af : Array Edge} {g : Option (Nat × Bool)} {x y : Operand} {yt : TypeId}
theorem key_eq (w : World) (a b c a' b' c' : Int) : (Op.equalIn 10000 109 (.agg #[.int .i64 a, .int .i64 b, .int .i64 c]) (.agg #[.int .i64 a', .int .i64 b', .int .i64 c'])).run Try.prog w = .ok (decide (a = a' ∧ b = b' ∧ c = c')) w := by
  have hf : Try.prog.fieldsOf 109 = #[⟨"kind", 3, 0, false, "", "bulletin/record", 0⟩, ⟨"generation", 3, 1, false, "", "bulletin/record", 8⟩, ⟨"number", 3, 2, false, "", "bulletin/record", 16⟩] := by
    unfold Program.fieldsOf
    rw [Try.underlying109]
  rw [run_equalIn_struct w 9999 109 _ _ (by rw [hf]; exact Try.underlying109) (by kernel_rfl), hf]
  have he : ∀ (u v : Int) (w' : World), (Op.equalIn 9999 3 (.int .i64 u) (.int .i64 v)).run Try.prog w' = .ok (u == v) w' := fun u v w' => run_equalIn_int w' 9998 3 .i64 .i64 u v Try.underlying3
  have hp : ∀ (xs : Array Value) (o : Nat) (v : Value) (w' : World), xs[o]? = some v → (part 3 xs o).run Try.prog w' = .ok v w' := fun xs o v w' h => by simp [part, Sem.run_bind, fl3.isAgg, h]
  have p0 := fun (u v z : Int) (w' : World) => hp #[.int .i64 u, .int .i64 v, .int .i64 z] 0 _ w' rfl
  have p1 := fun (u v z : Int) (w' : World) => hp #[.int .i64 u, .int .i64 v, .int .i64 z] 1 _ w' rfl
  have p2 := fun (u v z : Int) (w' : World) => hp #[.int .i64 u, .int .i64 v, .int .i64 z] 2 _ w' rfl
  simp only [Op.eqFields, ne_eq, String.reduceEq, not_false_eq_true, if_true, Sem.run_bind, p0, Result.andThen_ok, he]
  by_cases h1 : a = a' <;> by_cases h2 : b = b' <;> by_cases h3 : c = c' <;> simp [h1, h2, h3, p0, p1, p2, he]
theorem op_neqkey {a b c a' b' c' : Int} (hn : d < n.n) (hx : evr L x = some (.agg #[.int .i64 a, .int .i64 b, .int .i64 c])) (hy : evr L y = some (.agg #[.int .i64 a', .int .i64 b', .int .i64 c'])) :
    Val Try.prog ⟨some d, .binOp .neq 109 x y yt, ty, pos, af, g⟩ n L H d (.bool (decide (¬ (a = a' ∧ b = b' ∧ c = c')))) :=
  Val.mk rfl hn fun w0 w hs => by
    have hg := fun X Y => run_eqGuard_agg (P := Try.prog) w .neq 109 X Y #[.int .i64 a, .int .i64 b, .int .i64 c] #[.int .i64 a', .int .i64 b', .int .i64 c'] (by kernel_rfl)
    simp only [execOp, hs.eval hx, hs.eval hy, Sem.run_bind, hg, Result.andThen_ok, run_neq_struct, key_eq, Sem.run_pure, ← decide_not]
end

theorem dec_fine {bs : List UInt8} {p : Pt} (h : (p, 0) = dec bs) : p.chk = 0 ∧ bs.length = 256 := by
  unfold dec at h
  split at h
  · cases h
  · split at h
    · cases h
    · split at h
      · cases h
      · split at h
        · cases h
        · split at h
          · cases h
          · rename_i h1 h2 h3 h4 h5
            cases h
            exact ⟨Decidable.byContradiction fun k => h5 (.inl k), by omega⟩
structure Rcd where
  (k g n : Int)
  p : List UInt8
def rc0 : Rcd := ⟨0, 0, 0, []⟩
def jbad (f p : Pt) (i : Nat) : Prop := ¬ p.i = (i : Int) ∨ ¬ (p.k = f.k ∧ p.g = f.g ∧ p.n = f.n) ∨ ¬ p.c = f.c
instance (f p : Pt) (i : Nat) : Decidable (jbad f p i) := by unfold jbad; infer_instance
/-- The parts that follow the first one. -/
def jf (ss : List (List UInt8)) (f : Pt) : Nat → Nat → List UInt8 → Rcd × Int × Int
  | 0, _, acc => (⟨f.k, f.g, f.n, acc⟩, f.c, 0)
  | r + 1, i, acc =>
    if ss.length ≤ i then (rc0, 0, 23)
    else if ¬ (dec (ss.getD i [])).2 = 0 then (rc0, 0, (dec (ss.getD i [])).2)
    else if jbad f (dec (ss.getD i [])).1 i then (rc0, 0, 30)
    else jf ss f r (i + 1) (acc ++ (dec (ss.getD i [])).1.b)
/-- The record at the beginning, the number of its sectors, the error. -/
def join (ss : List (List UInt8)) : Rcd × Int × Int :=
  if ss.length = 0 then (rc0, 0, 4)
  else if ¬ (dec (ss.getD 0 [])).2 = 0 then (rc0, 0, (dec (ss.getD 0 [])).2)
  else if ¬ (dec (ss.getD 0 [])).1.i = 0 then (rc0, 0, 30)
  else jf ss (dec (ss.getD 0 [])).1 ((dec (ss.getD 0 [])).1.c.toNat - 1) 1 (dec (ss.getD 0 [])).1.b
section
variable {ss : List (List UInt8)} {s : List UInt8} {p f : Pt} {e : Int} {i r : Nat} {acc : List UInt8}
theorem ss_at {rs : List Bs} {i : Nat} {r : Bs} (h : rs[i]? = some r) : (rs.map Bs.s).getD i [] = r.s := by simp [List.getD_eq_getElem?_getD, h]
theorem rows_at {rs : List Bs} {i : Nat} {r : Bs} (h : rs[i]? = some r) : (rs.map Bs.v)[i]? = some r.v := by simp [h]
theorem rows_at' {rs : List Bs} {i j : Nat} {r : Bs} (h : rs[i]? = some r) (hj : j = i) : (rs.map Bs.v)[j]? = some r.v := by subst hj; exact rows_at h
theorem join_first (h0 : ¬ ss.length = 0) (hs : ss.getD 0 [] = s) (hd : (p, e) = dec s) (he : ¬ e = 0) : join ss = (rc0, 0, e) := by
  unfold join; rw [hs, ← hd, if_neg h0, if_pos he]
theorem join_seq (h0 : ¬ ss.length = 0) (hs : ss.getD 0 [] = s) (hd : (p, 0) = dec s) (hi : ¬ p.i = 0) : join ss = (rc0, 0, 30) := by
  unfold join; rw [hs, ← hd, if_neg h0, if_neg (fun k => k rfl), if_pos hi]
theorem join_go (h0 : ¬ ss.length = 0) (hs : ss.getD 0 [] = s) (hd : (p, 0) = dec s) (hi : p.i = 0) : join ss = jf ss p (p.c.toNat - 1) 1 p.b := by
  unfold join; rw [hs, ← hd, if_neg h0, if_neg (fun k => k rfl), if_neg (fun k => k hi)]
theorem jf_short (h : ss.length ≤ i) : jf ss f (r + 1) i acc = (rc0, 0, 23) := by unfold jf; rw [if_pos h]
theorem jf_err (h : ¬ ss.length ≤ i) (hs : ss.getD i [] = s) (hd : (p, e) = dec s) (he : ¬ e = 0) : jf ss f (r + 1) i acc = (rc0, 0, e) := by
  unfold jf; rw [hs, ← hd, if_neg h, if_pos he]
theorem jf_bad (h : ¬ ss.length ≤ i) (hs : ss.getD i [] = s) (hd : (p, 0) = dec s) (hb : jbad f p i) : jf ss f (r + 1) i acc = (rc0, 0, 30) := by
  unfold jf; rw [hs, ← hd, if_neg h, if_neg (fun k => k rfl), if_pos hb]
theorem jf_next (h : ¬ ss.length ≤ i) (hs : ss.getD i [] = s) (hd : (p, 0) = dec s) (hb : ¬ jbad f p i) : jf ss f (r + 1) i acc = jf ss f r (i + 1) (acc ++ p.b) := by
  conv => lhs; unfold jf
  rw [hs, ← hd, if_neg h, if_neg (fun k => k rfl), if_neg hb]
end
set_option maxHeartbeats 400000 in
set_option maxRecDepth 10000 in
theorem f74_spec (A : Option Addr) (M c : Nat) (rs : List Bs) (hM : rs.length = M) :
    Spec Try.prog 74 [.slice A M c] [] [rd (.slice A M c) 1 M (rs.map Bs.v), rowsC false rs] (R := Option Addr × Nat × Rcd × Int × Int)
      (fun q => q.2.2 = join (rs.map Bs.s))
      (fun q => .tuple #[.agg #[.int .i64 q.2.2.1.k, .int .i64 q.2.2.1.g, .int .i64 q.2.2.1.n, .slice q.1 q.2.2.1.p.length q.2.1], .int .i64 q.2.2.2.1, .int .i64 q.2.2.2.2])
      (fun q => [own (.slice q.1 q.2.2.1.p.length q.2.1) 5 1 q.2.2.1.p.length (bvs q.2.2.1.p)]) := by
  refine Spec.intro Try.func74 Try.ntmps74 rfl (by simp) (by simp) fun w0 => ?_
  refine WC.seq ?_
  refine WC.region ?_
  refine wl1 (op_alloc ti89 (lt_ rfl)) rfl fun b1 => ?_
  refine wlv (op_assign (lt_ rfl) rfl) rfl ?_
  refine wlv (op_assign (lt_ rfl) rfl) rfl ?_
  refine WL.nil ?_
  refine WX.regs (L' := [(0, _), (2, _)]) ?_
  refine WX.next ?_
  refine WC.seq ?_
  refine WC.seq ?_
  refine WC.region ?_
  refine wlv (op_move (lt_ rfl) rfl) rfl ?_
  refine wlv (op_len Try.underlying70 (lt_ rfl) rfl) rfl ?_
  refine wlv (op_eql (lt_ rfl) rfl rfl) rfl ?_
  refine WL.nil ?_
  refine WX.regs (L' := [(0, _), (2, _), (11, _)]) ?_
  refine WX.next ?_
  refine WC.cond rfl (fun h1 => ?_) (fun h1 => ?_)
  ·
    refine WC.seq ?_
    refine WC.region ?_
    refine wlv (op_build (cs := [.int .i64 0, .int .i64 0, .int .i64 0, .slice none 0 0]) (pv := []) (lt_ rfl) rfl (by kernel_rfl)) rfl ?_
    refine wl (op_storeAll sz89 rfl rfl xK xL xO xL) rfl ?_
    change WL _ _ _ _ _ _ _
    refine wlv (op_assign (lt_ rfl) rfl) rfl ?_
    refine wlv (op_assign (lt_ rfl) rfl) rfl ?_
    refine WL.nil ?_
    refine WX.nilown 5 1 ?_
    refine WX.regs (L' := [(2, _), (3, _), (4, _)]) ?_
    refine WX.next ?_
    refine WC.ret ?_
    refine WX.then_ret ?_
    exact Fin.ret3 xI ((none, 0, rc0, 0, 4)) (Eq.symm (by unfold join; rw [if_pos (by rw [List.length_map]; omega)])) Try.results74 rfl (.cellN rfl ag89 xM xL) (.tmp rfl) (.tmp rfl) xT (by simp)
  ·
    have hM1 : 0 < M := by omega
    have h0 : ¬ (rs.map Bs.s).length = 0 := by rw [List.length_map]; omega
    obtain ⟨r0, hr0⟩ : ∃ r0, rs[0]? = some r0 := ⟨rs[0]'(by omega), List.getElem?_eq_getElem _⟩
    have hm0 : r0 ∈ rs := List.mem_of_getElem? hr0
    refine WC.skip ?_
    refine WX.next ?_
    refine WC.seq ?_
    refine WC.region ?_
    refine WL.dup (c := rowsC false rs) (d := rd (.slice r0.A r0.s.length r0.c) 1 r0.s.length (bvs r0.s)) xM (by rfl) (by simp) (rowsC_get (r := r0) hm0) ?_
    refine wlv (op_move (lt_ rfl) rfl) rfl ?_
    refine wlv (op_index Try.underlying70 sz23 (lt_ rfl) rfl rfl (by omega) (by omega) (by decide) (Src.rd xM)) rfl ?_
    refine wlv (op_loadS fl23 (lt_ rfl) rfl (Src.rd xM) (rows_at hr0)) rfl ?_
    refine wlx (op_call (f53_spec r0.A r0.s.length r0.c r0.s rfl) ca53 (lt_ rfl) rfl) rfl ?_
    rintro ⟨Af, cf, mf, pf, ef⟩ ⟨hdf, hmf⟩
    dsimp only at hdf hmf
    subst hmf
    dsimp only
    refine wlv (op_move (lt_ rfl) rfl) rfl ?_
    refine wlv (op_extract (lt_ rfl) rfl rfl) rfl ?_
    refine wlv (op_extract (lt_ rfl) rfl rfl) rfl ?_
    refine wl1 (op_alloc ti96 (lt_ rfl)) rfl fun b2 => ?_
    refine wl (op_storeAll sz96 rfl rfl xK xL xO xL) rfl ?_
    change WL _ _ _ _ _ _ _
    refine wlv (op_assign (lt_ rfl) rfl) rfl ?_
    refine WL.nil ?_
    refine WX.regs (L' := [(0, _), (2, _), (4, _), (5, _)]) ?_
    refine WX.next ?_
    refine WC.seq ?_
    refine WC.block ?_
    refine WC.seq ?_
    refine WC.region ?_
    refine wlv (op_move (lt_ rfl) rfl) rfl ?_
    refine wlv (op_neq (lt_ rfl) rfl rfl) rfl ?_
    refine wlv (op_assign (lt_ rfl) rfl) rfl ?_
    refine WL.nil ?_
    refine WX.regs (L' := [(0, _), (2, _), (4, _), (5, _), (20, _)]) ?_
    refine WX.next ?_
    refine WC.cond rfl (fun h2 => ?_) (fun h2 => ?_)
    ·
      refine WC.seq ?_
      refine WC.region ?_
      refine wlv (op_build (cs := [.int .i64 0, .int .i64 0, .int .i64 0, .slice none 0 0]) (pv := []) (lt_ rfl) rfl (by kernel_rfl)) rfl ?_
      refine wlv (op_move (lt_ rfl) rfl) rfl ?_
      refine wl (op_storeAll sz89 rfl rfl xK xL xO xL) rfl ?_
      change WL _ _ _ _ _ _ _
      refine wlv (op_assign (lt_ rfl) rfl) rfl ?_
      refine wlv (op_assign (lt_ rfl) rfl) rfl ?_
      refine WL.nil ?_
      refine WX.nilown 5 1 ?_
      refine WX.regs (L' := [(2, _), (3, _), (4, _)]) ?_
      refine WX.next ?_
      refine WC.ret ?_
      refine WX.in_ret ?_
      refine WX.then_ret ?_
      exact Fin.ret3 xI ((none, 0, rc0, 0, ef)) (Eq.symm (join_first h0 (ss_at hr0) hdf (by omega))) Try.results74 rfl (.cellN rfl ag89 xM xL) (.tmp rfl) (.tmp rfl) xT (by simp)
    ·
      obtain rfl : ef = 0 := by omega
      obtain ⟨hchk, hl0⟩ := dec_fine hdf
      unfold Pt.chk at hchk
      obtain ⟨hff, hc1, hc2, hi1, hi2, hb2⟩ := chk_ok hchk
      have hs0 := ss_at hr0
      refine WC.seq ?_
      refine WC.region ?_
      refine wlv (op_fieldAddr fo96_3 (lt_ rfl) rfl) rfl ?_
      refine wlv (op_load1 fl3 (lt_ rfl) rfl xM rfl) rfl ?_
      refine wlv (op_neq (lt_ rfl) rfl rfl) rfl ?_
      refine wlv (op_assign (lt_ rfl) rfl) rfl ?_
      refine WL.nil ?_
      refine WX.regs (L' := [(0, _), (2, _), (5, _), (25, _)]) ?_
      refine WX.next ?_
      refine WC.cond rfl (fun h3 => ?_) (fun h3 => ?_)
      ·
        refine WC.seq ?_
        refine WC.region ?_
        refine wlv (op_build (cs := [.int .i64 0, .int .i64 0, .int .i64 0, .slice none 0 0]) (pv := []) (lt_ rfl) rfl (by kernel_rfl)) rfl ?_
        refine wl (op_storeAll sz89 rfl rfl xK xL xO xL) rfl ?_
        change WL _ _ _ _ _ _ _
        refine wlv (op_assign (lt_ rfl) rfl) rfl ?_
        refine wlv (op_assign (lt_ rfl) rfl) rfl ?_
        refine WL.nil ?_
        refine WX.nilown 5 1 ?_
        refine WX.regs (L' := [(2, _), (3, _), (4, _)]) ?_
        refine WX.next ?_
        refine WC.ret ?_
        refine WX.in_ret ?_
        refine WX.then_ret ?_
        exact Fin.ret3 xI ((none, 0, rc0, 0, 30)) (Eq.symm (join_seq h0 hs0 hdf (by omega))) Try.results74 rfl (.cellN rfl ag89 xM xL) (.tmp rfl) (.tmp rfl) xT (by simp)
      ·
        refine WC.skip ?_
        refine WX.in_normal ?_
        refine WX.next ?_
        refine WC.seq ?_
        refine WC.region ?_
        refine wlv (op_fieldAddr fo96_0 (lt_ rfl) rfl) rfl ?_
        refine wlv (op_load1 fl3 (lt_ rfl) rfl xM rfl) rfl ?_
        refine wlv (op_fieldAddr fo96_1 (lt_ rfl) rfl) rfl ?_
        refine wlv (op_load1 fl3 (lt_ rfl) rfl xM rfl) rfl ?_
        refine wlv (op_fieldAddr fo96_2 (lt_ rfl) rfl) rfl ?_
        refine wlv (op_load1 fl3 (lt_ rfl) rfl xM rfl) rfl ?_
        refine wlv (op_fieldAddr fo96_5 (lt_ rfl) rfl) rfl ?_
        refine wlv (op_load1 fl23 (lt_ rfl) rfl xM rfl) rfl ?_
        refine wlv (op_build (cs := [.int .i64 pf.k, .int .i64 pf.g, .int .i64 pf.n, .slice Af pf.b.length cf]) (pv := [(0, _), (1, _), (2, _), (3, _)]) (lt_ rfl) rfl (by kernel_rfl)) rfl ?_
        refine wl (op_storeAll sz89 rfl rfl xK xL xO xL) rfl ?_
        change WL _ _ _ _ _ _ _
        refine WL.nil ?_
        refine WX.regs (L' := [(0, _), (2, _), (5, _)]) ?_
        refine WX.next ?_
        refine WC.seq ?_
        refine WC.seq ?_
        refine WC.region ?_
        refine wlv (op_assign (lt_ rfl) rfl) rfl ?_
        refine WL.nil ?_
        refine WX.regs (L' := [(0, _), (2, _), (5, _), (6, _)]) ?_
        refine WX.next ?_
        refine WC.block ?_
        refine WC.loop (X := Nat × List UInt8 × Option Addr × Nat) (fun q => pf.c.toNat - q.1) (fun q => 1 ≤ q.1 ∧ q.1 ≤ pf.c.toNat ∧ q.2.1.length ≤ 224 * q.1 ∧ join (rs.map Bs.s) = jf (rs.map Bs.s) pf (pf.c.toNat - q.1) q.1 q.2.1) (fun q => [(0, .slice A M c), (2, .pointer (some ⟨b1, 0, none⟩)), (5, .pointer (some ⟨b2, 0, none⟩)), (6, .int .i64 (q.1 : Int))]) (fun q => [own (.slice q.2.2.1 q.2.1.length q.2.2.2) 5 1 q.2.1.length (bvs q.2.1), blk b1 [.int .i64 pf.k, .int .i64 pf.g, .int .i64 pf.n, .slice q.2.2.1 q.2.1.length q.2.2.2] 89, blk b2 (pcells pf.k pf.g pf.n pf.i pf.c (.slice Af pf.b.length cf)) 96, rd (.slice A M c) 1 M (rs.map Bs.v), rowsC false rs, frameC w0 (MutF [])]) ((1, pf.b, Af, cf)) (⟨Nat.le_refl _, by simp only []; omega, by simp only []; omega, join_go h0 hs0 hdf (by omega)⟩) (fun a w hs => hs.sub xY xT) ?_
        rintro ⟨i, acc, Aa, ca⟩ ⟨hi, hic, hal, hj⟩
        try dsimp only at hi hic hal hj ⊢
        refine WC.seq ?_
        refine WC.seq ?_
        refine WC.region ?_
        refine wlv (op_move (lt_ rfl) rfl) rfl ?_
        refine wlv (op_fieldAddr fo96_4 (lt_ rfl) rfl) rfl ?_
        refine wlv (op_load1 fl3 (lt_ rfl) rfl xM rfl) rfl ?_
        refine wlv (op_lss (lt_ rfl) rfl rfl) rfl ?_
        refine WL.nil ?_
        refine WX.regs (L' := [(0, _), (2, _), (5, _), (6, _), (42, _)]) ?_
        refine WX.next ?_
        refine WC.cond rfl (fun h4 => ?_) (fun h4 => ?_)
        ·
          refine WC.skip ?_
          refine WX.next ?_
          refine WC.seq ?_
          refine WC.block ?_
          refine WC.seq ?_
          refine WC.seq ?_
          refine WC.region ?_
          refine wlv (op_move (lt_ rfl) rfl) rfl ?_
          refine wlv (op_move (lt_ rfl) rfl) rfl ?_
          refine wlv (op_len Try.underlying70 (lt_ rfl) rfl) rfl ?_
          refine wlv (op_geq (lt_ rfl) rfl rfl) rfl ?_
          refine WL.nil ?_
          refine WX.regs (L' := [(0, _), (2, _), (5, _), (6, _), (48, _)]) ?_
          refine WX.next ?_
          refine WC.cond rfl (fun h5 => ?_) (fun h5 => ?_)
          ·
            refine WC.seq ?_
            refine WC.region ?_
            refine wlv (op_build (cs := [.int .i64 0, .int .i64 0, .int .i64 0, .slice none 0 0]) (pv := []) (lt_ rfl) rfl (by kernel_rfl)) rfl ?_
            refine wl (op_storeAll sz89 rfl rfl xK xL xO xL) rfl ?_
            change WL _ _ _ _ _ _ _
            refine wlv (op_assign (lt_ rfl) rfl) rfl ?_
            refine wlv (op_assign (lt_ rfl) rfl) rfl ?_
            refine WL.nil ?_
            refine WX.nilown 5 1 ?_
            refine WX.regs (L' := [(2, _), (3, _), (4, _)]) ?_
            refine WX.next ?_
            refine WC.ret ?_
            refine WX.then_ret ?_
            refine WX.in_ret ?_
            refine WX.then_ret ?_
            refine WX.then_ret ?_
            refine WX.in_ret ?_
            refine WX.then_ret ?_
            obtain ⟨r, hrr⟩ : ∃ r, pf.c.toNat - i = r + 1 := ⟨pf.c.toNat - i - 1, by omega⟩
            exact Fin.ret3 xI ((none, 0, rc0, 0, 23)) (by rw [hj, hrr, jf_short (by rw [List.length_map]; omega)]) Try.results74 rfl (.cellN rfl ag89 xM xL) (.tmp rfl) (.tmp rfl) xT (by simp)
          ·
            have hlen : ¬ (rs.map Bs.s).length ≤ i := by rw [List.length_map]; omega
            obtain ⟨ri, hri⟩ : ∃ ri, rs[i]? = some ri := ⟨rs[i]'(by omega), List.getElem?_eq_getElem _⟩
            have hmi : ri ∈ rs := List.mem_of_getElem? hri
            refine WC.skip ?_
            refine WX.next ?_
            refine WC.seq ?_
            refine WC.region ?_
            refine WL.dup (c := rowsC false rs) (d := rd (.slice ri.A ri.s.length ri.c) 1 ri.s.length (bvs ri.s)) xM (by rfl) (by simp) (rowsC_get (r := ri) hmi) ?_
            refine wlv (op_move (lt_ rfl) rfl) rfl ?_
            refine wlv (op_move (lt_ rfl) rfl) rfl ?_
            refine wlv (op_index Try.underlying70 sz23 (lt_ rfl) rfl rfl (by omega) (by omega) (by decide) xS) rfl ?_
            refine wlv (op_loadS fl23 (lt_ rfl) rfl xS (rows_at' hri (by omega))) rfl ?_
            refine wlx (op_call (f53_spec ri.A ri.s.length ri.c ri.s rfl) ca53 (lt_ rfl) rfl) rfl ?_
            rintro ⟨Ap, cp, mp, pp, ep⟩ ⟨hdp, hmp⟩
            dsimp only at hdp hmp
            subst hmp
            dsimp only
            refine wlv (op_move (lt_ rfl) rfl) rfl ?_
            refine wlv (op_extract (lt_ rfl) rfl rfl) rfl ?_
            refine wlv (op_extract (lt_ rfl) rfl rfl) rfl ?_
            refine wl1 (op_alloc ti96 (lt_ rfl)) rfl fun b3 => ?_
            refine wl (op_storeAll sz96 rfl rfl xK xL xO xL) rfl ?_
            change WL _ _ _ _ _ _ _
            refine wlv (op_assign (lt_ rfl) rfl) rfl ?_
            refine WL.nil ?_
            refine WX.regs (L' := [(0, _), (2, _), (5, _), (6, _), (7, _), (8, _)]) ?_
            refine WX.next ?_
            refine WC.seq ?_
            refine WC.block ?_
            refine WC.seq ?_
            refine WC.region ?_
            refine wlv (op_move (lt_ rfl) rfl) rfl ?_
            refine wlv (op_neq (lt_ rfl) rfl rfl) rfl ?_
            refine wlv (op_assign (lt_ rfl) rfl) rfl ?_
            refine WL.nil ?_
            refine WX.regs (L' := [(0, _), (2, _), (5, _), (6, _), (7, _), (8, _), (58, _)]) ?_
            refine WX.next ?_
            refine WC.cond rfl (fun h6 => ?_) (fun h6 => ?_)
            ·
              refine WC.seq ?_
              refine WC.region ?_
              refine wlv (op_build (cs := [.int .i64 0, .int .i64 0, .int .i64 0, .slice none 0 0]) (pv := []) (lt_ rfl) rfl (by kernel_rfl)) rfl ?_
              refine wlv (op_move (lt_ rfl) rfl) rfl ?_
              refine wl (op_storeAll sz89 rfl rfl xK xL xO xL) rfl ?_
              change WL _ _ _ _ _ _ _
              refine wlv (op_assign (lt_ rfl) rfl) rfl ?_
              refine wlv (op_assign (lt_ rfl) rfl) rfl ?_
              refine WL.nil ?_
              refine WX.nilown 5 1 ?_
              refine WX.regs (L' := [(2, _), (3, _), (4, _)]) ?_
              refine WX.next ?_
              refine WC.ret ?_
              refine WX.in_ret ?_
              refine WX.then_ret ?_
              refine WX.in_ret ?_
              refine WX.then_ret ?_
              refine WX.then_ret ?_
              refine WX.in_ret ?_
              refine WX.then_ret ?_
              obtain ⟨r, hrr⟩ : ∃ r, pf.c.toNat - i = r + 1 := ⟨pf.c.toNat - i - 1, by omega⟩
              exact Fin.ret3 xI ((none, 0, rc0, 0, ep)) (by rw [hj, hrr, jf_err hlen (ss_at hri) hdp (by omega)]) Try.results74 rfl (.cellN rfl ag89 xM xL) (.tmp rfl) (.tmp rfl) xT (by simp)
            ·
              obtain rfl : ep = 0 := by omega
              obtain ⟨hchkp, hlp⟩ := dec_fine hdp
              unfold Pt.chk at hchkp
              obtain ⟨_, _, _, _, _, hbp⟩ := chk_ok hchkp
              refine WC.seq ?_
              refine WC.drawnH mo 999 ?_
              refine WA.take (i := 0) rfl (by kernel_rfl) (fun _ _ _ h => h) rfl (op_fieldAddr fo96_3 (lt_ rfl) rfl) xT ?_
              refine WA.take (i := 1) rfl (by kernel_rfl) (fun _ _ _ h => h) rfl (op_load1 fl3 (lt_ rfl) rfl xM rfl) xT ?_
              refine WA.take (i := 2) rfl (by kernel_rfl) (fun _ _ _ h => h) rfl (op_move (lt_ rfl) rfl) xT ?_
              refine WA.take (i := 3) rfl (by kernel_rfl) (fun _ _ _ h => h) rfl (op_neq (lt_ rfl) rfl rfl) xT ?_
              refine WA.take (i := 4) rfl (by kernel_rfl) (fun _ _ _ h => h) rfl (op_move (lt_ rfl) rfl) xT ?_
              refine WA.split (t := 68) rfl (fun g68 => ?_) (fun g68 => ?_)
              ·
                refine WA.skipG (i := 5) rfl (by kernel_rfl) (fun _ _ _ h => h) rfl rfl rfl xI rfl (by decide) xT ?_
                refine WA.skipG (i := 6) rfl (by kernel_rfl) (fun _ _ _ h => h) rfl rfl rfl xI rfl (by decide) xT ?_
                refine WA.skipG (i := 7) rfl (by kernel_rfl) (fun _ _ _ h => h) rfl rfl rfl xI rfl (by decide) xT ?_
                refine WA.skipG (i := 8) rfl (by kernel_rfl) (fun _ _ _ h => h) rfl rfl rfl xI rfl (by decide) xT ?_
                refine WA.skipG (i := 9) rfl (by kernel_rfl) (fun _ _ _ h => h) rfl rfl rfl xI rfl (by decide) xT ?_
                refine WA.take (i := 10) rfl (by kernel_rfl) (fun _ _ _ h => h) rfl (op_pickT (lt_ rfl) rfl rfl) xT ?_
                refine WA.take (i := 11) rfl (by kernel_rfl) (fun _ _ _ h => h) rfl (op_move (lt_ rfl) rfl) xT ?_
                refine WA.skipG (i := 12) rfl (by kernel_rfl) (fun _ _ _ h => h) rfl rfl rfl xI rfl (by decide) xT ?_
                refine WA.skipG (i := 13) rfl (by kernel_rfl) (fun _ _ _ h => h) rfl rfl rfl xI rfl (by decide) xT ?_
                refine WA.skipG (i := 14) rfl (by kernel_rfl) (fun _ _ _ h => h) rfl rfl rfl xI rfl (by decide) xT ?_
                refine WA.skipG (i := 15) rfl (by kernel_rfl) (fun _ _ _ h => h) rfl rfl rfl xI rfl (by decide) xT ?_
                refine WA.skipG (i := 16) rfl (by kernel_rfl) (fun _ _ _ h => h) rfl rfl rfl xI rfl (by decide) xT ?_
                refine WA.take (i := 17) rfl (by kernel_rfl) (fun _ _ _ h => h) rfl (op_pickT (lt_ rfl) rfl rfl) xT ?_
                refine WA.take (i := 18) rfl (by kernel_rfl) (fun _ _ _ h => h) rfl (op_assign (lt_ rfl) rfl) xT ?_
                refine WA.done (by kernel_rfl) ?_
                refine WX.regs (L' := [(0, _), (2, _), (5, _), (6, _), (7, _), (63, _)]) ?_
                refine WX.next ?_
                refine WC.condT rfl ?_
                refine WC.seq ?_
                refine WC.region ?_
                refine wlv (op_build (cs := [.int .i64 0, .int .i64 0, .int .i64 0, .slice none 0 0]) (pv := []) (lt_ rfl) rfl (by kernel_rfl)) rfl ?_
                refine wl (op_storeAll sz89 rfl rfl xK xL xO xL) rfl ?_
                change WL _ _ _ _ _ _ _
                refine wlv (op_assign (lt_ rfl) rfl) rfl ?_
                refine wlv (op_assign (lt_ rfl) rfl) rfl ?_
                refine WL.nil ?_
                refine WX.nilown 5 1 ?_
                refine WX.regs (L' := [(2, _), (3, _), (4, _)]) ?_
                refine WX.next ?_
                refine WC.ret ?_
                refine WX.in_ret ?_
                refine WX.then_ret ?_
                refine WX.in_ret ?_
                refine WX.then_ret ?_
                refine WX.then_ret ?_
                refine WX.in_ret ?_
                refine WX.then_ret ?_
                obtain ⟨r, hrr⟩ : ∃ r, pf.c.toNat - i = r + 1 := ⟨pf.c.toNat - i - 1, by omega⟩
                exact Fin.ret3 xI ((none, 0, rc0, 0, 30)) (by rw [hj, hrr, jf_bad hlen (ss_at hri) hdp (by unfold jbad; omega)]) Try.results74 rfl (.cellN rfl ag89 xM xL) (.tmp rfl) (.tmp rfl) xT (by simp)
              ·
                refine WA.takeG (i := 5) rfl (by kernel_rfl) (fun _ _ _ h => h) rfl rfl rfl (op_loadAll ag96 (lt_ rfl) rfl xM xL) xT ?_
                refine WA.takeG (i := 7) rfl (by kernel_rfl) (fun _ _ _ h => h) rfl rfl rfl (op_loadAll ag96 (lt_ rfl) rfl xM xL) xT ?_
                refine WA.stepGx (i := 6) (by kernel_rfl) rfl rfl rfl rfl (op_call (f77_spec _ _ _ _ _ _) ca77 (lt_ rfl) rfl) (fun _ r => xT) ?_
                rintro _ _
                refine WA.stepGx (i := 8) (by kernel_rfl) rfl rfl rfl rfl (op_call (f77_spec _ _ _ _ _ _) ca77 (lt_ rfl) rfl) (fun _ r => xT) ?_
                rintro _ _
                refine WA.takeG (i := 9) rfl (by kernel_rfl) (fun _ _ _ h => h) rfl rfl rfl (op_neqkey (by decide) rfl rfl) xT ?_
                refine WA.take (i := 10) rfl (by kernel_rfl) (fun _ _ _ h => h) rfl (op_pickF (lt_ rfl) rfl rfl) xT ?_
                refine WA.take (i := 11) rfl (by kernel_rfl) (fun _ _ _ h => h) rfl (op_move (lt_ rfl) rfl) xT ?_
                refine WA.split (t := 75) rfl (fun g75 => ?_) (fun g75 => ?_)
                ·
                  refine WA.skipG (i := 12) rfl (by kernel_rfl) (fun _ _ _ h => h) rfl rfl rfl xI rfl (by decide) xT ?_
                  refine WA.skipG (i := 13) rfl (by kernel_rfl) (fun _ _ _ h => h) rfl rfl rfl xI rfl (by decide) xT ?_
                  refine WA.skipG (i := 14) rfl (by kernel_rfl) (fun _ _ _ h => h) rfl rfl rfl xI rfl (by decide) xT ?_
                  refine WA.skipG (i := 15) rfl (by kernel_rfl) (fun _ _ _ h => h) rfl rfl rfl xI rfl (by decide) xT ?_
                  refine WA.skipG (i := 16) rfl (by kernel_rfl) (fun _ _ _ h => h) rfl rfl rfl xI rfl (by decide) xT ?_
                  refine WA.take (i := 17) rfl (by kernel_rfl) (fun _ _ _ h => h) rfl (op_pickT (lt_ rfl) rfl rfl) xT ?_
                  refine WA.take (i := 18) rfl (by kernel_rfl) (fun _ _ _ h => h) rfl (op_assign (lt_ rfl) rfl) xT ?_
                  refine WA.done (by kernel_rfl) ?_
                  refine WX.regs (L' := [(0, _), (2, _), (5, _), (6, _), (7, _), (63, _)]) ?_
                  refine WX.next ?_
                  refine WC.condT rfl ?_
                  refine WC.seq ?_
                  refine WC.region ?_
                  refine wlv (op_build (cs := [.int .i64 0, .int .i64 0, .int .i64 0, .slice none 0 0]) (pv := []) (lt_ rfl) rfl (by kernel_rfl)) rfl ?_
                  refine wl (op_storeAll sz89 rfl rfl xK xL xO xL) rfl ?_
                  change WL _ _ _ _ _ _ _
                  refine wlv (op_assign (lt_ rfl) rfl) rfl ?_
                  refine wlv (op_assign (lt_ rfl) rfl) rfl ?_
                  refine WL.nil ?_
                  refine WX.nilown 5 1 ?_
                  refine WX.regs (L' := [(2, _), (3, _), (4, _)]) ?_
                  refine WX.next ?_
                  refine WC.ret ?_
                  refine WX.in_ret ?_
                  refine WX.then_ret ?_
                  refine WX.in_ret ?_
                  refine WX.then_ret ?_
                  refine WX.then_ret ?_
                  refine WX.in_ret ?_
                  refine WX.then_ret ?_
                  obtain ⟨r, hrr⟩ : ∃ r, pf.c.toNat - i = r + 1 := ⟨pf.c.toNat - i - 1, by omega⟩
                  exact Fin.ret3 xI ((none, 0, rc0, 0, 30)) (by rw [hj, hrr, jf_bad hlen (ss_at hri) hdp (by unfold jbad; omega)]) Try.results74 rfl (.cellN rfl ag89 xM xL) (.tmp rfl) (.tmp rfl) xT (by simp)
                ·
                  refine WA.takeG (i := 12) rfl (by kernel_rfl) (fun _ _ _ h => h) rfl rfl rfl (op_fieldAddr fo96_4 (lt_ rfl) rfl) xT ?_
                  refine WA.takeG (i := 13) rfl (by kernel_rfl) (fun _ _ _ h => h) rfl rfl rfl (op_load1 fl3 (lt_ rfl) rfl xM rfl) xT ?_
                  refine WA.takeG (i := 14) rfl (by kernel_rfl) (fun _ _ _ h => h) rfl rfl rfl (op_fieldAddr fo96_4 (lt_ rfl) rfl) xT ?_
                  refine WA.takeG (i := 15) rfl (by kernel_rfl) (fun _ _ _ h => h) rfl rfl rfl (op_load1 fl3 (lt_ rfl) rfl xM rfl) xT ?_
                  refine WA.takeG (i := 16) rfl (by kernel_rfl) (fun _ _ _ h => h) rfl rfl rfl (op_neq (lt_ rfl) rfl rfl) xT ?_
                  refine WA.take (i := 17) rfl (by kernel_rfl) (fun _ _ _ h => h) rfl (op_pickF (lt_ rfl) rfl rfl) xT ?_
                  refine WA.take (i := 18) rfl (by kernel_rfl) (fun _ _ _ h => h) rfl (op_assign (lt_ rfl) rfl) xT ?_
                  refine WA.done (by kernel_rfl) ?_
                  refine WX.regs (L' := [(0, _), (2, _), (5, _), (6, _), (7, _), (63, _)]) ?_
                  refine WX.next ?_
                  refine WC.cond rfl (fun h7 => ?_) (fun h7 => ?_)
                  ·
                    refine WC.seq ?_
                    refine WC.region ?_
                    refine wlv (op_build (cs := [.int .i64 0, .int .i64 0, .int .i64 0, .slice none 0 0]) (pv := []) (lt_ rfl) rfl (by kernel_rfl)) rfl ?_
                    refine wl (op_storeAll sz89 rfl rfl xK xL xO xL) rfl ?_
                    change WL _ _ _ _ _ _ _
                    refine wlv (op_assign (lt_ rfl) rfl) rfl ?_
                    refine wlv (op_assign (lt_ rfl) rfl) rfl ?_
                    refine WL.nil ?_
                    refine WX.nilown 5 1 ?_
                    refine WX.regs (L' := [(2, _), (3, _), (4, _)]) ?_
                    refine WX.next ?_
                    refine WC.ret ?_
                    refine WX.in_ret ?_
                    refine WX.then_ret ?_
                    refine WX.in_ret ?_
                    refine WX.then_ret ?_
                    refine WX.then_ret ?_
                    refine WX.in_ret ?_
                    refine WX.then_ret ?_
                    obtain ⟨r, hrr⟩ : ∃ r, pf.c.toNat - i = r + 1 := ⟨pf.c.toNat - i - 1, by omega⟩
                    exact Fin.ret3 xI ((none, 0, rc0, 0, 30)) (by rw [hj, hrr, jf_bad hlen (ss_at hri) hdp (by unfold jbad; omega)]) Try.results74 rfl (.cellN rfl ag89 xM xL) (.tmp rfl) (.tmp rfl) xT (by simp)
                  ·
                    refine WC.skip ?_
                    refine WX.in_normal ?_
                    refine WX.next ?_
                    refine WC.region ?_
                    refine wlv (op_fieldAddr fo89_3 (lt_ rfl) rfl) rfl ?_
                    refine wlv (op_load1 fl23 (lt_ rfl) rfl xM rfl) rfl ?_
                    refine wlv (op_fieldAddr fo96_5 (lt_ rfl) rfl) rfl ?_
                    refine wlv (op_load1 fl23 (lt_ rfl) rfl xM rfl) rfl ?_
                    refine wl2 (op_append Try.underlying23 ti5 rfl (by decide) (lt_ rfl) rfl rfl xK xS (bvs_one _) (by omega) (by omega)) rfl fun A1 c1 => ?_
                    refine wlv (op_fieldAddr fo89_3 (lt_ rfl) rfl) rfl ?_
                    refine wl (op_store sz23 rfl rfl xK xL xO (by first | exact Nat.le_of_ble_eq_true rfl | (simp; omega))) rfl ?_
                    change WL _ _ _ _ _ _ _
                    refine WL.nil ?_
                    refine WX.blkEq (b := b1) [.int .i64 pf.k, .int .i64 pf.g, .int .i64 pf.n, .slice A1 (acc.length + pp.b.length) c1] xK (by rfl) ?_
                    refine WX.ownEq (v := .slice A1 (acc.length + pp.b.length) c1) _ xK (bvs_append acc pp.b).symm ?_
                    rw [← List.length_append]
                    refine WX.regs (L' := [(0, _), (2, _), (5, _), (6, _)]) ?_
                    refine WX.in_normal ?_
                    refine WX.next ?_
                    refine WC.region ?_
                    refine wlv (op_move (lt_ rfl) rfl) rfl ?_
                    refine wlv (op_add (lt_ rfl) rfl rfl (by omega)) rfl ?_
                    refine wlv (op_assign (lt_ rfl) rfl) rfl ?_
                    refine WL.nil ?_
                    refine WX.regs (L' := [(0, _), (2, _), (5, _), (6, _)]) ?_
                    have hsi := ss_at hri
                    obtain ⟨r, hrr⟩ : ∃ r, pf.c.toNat - i = r + 1 := ⟨pf.c.toNat - i - 1, by omega⟩
                    have hrr2 : pf.c.toNat - (i + 1) = r := by omega
                    have hnb : ¬ jbad pf pp i := by unfold jbad; omega
                    refine WX.meet ((i + 1, acc ++ pp.b, A1, c1)) ⟨⟨by simp only []; omega, by simp only []; omega, by simp only [List.length_append]; omega, by rw [hj, hrr]; exact (jf_next hlen hsi hdp hnb).trans (by rw [hrr2])⟩, by simp only []; omega⟩ (fun a w hs => hs.sub xY xT)
        ·
          refine WC.exit ?_
          refine WX.then_exit ?_
          refine WX.then_exit ?_
          refine WX.in_hit ?_
          refine WX.next ?_
          refine WC.seq ?_
          refine WC.drawn (Hs := [blk b2 (pcells pf.k pf.g pf.n pf.i pf.c (.slice Af pf.b.length cf)) 96]) mo 999 ?_
          refine WA.take (i := 1) rfl (by kernel_rfl) (fun _ _ _ h => h) rfl (op_fieldAddr fo96_4 (lt_ rfl) rfl) xT ?_
          refine WA.take (i := 2) rfl (by kernel_rfl) (fun _ _ _ h => h) rfl (op_load1 fl3 (lt_ rfl) rfl xM rfl) xT ?_
          refine WA.stepv (i := 0) (by kernel_rfl) rfl rfl (op_loadAll ag89 (lt_ rfl) rfl xM xL) (fun _ => xT) ?_
          refine WA.stepo (i := 3) (by kernel_rfl) rfl rfl (op_storeAll sz89 rfl rfl xK xL xO xL) (fun _ => xT) ?_
          refine WA.take (i := 4) rfl (by kernel_rfl) (fun _ _ _ h => h) rfl (op_assign (lt_ rfl) rfl) xT ?_
          refine WA.take (i := 5) rfl (by kernel_rfl) (fun _ _ _ h => h) rfl (op_assign (lt_ rfl) rfl) xT ?_
          refine WA.done (by kernel_rfl) ?_
          refine WX.regs (L' := [(2, _), (3, _), (4, _)]) ?_
          refine WX.next ?_
          refine WC.ret ?_
          exact Fin.ret3 xI ((Aa, ca, ⟨pf.k, pf.g, pf.n, acc⟩, pf.c, 0)) (by rw [hj, show pf.c.toNat - i = 0 by omega]; rfl) Try.results74 rfl (.cellN rfl ag89 xM xL) (.tmp rfl) (.tmp rfl) xT (by simp)
end Go.Proofs.Ytkjlbedebmffgaa.Sx

set_option linter.unusedVariables false
set_option linter.unusedSimpArgs false
namespace Go.Proofs.Ytkjlbedebmffgaa.Sx
open Go.RowKit Go.Proofs.Ytkjlbedebmffgaa.Ty
attribute [local irreducible] blk own rd rx frameC

def Rs.r (r : Rs) : Rcd := ⟨r.k, r.g, r.n, r.b.s⟩
theorem jf_ok {ss : List (List UInt8)} {f : Pt} : ∀ {r i : Nat} {acc : List UInt8} {q : Rcd} {c : Int}, jf ss f r i acc = (q, c, 0) → c = f.c ∧ (i ≤ ss.length → i + r ≤ ss.length) := by
  intro r
  induction r with
  | zero =>
    intro i acc q c h
    unfold jf at h
    cases h
    exact ⟨rfl, fun h => h⟩
  | succ r ih =>
    intro i acc q c h
    unfold jf at h
    split at h
    · cases h
    · split at h
      · rename_i h1 h2
        simp only [Prod.mk.injEq] at h
        exact absurd h.2.2 h2
      · split at h
        · cases h
        · have := ih h
          exact ⟨this.1, fun _ => by have := this.2 (by omega); omega⟩
theorem join_ok {ss : List (List UInt8)} {q : Rcd} {c : Int} (h : (q, c, 0) = join ss) : 1 ≤ c ∧ c ≤ ss.length := by
  have h := h.symm
  unfold join at h
  split at h
  · cases h
  · split at h
    · rename_i h1 h2
      simp only [Prod.mk.injEq] at h
      exact absurd h.2.2 h2
    · split at h
      · cases h
      · rename_i h1 h2 h3
        have h4 := jf_ok h
        have h5 := dec_fine (bs := ss.getD 0 []) (p := (dec (ss.getD 0 [])).1) (by rw [← Decidable.not_not.1 h2])
        have h6 := h5.1
        unfold Pt.chk at h6
        obtain ⟨_, h7, h8, _⟩ := chk_ok h6
        have h9 := h4.2 (by omega)
        omega
/-- The complete records of a generation from a place on. -/
def scanF (ss : List (List UInt8)) (g n : Int) : Nat → Nat → List Rcd → List Rcd × Int × Int
  | 0, at_, acc => (acc, (at_ : Int), 0)
  | fuel + 1, at_, acc =>
    if ¬ at_ < ss.length then (acc, (at_ : Int), 0)
    else if ¬ (join (ss.drop at_)).2.2 = 0 then (acc, (at_ : Int), (join (ss.drop at_)).2.2)
    else if ¬ ((join (ss.drop at_)).1.g = g ∧ (join (ss.drop at_)).1.n = n + acc.length) then (acc, (at_ : Int), 30)
    else scanF ss g n fuel (at_ + (join (ss.drop at_)).2.1.toNat) (acc ++ [(join (ss.drop at_)).1])
def scan (g n : Int) (ss : List (List UInt8)) : List Rcd × Int × Int := if ¬ fineP 0 g n then ([], 0, 2) else scanF ss g n ss.length 0 []
def salvF (ss : List (List UInt8)) : Nat → Nat → List Rcd → List Rcd
  | 0, _, acc => acc
  | fuel + 1, at_, acc =>
    if ¬ at_ < ss.length then acc
    else if ¬ (join (ss.drop at_)).2.2 = 0 then salvF ss fuel (at_ + 1) acc
    else salvF ss fuel (at_ + (join (ss.drop at_)).2.1.toNat) (acc ++ [(join (ss.drop at_)).1])
def salv (ss : List (List UInt8)) : List Rcd := salvF ss ss.length 0 []
section
variable {ss : List (List UInt8)} {g n : Int} {fuel at_ : Nat} {acc : List Rcd} {q : Rcd} {c e : Int}
theorem scanF_end (h : ¬ at_ < ss.length) : scanF ss g n fuel at_ acc = (acc, (at_ : Int), 0) := by
  cases fuel with
  | zero => rfl
  | succ f => unfold scanF; rw [if_pos h]
theorem scanF_err (h : at_ < ss.length) (hj : (q, c, e) = join (ss.drop at_)) (he : ¬ e = 0) : scanF ss g n (fuel + 1) at_ acc = (acc, (at_ : Int), e) := by
  unfold scanF; rw [← hj, if_neg (fun k => k h), if_pos he]
theorem scanF_seq (h : at_ < ss.length) (hj : (q, c, 0) = join (ss.drop at_)) (he : ¬ (q.g = g ∧ q.n = n + acc.length)) : scanF ss g n (fuel + 1) at_ acc = (acc, (at_ : Int), 30) := by
  unfold scanF; rw [← hj, if_neg (fun k => k h), if_neg (fun k => k rfl), if_pos he]
theorem scanF_go (h : at_ < ss.length) (hj : (q, c, 0) = join (ss.drop at_)) (he : q.g = g ∧ q.n = n + acc.length) : scanF ss g n (fuel + 1) at_ acc = scanF ss g n fuel (at_ + c.toNat) (acc ++ [q]) := by
  conv => lhs; unfold scanF
  rw [← hj, if_neg (fun k => k h), if_neg (fun k => k rfl), if_neg (fun k => k he)]
theorem salvF_end (h : ¬ at_ < ss.length) : salvF ss fuel at_ acc = acc := by
  cases fuel with
  | zero => rfl
  | succ f => unfold salvF; rw [if_pos h]
theorem salvF_err (h : at_ < ss.length) (hj : (q, c, e) = join (ss.drop at_)) (he : ¬ e = 0) : salvF ss (fuel + 1) at_ acc = salvF ss fuel (at_ + 1) acc := by
  conv => lhs; unfold salvF
  rw [← hj, if_neg (fun k => k h), if_pos he]
theorem salvF_go (h : at_ < ss.length) (hj : (q, c, 0) = join (ss.drop at_)) : salvF ss (fuel + 1) at_ acc = salvF ss fuel (at_ + c.toNat) (acc ++ [q]) := by
  conv => lhs; unfold salvF
  rw [← hj, if_neg (fun k => k h), if_neg (fun k => k rfl)]
end
set_option maxHeartbeats 400000 in
set_option maxRecDepth 10000 in
theorem f56_spec (g n : Int) (A : Option Addr) (M c : Nat) (rs : List Bs) (hM : rs.length = M) (hMx : M ≤ 1000000) :
    Spec Try.prog 56 [.int .i64 g, .int .i64 n, .slice A M c] [] [rd (.slice A M c) 1 M (rs.map Bs.v), rowsC false rs] (R := Option Addr × Nat × List Rs × Int × Int)
      (fun q => (q.2.2.1.map Rs.r, q.2.2.2) = scan g n (rs.map Bs.s))
      (fun q => .tuple #[.slice q.1 q.2.2.1.length q.2.1, .int .i64 q.2.2.2.1, .int .i64 q.2.2.2.2])
      (fun q => [own (.slice q.1 q.2.2.1.length q.2.1) 89 4 q.2.2.1.length (q.2.2.1.flatMap Rs.cells), rowsC true (q.2.2.1.map Rs.b)]) := by
  refine Spec.intro Try.func56 Try.ntmps56 rfl (by simp) (by simp) fun w0 => ?_
  refine WC.seq ?_
  refine WC.region ?_
  refine wlv (op_assign (lt_ rfl) rfl) rfl ?_
  refine wlv (op_assign (lt_ rfl) rfl) rfl ?_
  refine wlv (op_assign (lt_ rfl) rfl) rfl ?_
  refine WL.nil ?_
  refine WX.regs (L' := [(0, _), (1, _), (2, _), (6, _), (7, _), (8, _)]) ?_
  refine WX.next ?_
  refine WC.scope ?_
  refine WC.seq ?_
  refine WC.seq ?_
  refine WC.region ?_
  refine wlv (op_move (lt_ rfl) rfl) rfl ?_
  refine wlx (op_call (f64_spec _ _) ca64 (lt_ rfl) rfl) rfl ?_
  rintro _ rfl
  refine wlv (op_notp (lt_ rfl) rfl) rfl ?_
  refine wlv (op_move (lt_ rfl) rfl) rfl ?_
  refine WL.split (t := 15) rfl (fun g15 => ?_) (fun g15 => ?_)
  ·
    refine wlg_no rfl rfl rfl rfl rfl (by decide) ?_
    refine wlg_no rfl rfl rfl rfl rfl (by decide) ?_
    refine wlg_no rfl rfl rfl rfl rfl (by decide) ?_
    refine wlv (op_pickT (lt_ rfl) rfl rfl) rfl ?_
    refine WL.nil ?_
    refine WX.regs (L' := [(0, _), (1, _), (2, _), (6, _), (7, _), (8, _), (19, _)]) ?_
    refine WX.next ?_
    refine WC.condT rfl ?_
    refine WC.seq ?_
    refine WC.region ?_
    refine wlv (op_assign (lt_ rfl) rfl) rfl ?_
    refine wlv (op_assign (lt_ rfl) rfl) rfl ?_
    refine wlv (op_assign (lt_ rfl) rfl) rfl ?_
    refine WL.nil ?_
    refine WX.nilrows true ?_
    refine WX.nilown 89 4 ?_
    refine WX.regs (L' := [(6, _), (7, _), (8, _)]) ?_
    refine WX.next ?_
    refine WC.ret ?_
    refine WX.then_ret ?_
    refine WX.scope_ret ?_
    exact Fin.ret3 xI ((none, 0, [], 0, 2)) (by unfold scan; rw [if_pos (by simp only [fineP]; omega)]; rfl) Try.results56 rfl (.tmp rfl) (.tmp rfl) (.tmp rfl) xT (by simp)
  ·
    refine wlgv (op_move (lt_ rfl) rfl) rfl rfl rfl ?_
    refine wlgx (op_call (f64_spec _ _) ca64 (lt_ rfl) rfl) rfl rfl rfl ?_
    rintro _ rfl
    refine wlgv (op_notp (lt_ rfl) rfl) rfl rfl rfl ?_
    refine wlv (op_pickF (lt_ rfl) rfl rfl) rfl ?_
    refine WL.nil ?_
    refine WX.regs (L' := [(0, _), (1, _), (2, _), (6, _), (7, _), (8, _), (19, _)]) ?_
    refine WX.next ?_
    refine WC.cond rfl (fun h1 => ?_) (fun h1 => ?_)
    ·
      refine WC.seq ?_
      refine WC.region ?_
      refine wlv (op_assign (lt_ rfl) rfl) rfl ?_
      refine wlv (op_assign (lt_ rfl) rfl) rfl ?_
      refine wlv (op_assign (lt_ rfl) rfl) rfl ?_
      refine WL.nil ?_
      refine WX.nilrows true ?_
      refine WX.nilown 89 4 ?_
      refine WX.regs (L' := [(6, _), (7, _), (8, _)]) ?_
      refine WX.next ?_
      refine WC.ret ?_
      refine WX.then_ret ?_
      refine WX.scope_ret ?_
      exact Fin.ret3 xI ((none, 0, [], 0, 2)) (by unfold scan; rw [if_pos (by simp only [fineP]; omega)]; rfl) Try.results56 rfl (.tmp rfl) (.tmp rfl) (.tmp rfl) xT (by simp)
    ·
      refine WC.skip ?_
      refine WX.next ?_
      refine WC.seq ?_
      refine WC.label ?_
      refine WX.next ?_
      refine WC.seq ?_
      refine WC.block ?_
      refine WC.nilrows true ?_
      refine WC.nilslice 89 4 ?_
      refine WC.loop (X := Nat × List Rs × Option Addr × Nat) (fun q => M - q.1) (fun q => q.1 ≤ M ∧ q.2.1.length ≤ q.1 ∧ ∃ fuel, M - q.1 ≤ fuel ∧ scan g n (rs.map Bs.s) = scanF (rs.map Bs.s) g n fuel q.1 (q.2.1.map Rs.r)) (fun q => [(0, .int .i64 g), (1, .int .i64 n), (2, .slice A M c), (6, .slice q.2.2.1 q.2.1.length q.2.2.2), (7, .int .i64 (q.1 : Int)), (8, .int .i64 0)]) (fun q => [own (.slice q.2.2.1 q.2.1.length q.2.2.2) 89 4 q.2.1.length (q.2.1.flatMap Rs.cells), rowsC true (q.2.1.map Rs.b), rd (.slice A M c) 1 M (rs.map Bs.v), rowsC false rs, frameC w0 (MutF [])]) ((0, [], none, 0)) (⟨Nat.zero_le _, Nat.le_refl _, M, Nat.le_refl _, by unfold scan; rw [if_neg (by simp only [fineP]; omega), List.length_map, hM]; rfl⟩) (fun a w hs => hs.sub xY xT) ?_
      rintro ⟨pos, l, Ao, co⟩ ⟨hp, hll, fuel, hfu, hsc⟩
      try dsimp only at hp hll hfu hsc ⊢
      refine WC.seq ?_
      refine WC.seq ?_
      refine WC.region ?_
      refine wlv (op_move (lt_ rfl) rfl) rfl ?_
      refine wlv (op_move (lt_ rfl) rfl) rfl ?_
      refine wlv (op_len Try.underlying70 (lt_ rfl) rfl) rfl ?_
      refine wlv (op_lss (lt_ rfl) rfl rfl) rfl ?_
      refine WL.nil ?_
      refine WX.regs (L' := [(0, _), (1, _), (2, _), (6, _), (7, _), (8, _), (23, _)]) ?_
      refine WX.next ?_
      refine WC.cond rfl (fun h2 => ?_) (fun h2 => ?_)
      ·
        have hlt : pos < (rs.map Bs.s).length := by rw [List.length_map]; omega
        obtain ⟨fu, rfl⟩ : ∃ fu, fuel = fu + 1 := ⟨fuel - 1, by omega⟩
        refine WC.skip ?_
        refine WX.next ?_
        refine WC.block ?_
        refine WC.seq ?_
        refine WC.region ?_
        refine WL.dup (c := rd (.slice A M c) 1 M (rs.map Bs.v)) (d := rd (sliced A pos M c 1) 1 (M - pos) ((rs.drop pos).map Bs.v)) xM (by simp) (by simp) (rd_dropR hM (by omega)) ?_
        refine WL.dup (c := rowsC false rs) (d := rowsC false (rs.drop pos)) xM rfl rfl rowsC_drop ?_
        refine wlv (op_move (lt_ rfl) rfl) rfl ?_
        refine wlv (op_move (lt_ rfl) rfl) rfl ?_
        refine wlv (op_slice_l Try.underlying70 sz23 (lt_ rfl) rfl rfl (by omega) (by omega)) rfl ?_
        refine wlx (op_call (f74_spec _ (M - pos) _ (rs.drop pos) (by simp; omega)) ca74 (lt_ rfl) rfl) rfl ?_
        rintro ⟨Ar, cr, rec, cnt, e⟩ hj
        dsimp only at hj
        rw [List.map_drop] at hj
        dsimp only
        refine wlv (op_move (lt_ rfl) rfl) rfl ?_
        refine wlv (op_extract (lt_ rfl) rfl rfl) rfl ?_
        refine wlv (op_extract (lt_ rfl) rfl rfl) rfl ?_
        refine wlv (op_extract (lt_ rfl) rfl rfl) rfl ?_
        refine wl1 (op_alloc ti89 (lt_ rfl)) rfl fun b1 => ?_
        refine wl (op_storeAll sz89 rfl rfl xK xL xO xL) rfl ?_
        change WL _ _ _ _ _ _ _
        refine wlv (op_assign (lt_ rfl) rfl) rfl ?_
        refine wlv (op_assign (lt_ rfl) rfl) rfl ?_
        refine WL.nil ?_
        refine WX.regs (L' := [(0, _), (1, _), (2, _), (6, _), (7, _), (8, _), (9, _), (10, _), (11, _)]) ?_
        refine WX.next ?_
        refine WC.seq ?_
        refine WC.block ?_
        refine WC.seq ?_
        refine WC.region ?_
        refine wlv (op_move (lt_ rfl) rfl) rfl ?_
        refine wlv (op_neq (lt_ rfl) rfl rfl) rfl ?_
        refine wlv (op_assign (lt_ rfl) rfl) rfl ?_
        refine WL.nil ?_
        refine WX.regs (L' := [(0, _), (1, _), (2, _), (6, _), (7, _), (8, _), (9, _), (10, _), (11, _), (32, _)]) ?_
        refine WX.next ?_
        refine WC.cond rfl (fun h3 => ?_) (fun h3 => ?_)
        ·
          refine WC.seq ?_
          refine WC.region ?_
          refine wlv (op_move (lt_ rfl) rfl) rfl ?_
          refine wlv (op_assign (lt_ rfl) rfl) rfl ?_
          refine WL.nil ?_
          refine WX.regs (L' := [(6, _), (7, _), (8, _)]) ?_
          refine WX.next ?_
          refine WC.exit ?_
          refine WX.in_miss rfl ?_
          refine WX.then_exit ?_
          refine WX.in_miss rfl ?_
          refine WX.then_exit ?_
          refine WX.in_hit ?_
          refine WX.next ?_
          refine WC.seq ?_
          refine WC.region ?_
          refine wlv (op_move (lt_ rfl) rfl) rfl ?_
          refine wlv (op_move (lt_ rfl) rfl) rfl ?_
          refine wlv (op_move (lt_ rfl) rfl) rfl ?_
          refine wlv (op_assign (lt_ rfl) rfl) rfl ?_
          refine wlv (op_assign (lt_ rfl) rfl) rfl ?_
          refine wlv (op_assign (lt_ rfl) rfl) rfl ?_
          refine WL.nil ?_
          refine WX.regs (L' := [(6, _), (7, _), (8, _)]) ?_
          refine WX.next ?_
          refine WC.ret ?_
          refine WX.scope_ret ?_
          exact Fin.ret3 xI ((_, _, l, pos, _)) (by dsimp only; rw [hsc]; first | exact (scanF_end (by rw [List.length_map]; omega)).symm | exact (scanF_err hlt hj (by omega)).symm | exact (scanF_seq hlt hj (by rw [List.length_map]; omega)).symm) Try.results56 rfl (.tmp rfl) (.tmp rfl) (.tmp rfl) xT (by simp)
        ·
          obtain rfl : e = 0 := by omega
          obtain ⟨hc1, hc2⟩ := join_ok hj
          rw [List.length_drop, List.length_map] at hc2
          refine WC.seq ?_
          refine WC.region ?_
          refine wlv (op_fieldAddr fo89_1 (lt_ rfl) rfl) rfl ?_
          refine wlv (op_load1 fl3 (lt_ rfl) rfl xM rfl) rfl ?_
          refine wlv (op_move (lt_ rfl) rfl) rfl ?_
          refine wlv (op_neq (lt_ rfl) rfl rfl) rfl ?_
          refine wlv (op_move (lt_ rfl) rfl) rfl ?_
          refine WL.split (t := 41) rfl (fun g41 => ?_) (fun g41 => ?_)
          ·
            refine wlg_no rfl rfl rfl rfl rfl (by decide) ?_
            refine wlg_no rfl rfl rfl rfl rfl (by decide) ?_
            refine wlg_no rfl rfl rfl rfl rfl (by decide) ?_
            refine wlg_no rfl rfl rfl rfl rfl (by decide) ?_
            refine wlg_no rfl rfl rfl rfl rfl (by decide) ?_
            refine wlg_no rfl rfl rfl rfl rfl (by decide) ?_
            refine wlg_no rfl rfl rfl rfl rfl (by decide) ?_
            refine wlv (op_pickT (lt_ rfl) rfl rfl) rfl ?_
            refine wlv (op_assign (lt_ rfl) rfl) rfl ?_
            refine WL.nil ?_
            refine WX.regs (L' := [(0, _), (1, _), (2, _), (6, _), (7, _), (8, _), (9, _), (10, _), (36, _)]) ?_
            refine WX.next ?_
            refine WC.condT rfl ?_
            refine WC.seq ?_
            refine WC.region ?_
            refine wlv (op_assign (lt_ rfl) rfl) rfl ?_
            refine WL.nil ?_
            refine WX.regs (L' := [(6, _), (7, _), (8, _)]) ?_
            refine WX.next ?_
            refine WC.exit ?_
            refine WX.in_miss rfl ?_
            refine WX.then_exit ?_
            refine WX.in_miss rfl ?_
            refine WX.then_exit ?_
            refine WX.in_hit ?_
            refine WX.next ?_
            refine WC.seq ?_
            refine WC.region ?_
            refine wlv (op_move (lt_ rfl) rfl) rfl ?_
            refine wlv (op_move (lt_ rfl) rfl) rfl ?_
            refine wlv (op_move (lt_ rfl) rfl) rfl ?_
            refine wlv (op_assign (lt_ rfl) rfl) rfl ?_
            refine wlv (op_assign (lt_ rfl) rfl) rfl ?_
            refine wlv (op_assign (lt_ rfl) rfl) rfl ?_
            refine WL.nil ?_
            refine WX.regs (L' := [(6, _), (7, _), (8, _)]) ?_
            refine WX.next ?_
            refine WC.ret ?_
            refine WX.scope_ret ?_
            exact Fin.ret3 xI ((_, _, l, pos, _)) (by dsimp only; rw [hsc]; first | exact (scanF_end (by rw [List.length_map]; omega)).symm | exact (scanF_err hlt hj (by omega)).symm | exact (scanF_seq hlt hj (by rw [List.length_map]; omega)).symm) Try.results56 rfl (.tmp rfl) (.tmp rfl) (.tmp rfl) xT (by simp)
          ·
            refine wlgv (op_fieldAddr fo89_2 (lt_ rfl) rfl) rfl rfl rfl ?_
            refine wlgv (op_load1 fl3 (lt_ rfl) rfl xM rfl) rfl rfl rfl ?_
            refine wlgv (op_move (lt_ rfl) rfl) rfl rfl rfl ?_
            refine wlgv (op_move (lt_ rfl) rfl) rfl rfl rfl ?_
            refine wlgv (op_len Try.underlying100 (lt_ rfl) rfl) rfl rfl rfl ?_
            refine wlgv (op_add (lt_ rfl) rfl rfl (by omega)) rfl rfl rfl ?_
            refine wlgv (op_neq (lt_ rfl) rfl rfl) rfl rfl rfl ?_
            refine wlv (op_pickF (lt_ rfl) rfl rfl) rfl ?_
            refine wlv (op_assign (lt_ rfl) rfl) rfl ?_
            refine WL.nil ?_
            refine WX.regs (L' := [(0, _), (1, _), (2, _), (6, _), (7, _), (8, _), (9, _), (10, _), (36, _)]) ?_
            refine WX.next ?_
            refine WC.cond rfl (fun h4 => ?_) (fun h4 => ?_)
            ·
              refine WC.seq ?_
              refine WC.region ?_
              refine wlv (op_assign (lt_ rfl) rfl) rfl ?_
              refine WL.nil ?_
              refine WX.regs (L' := [(6, _), (7, _), (8, _)]) ?_
              refine WX.next ?_
              refine WC.exit ?_
              refine WX.in_miss rfl ?_
              refine WX.then_exit ?_
              refine WX.in_miss rfl ?_
              refine WX.then_exit ?_
              refine WX.in_hit ?_
              refine WX.next ?_
              refine WC.seq ?_
              refine WC.region ?_
              refine wlv (op_move (lt_ rfl) rfl) rfl ?_
              refine wlv (op_move (lt_ rfl) rfl) rfl ?_
              refine wlv (op_move (lt_ rfl) rfl) rfl ?_
              refine wlv (op_assign (lt_ rfl) rfl) rfl ?_
              refine wlv (op_assign (lt_ rfl) rfl) rfl ?_
              refine wlv (op_assign (lt_ rfl) rfl) rfl ?_
              refine WL.nil ?_
              refine WX.regs (L' := [(6, _), (7, _), (8, _)]) ?_
              refine WX.next ?_
              refine WC.ret ?_
              refine WX.scope_ret ?_
              exact Fin.ret3 xI ((_, _, l, pos, _)) (by dsimp only; rw [hsc]; first | exact (scanF_end (by rw [List.length_map]; omega)).symm | exact (scanF_err hlt hj (by omega)).symm | exact (scanF_seq hlt hj (by rw [List.length_map]; omega)).symm) Try.results56 rfl (.tmp rfl) (.tmp rfl) (.tmp rfl) xT (by simp)
            ·
              refine WC.skip ?_
              refine WX.in_normal ?_
              refine WX.next ?_
              refine WC.seq ?_
              refine WC.region ?_
              refine wlv (op_move (lt_ rfl) rfl) rfl ?_
              refine wlv (op_loadAll ag89 (lt_ rfl) rfl xM xL) rfl ?_
              refine wl1 (op_lit1 Try.underlying100 ti89 rfl (by decide) (lt_ rfl) rfl rfl) rfl fun b2 => ?_
              refine wl2 (op_append Try.underlying100 ti89 rfl (by decide) (lt_ rfl) rfl rfl xK xS (by rfl) (by omega) (by omega)) rfl fun A1 c1 => ?_
              refine wlv (op_assign (lt_ rfl) rfl) rfl ?_
              refine WL.nil ?_
              refine WX.regs (L' := [(0, _), (1, _), (2, _), (6, _), (7, _), (8, _), (10, _)]) ?_
              refine WX.next ?_
              refine WC.region ?_
              refine wlv (op_move (lt_ rfl) rfl) rfl ?_
              refine wlv (op_move (lt_ rfl) rfl) rfl ?_
              refine wlv (op_add (lt_ rfl) rfl rfl (by omega)) rfl ?_
              refine wlv (op_assign (lt_ rfl) rfl) rfl ?_
              refine WL.nil ?_
              refine WX.regs (L' := [(0, _), (1, _), (2, _), (6, _), (7, _), (8, _)]) ?_
              refine WX.in_normal ?_
              refine WX.ownEq (v := .slice A1 (l.length + 1) c1) ((l ++ [(⟨rec.k, rec.g, rec.n, ⟨Ar, cr, rec.p⟩⟩ : Rs)]).flatMap Rs.cells) xK (cells_push l ⟨rec.k, rec.g, rec.n, ⟨Ar, cr, rec.p⟩⟩) ?_
              refine WX.merge2 (c1 := rowsC true (l.map Rs.b)) (c2 := own (.slice Ar rec.p.length cr) 5 1 rec.p.length (bvs rec.p)) (d := rowsC true ((l ++ [(⟨rec.k, rec.g, rec.n, ⟨Ar, cr, rec.p⟩⟩ : Rs)]).map Rs.b)) xK xK (by rw [← bs_push]; exact rowsC_snoc (own_le_bs rfl) (fun _ => by simp)) ?_
              rw [show l.length + 1 = (l ++ [(⟨rec.k, rec.g, rec.n, ⟨Ar, cr, rec.p⟩⟩ : Rs)]).length by simp]
              refine WX.meet ((pos + cnt.toNat, l ++ [(⟨rec.k, rec.g, rec.n, ⟨Ar, cr, rec.p⟩⟩ : Rs)], A1, c1)) ⟨⟨by simp only []; omega, by simp only [List.length_append, List.length_singleton]; omega, fu, by simp only []; omega, by rw [hsc, scanF_go hlt hj (by rw [List.length_map]; omega), List.map_append]; rfl⟩, by simp only []; omega⟩ (fun a w hs => hs.sub xY xT)
      ·
        refine WC.exit ?_
        refine WX.then_exit ?_
        refine WX.then_exit ?_
        refine WX.in_hit ?_
        refine WX.next ?_
        refine WC.seq ?_
        refine WC.region ?_
        refine wlv (op_move (lt_ rfl) rfl) rfl ?_
        refine wlv (op_move (lt_ rfl) rfl) rfl ?_
        refine wlv (op_move (lt_ rfl) rfl) rfl ?_
        refine wlv (op_assign (lt_ rfl) rfl) rfl ?_
        refine wlv (op_assign (lt_ rfl) rfl) rfl ?_
        refine wlv (op_assign (lt_ rfl) rfl) rfl ?_
        refine WL.nil ?_
        refine WX.regs (L' := [(6, _), (7, _), (8, _)]) ?_
        refine WX.next ?_
        refine WC.ret ?_
        refine WX.scope_ret ?_
        exact Fin.ret3 xI ((_, _, l, pos, _)) (by dsimp only; rw [hsc]; first | exact (scanF_end (by rw [List.length_map]; omega)).symm | exact (scanF_err hlt hj (by omega)).symm | exact (scanF_seq hlt hj (by rw [List.length_map]; omega)).symm) Try.results56 rfl (.tmp rfl) (.tmp rfl) (.tmp rfl) xT (by simp)
end Go.Proofs.Ytkjlbedebmffgaa.Sx

set_option linter.unusedVariables false
set_option linter.unusedSimpArgs false
namespace Go.Proofs.Ytkjlbedebmffgaa.Sx
open Go.RowKit Go.Proofs.Ytkjlbedebmffgaa.Ty
attribute [local irreducible] blk own rd rx frameC

theorem foldl_vl (bs : List UInt8) : ∀ a : Nat, bs.foldl (fun n x => n * 256 + x.toNat) a = a * 256 ^ bs.length + vl bs := by
  induction bs with
  | nil => intro a; simp [vl]
  | cons x bs ih =>
    intro a
    show bs.foldl _ (a * 256 + x.toNat) = _
    have h2 : vl (x :: bs) = (0 * 256 + x.toNat) * 256 ^ bs.length + vl bs := ih (0 * 256 + x.toNat)
    rw [ih, h2, List.length_cons, Nat.pow_succ, Nat.zero_mul, Nat.zero_add, Nat.add_mul, Nat.mul_assoc, Nat.mul_comm 256]
    omega
theorem vl_cons (x : UInt8) (bs : List UInt8) : vl (x :: bs) = x.toNat * 256 ^ bs.length + vl bs := by
  have := foldl_vl bs (0 * 256 + x.toNat)
  simpa [vl] using this
theorem vl_be (n k : Nat) : vl (be n k) = n % 256 ^ k := by
  induction k with
  | zero => simp [be, vl, Nat.mod_one]
  | succ k ih =>
    rw [be, vl_cons, ih, be_length, Nat.pow_succ, Nat.mod_mul]
    have : (UInt8.ofNat (n / 256 ^ k)).toNat = n / 256 ^ k % 256 := by simp
    rw [this, Nat.mul_comm (256 ^ k)]
    omega
theorem vl_be_lt {n k : Nat} (h : n < 256 ^ k) : vl (be n k) = n := by rw [vl_be, Nat.mod_eq_of_lt h]
theorem sealB_drop (x : List UInt8) (o : Nat) : (sealB x).drop (16 + o) = (sealR x).drop o := by
  unfold sealB
  rw [← List.drop_drop, List.drop_left' (by simp [sha_length])]
theorem sealB_take (x : List UInt8) : (sealB x).take 16 = (sha (sealR x)).take 16 := by
  unfold sealB
  rw [List.take_left' (by simp [sha_length])]
theorem sealR_eq (x : List UInt8) (h : x.length ≤ 240) : sealR x = x ++ List.replicate (240 - x.length) 0 := by
  unfold sealR
  rw [List.take_of_length_le (by simp; omega)]
section
variable (k g n i c : Nat) (bs : List UInt8)
theorem enc_drop (o : Nat) (h : bs.length ≤ 224) : (enc k g n i c bs).drop (16 + o) = (hdr k g n i c bs.length ++ (bs ++ List.replicate (224 - bs.length) 0)).drop o := by
  unfold enc
  rw [sealB_drop, sealR_eq _ (by simp [hdr_length]; omega), List.append_assoc]
  simp only [List.length_append, hdr_length]
  rw [show 240 - (16 + bs.length) = 224 - bs.length by omega]
theorem hdr_fld (r : List UInt8) (m : Nat) : ((hdr k g n i c m ++ r).drop 0).take 4 = be g 4 ∧ ((hdr k g n i c m ++ r).drop 4).take 4 = be n 4 ∧ ((hdr k g n i c m ++ r).drop 8).take 2 = be k 2
    ∧ ((hdr k g n i c m ++ r).drop 10).take 2 = be i 2 ∧ ((hdr k g n i c m ++ r).drop 12).take 2 = be c 2 ∧ ((hdr k g n i c m ++ r).drop 14).take 2 = be m 2 ∧ (hdr k g n i c m ++ r).drop 16 = r := by
  simp [hdr, be]
theorem dec_enc (hk : k < 65536) (hg : g < 2147483648) (hn : n < 2147483648) (hi : i < 65536) (hc : c < 65536) (h : bs.length ≤ 224) (hch : chk k g n i c bs.length = 0) :
    dec (enc k g n i c bs) = (⟨k, g, n, i, c, bs⟩, 0) := by
  have hf := hdr_fld k g n i c (bs ++ List.replicate (224 - bs.length) 0) bs.length
  have f16 : fld (enc k g n i c bs) 16 4 = g := by
    show vl (((enc k g n i c bs).drop (16 + 0)).take 4) = g
    rw [enc_drop _ _ _ _ _ _ _ h, hf.1, vl_be_lt (by omega)]
  have f20 : fld (enc k g n i c bs) 20 4 = n := by
    show vl (((enc k g n i c bs).drop (16 + 4)).take 4) = n
    rw [enc_drop _ _ _ _ _ _ _ h, hf.2.1, vl_be_lt (by omega)]
  have f24 : fld (enc k g n i c bs) 24 2 = k := by
    show vl (((enc k g n i c bs).drop (16 + 8)).take 2) = k
    rw [enc_drop _ _ _ _ _ _ _ h, hf.2.2.1, vl_be_lt (by omega)]
  have f26 : fld (enc k g n i c bs) 26 2 = i := by
    show vl (((enc k g n i c bs).drop (16 + 10)).take 2) = i
    rw [enc_drop _ _ _ _ _ _ _ h, hf.2.2.2.1, vl_be_lt (by omega)]
  have f28 : fld (enc k g n i c bs) 28 2 = c := by
    show vl (((enc k g n i c bs).drop (16 + 12)).take 2) = c
    rw [enc_drop _ _ _ _ _ _ _ h, hf.2.2.2.2.1, vl_be_lt (by omega)]
  have f30 : fld (enc k g n i c bs) 30 2 = bs.length := by
    show vl (((enc k g n i c bs).drop (16 + 14)).take 2) = bs.length
    rw [enc_drop _ _ _ _ _ _ _ h, hf.2.2.2.2.2.1, vl_be_lt (by omega)]
  have f32 : (enc k g n i c bs).drop 32 = bs ++ List.replicate (224 - bs.length) 0 := by
    show (enc k g n i c bs).drop (16 + 16) = _
    rw [enc_drop _ _ _ _ _ _ _ h, hf.2.2.2.2.2.2]
  have hp : decP (enc k g n i c bs) = ⟨k, g, n, i, c, bs⟩ := by
    unfold decP
    rw [f16, f20, f24, f26, f28, f30, f32, List.take_left' rfl]
  have hs : (sha ((enc k g n i c bs).drop 16)).take 16 = (enc k g n i c bs).take 16 := by
    unfold enc
    have h0 := sealB_drop (hdr k g n i c bs.length ++ bs) 0
    rw [Nat.add_zero, List.drop_zero] at h0
    rw [sealB_take, h0]
  have hbl : blank ((enc k g n i c bs).drop (32 + fld (enc k g n i c bs) 30 2)) = true := by
    rw [f30, ← List.drop_drop, f32, List.drop_left' rfl]
    simp [blank]
  rw [dec_ok (enc_length _ _ _ _ _ _) hs (by rw [f30]; omega) (by rw [hp]; exact hch) hbl, hp]
end
end Go.Proofs.Ytkjlbedebmffgaa.Sx

set_option linter.unusedVariables false
set_option linter.unusedSimpArgs false
namespace Go.Proofs.Ytkjlbedebmffgaa.Sx
open Go.RowKit Go.Proofs.Ytkjlbedebmffgaa.Ty
attribute [local irreducible] blk own rd rx frameC

def sp (k g n : Int) (p : List UInt8) (i : Nat) : Pt := ⟨k, g, n, i, need p.length, chunk p i⟩
theorem dec_sect {k g n : Int} {p : List UInt8} {i : Nat} (hf : fineP k g n) (hp : p.length ≤ 131072) (hi : i < need p.length) : dec (sect k g n p i) = (sp k g n p i, 0) := by
  have hch := chk_part hf hp hi
  have hn := need_le hp
  have hcl := chunk_length p i
  simp only [fineP] at hf
  obtain ⟨k, rfl⟩ := Int.eq_ofNat_of_zero_le hf.1
  obtain ⟨g, rfl⟩ := Int.eq_ofNat_of_zero_le hf.2.2.1
  obtain ⟨n, rfl⟩ := Int.eq_ofNat_of_zero_le hf.2.2.2.2.1
  exact dec_enc k g n i (need p.length) (chunk p i) (by omega) (by omega) (by omega) (by omega) (by omega) (by omega) hch
theorem chunk_take (p : List UInt8) (i : Nat) : p.take (i * 224) ++ chunk p i = p.take ((i + 1) * 224) := by
  have e : chunk p i = (p.drop (i * 224)).take 224 := by
    unfold chunk
    rw [List.take_eq_take_iff, List.length_drop]
    omega
  rw [e, ← List.take_add]
  congr 1
  omega
theorem jf_sects {k g n : Int} {p : List UInt8} (hf : fineP k g n) (hp : p.length ≤ 131072) {ss : List (List UInt8)} (r : Nat) : ∀ (m i : Nat), (∀ j, i ≤ j → j < i + m → ss[j]? = some (sect k g n p j)) → i + m ≤ need p.length →
    jf ss (sp k g n p 0) (m + r) i (p.take (i * 224)) = jf ss (sp k g n p 0) r (i + m) (p.take ((i + m) * 224)) := by
  intro m
  induction m with
  | zero => intro i _ _; rw [Nat.zero_add, Nat.add_zero]
  | succ m ih =>
    intro i h hle
    have hi := h i (Nat.le_refl _) (by omega)
    have hlt := (List.getElem?_eq_some_iff.1 hi).1
    rw [show m + 1 + r = (m + r) + 1 by omega, jf_next (s := sect k g n p i) (p := sp k g n p i) (by omega) (by simp [List.getD_eq_getElem?_getD, hi]) (dec_sect hf hp (by omega)).symm (by unfold jbad sp; simp)]
    have hb : (sp k g n p i).b = chunk p i := rfl
    rw [hb, chunk_take, ih (i + 1) (fun j h1 h2 => h j (by omega) (by omega)) (by omega)]
    congr 1
    · omega
    · congr 2; omega
theorem join_sects {k g n : Int} {p : List UInt8} (hf : fineP k g n) (hp : p.length ≤ 131072) {ss : List (List UInt8)} (h : ∀ j, j < need p.length → ss[j]? = some (sect k g n p j)) : join ss = ((⟨k, g, n, p⟩ : Rcd), ((need p.length : Nat) : Int), (0 : Int)) := by
  have hn := need_le hp
  have h0 := h 0 (by omega)
  have hlt := (List.getElem?_eq_some_iff.1 h0).1
  have hb : (sp k g n p 0).b = p.take (1 * 224) := by
    have := chunk_take p 0
    simpa [sp] using this
  have hc : (sp k g n p 0).c = (need p.length : Nat) := rfl
  have hj := jf_sects hf hp (ss := ss) 0 (need p.length - 1) 1 (fun j _ h2 => h j (by omega)) (by omega)
  rw [join_go (s := sect k g n p 0) (p := sp k g n p 0) (by omega) (by simp [List.getD_eq_getElem?_getD, h0]) (dec_sect hf hp (by omega)).symm rfl, hb, hc, Int.toNat_natCast, ← Nat.add_zero (need p.length - 1), hj]
  have hall : (1 + (need p.length - 1)) * 224 ≥ p.length := by unfold need; omega
  rw [List.take_of_length_le hall]
  rfl
/-- Only the first sectors of a record. -/
theorem join_cut {k g n : Int} {p : List UInt8} (hf : fineP k g n) (hp : p.length ≤ 131072) {ss : List (List UInt8)} {m : Nat} (h1 : 1 ≤ m) (hm : m < need p.length) (hl : ss.length = m) (h : ∀ j, j < m → ss[j]? = some (sect k g n p j)) : join ss = (rc0, 0, 23) := by
  have hn := need_le hp
  have h0 := h 0 (by omega)
  have hb : (sp k g n p 0).b = p.take (1 * 224) := by
    have := chunk_take p 0
    simpa [sp] using this
  have hc : (sp k g n p 0).c = (need p.length : Nat) := rfl
  have hj := jf_sects hf hp (ss := ss) (need p.length - m) (m - 1) 1 (fun j _ h2 => h j (by omega)) (by omega)
  rw [show m - 1 + (need p.length - m) = need p.length - 1 by omega] at hj
  rw [join_go (s := sect k g n p 0) (p := sp k g n p 0) (by omega) (by simp [List.getD_eq_getElem?_getD, h0]) (dec_sect hf hp (by omega)).symm rfl, hb, hc, Int.toNat_natCast, hj,
    show need p.length - m = (need p.length - m - 1) + 1 by omega]
  exact jf_short (by omega)
/-- A damaged sector among those of a record. -/
theorem join_dam {k g n : Int} {p : List UInt8} (hf : fineP k g n) (hp : p.length ≤ 131072) {ss : List (List UInt8)} {m : Nat} {s : List UInt8} {e : Int} (hm : m < need p.length) (hs : ss[m]? = some s) (hd : (dec s).2 = e) (he : ¬ e = 0) (h : ∀ j, j < m → ss[j]? = some (sect k g n p j)) : join ss = (rc0, 0, e) := by
  have hn := need_le hp
  have hlt := (List.getElem?_eq_some_iff.1 hs).1
  have hg : ss.getD m [] = s := by simp [List.getD_eq_getElem?_getD, hs]
  by_cases hm0 : m = 0
  · subst hm0
    exact join_first (p := (dec s).1) (by omega) hg (by rw [← hd]) he
  have h0 := h 0 (by omega)
  have hb : (sp k g n p 0).b = p.take (1 * 224) := by
    have := chunk_take p 0
    simpa [sp] using this
  have hc : (sp k g n p 0).c = (need p.length : Nat) := rfl
  have hj := jf_sects hf hp (ss := ss) (need p.length - m) (m - 1) 1 (fun j _ h2 => h j (by omega)) (by omega)
  rw [show m - 1 + (need p.length - m) = need p.length - 1 by omega] at hj
  rw [join_go (s := sect k g n p 0) (p := sp k g n p 0) (by omega) (by simp [List.getD_eq_getElem?_getD, h0]) (dec_sect hf hp (by omega)).symm rfl, hb, hc, Int.toNat_natCast, hj,
    show need p.length - m = (need p.length - m - 1) + 1 by omega, show 1 + (m - 1) = m by omega]
  exact jf_err (p := (dec s).1) (by omega) hg (by rw [← hd]) he
theorem sects_length (k g n : Int) (p : List UInt8) : (sects k g n p).length = need p.length := by simp [sects]
theorem sects_at {k g n : Int} {p : List UInt8} {j : Nat} (h : j < need p.length) : (sects k g n p)[j]? = some (sect k g n p j) := by simp [sects, h]
/-- The sectors of records with consecutive numbers. -/
def recs (k g : Int) : Int → List (List UInt8) → List (List UInt8)
  | _, [] => []
  | n, p :: ps => sects k g n p ++ recs k g (n + 1) ps
def rcds (k g : Int) : Int → List (List UInt8) → List Rcd
  | _, [] => []
  | n, p :: ps => ⟨k, g, n, p⟩ :: rcds k g (n + 1) ps
def needs : List (List UInt8) → Nat
  | [] => 0
  | p :: ps => need p.length + needs ps
theorem rcds_length (k g n : Int) (ps : List (List UInt8)) : (rcds k g n ps).length = ps.length := by
  induction ps generalizing n with
  | nil => rfl
  | cons p ps ih => simp [rcds, ih]
theorem recs_length (k g n : Int) (ps : List (List UInt8)) : (recs k g n ps).length = needs ps := by
  induction ps generalizing n with
  | nil => rfl
  | cons p ps ih => simp [recs, needs, sects_length, ih]
theorem needs_le (ps : List (List UInt8)) : ps.length ≤ needs ps := by
  induction ps with
  | nil => exact Nat.le_refl _
  | cons p ps ih =>
    have : 1 ≤ need p.length := by unfold need; omega
    simp only [List.length_cons, needs]; omega
theorem needs_append (ps qs : List (List UInt8)) : needs (ps ++ qs) = needs ps + needs qs := by
  induction ps with
  | nil => simp [needs]
  | cons p ps ih => simp only [List.cons_append, needs, ih]; omega
theorem recs_append (k g n : Int) (ps qs : List (List UInt8)) : recs k g n (ps ++ qs) = recs k g n ps ++ recs k g (n + ps.length) qs := by
  induction ps generalizing n with
  | nil => simp [recs]
  | cons p ps ih =>
    simp only [List.cons_append, recs, ih, List.append_assoc, List.length_cons]
    congr 3
    omega
theorem rcds_at {k g n : Int} {ps : List (List UInt8)} {i : Nat} {p : List UInt8} (h : ps[i]? = some p) : (rcds k g n ps)[i]? = some ⟨k, g, n + i, p⟩ := by
  induction ps generalizing n i with
  | nil => cases h
  | cons q ps ih =>
    cases i with
    | zero =>
      simp only [List.getElem?_cons_zero, Option.some.injEq] at h
      subst h
      simp [rcds]
    | succ i =>
      simp only [rcds, List.getElem?_cons_succ] at h ⊢
      rw [ih h]
      congr 2
      omega
theorem scanF_recs {g : Int} {ss : List (List UInt8)} {fuel : Nat} : ∀ (ps : List (List UInt8)) (n n0 : Int) (pos : Nat) (acc : List Rcd) (tail : List (List UInt8)), ss.drop pos = recs 0 g n ps ++ tail → (∀ p ∈ ps, p.length ≤ 131072) → fineP 0 g n → n + ps.length ≤ 2147483647 →
    n = n0 + acc.length → scanF ss g n0 (fuel + ps.length) pos acc = scanF ss g n0 fuel (pos + needs ps) (acc ++ rcds 0 g n ps) := by
  intro ps
  induction ps with
  | nil => intro n n0 pos acc tail _ _ _ _ _; simp [needs, rcds]
  | cons p ps ih =>
    intro n n0 pos acc tail hd hp hf hn hacc
    have hp0 := hp p (List.mem_cons_self ..)
    have hnd := need_le hp0
    have hj : join (ss.drop pos) = ((⟨0, g, n, p⟩ : Rcd), ((need p.length : Nat) : Int), (0 : Int)) := join_sects hf hp0 fun j hj => by
      rw [hd, recs, List.append_assoc, List.getElem?_append_left (by rw [sects_length]; exact hj), sects_at hj]
    have hlt : pos < ss.length := by
      have := congrArg List.length hd
      simp only [List.length_drop, recs, List.length_append, sects_length] at this
      omega
    simp only [List.length_cons] at hn
    rw [List.length_cons, ← Nat.add_assoc, scanF_go hlt hj.symm ⟨rfl, hacc⟩, Int.toNat_natCast,
      ih (n + 1) n0 (pos + need p.length) (acc ++ [(⟨0, g, n, p⟩ : Rcd)]) tail (by rw [← List.drop_drop, hd, recs, List.append_assoc, List.drop_left' (sects_length ..)]) (fun q hq => hp q (List.mem_cons_of_mem _ hq)) (by simp only [fineP] at *; omega) (by omega) (by simp only [List.length_append, List.length_singleton]; omega)]
    simp only [needs, rcds, List.append_assoc, List.singleton_append]
    congr 1
    omega
end Go.Proofs.Ytkjlbedebmffgaa.Sx

