import Derived.Test.YthephcghglldaaaS8
import Derived.Test.YthephcghglldaaaSp
set_option linter.unusedVariables false
set_option linter.unusedSimpArgs false
namespace Go.Proofs.Ythephcghglldaaa.Sx
open Go.RowKit Go.Proofs.Ythephcghglldaaa.Ty
attribute [local irreducible] blk own rd rx frameC

def be (n : Nat) : Nat → List UInt8
  | 0 => []
  | k + 1 => UInt8.ofNat (n / 256 ^ k) :: be n k
@[simp] theorem be_length (n k : Nat) : (be n k).length = k := by induction k <;> simp [be, *]
/-- The number of bytes, the first one the highest. -/
def vl (bs : List UInt8) : Nat := bs.foldl (fun n x => n * 256 + x.toNat) 0
theorem vl_snoc (bs : List UInt8) (x : UInt8) : vl (bs ++ [x]) = vl bs * 256 + x.toNat := by simp [vl]
theorem vl_from (bs : List UInt8) : ∀ a : Nat, bs.foldl (fun n x => n * 256 + x.toNat) a < (a + 1) * 256 ^ bs.length := by
  induction bs with
  | nil => intro a; simp
  | cons x bs ih =>
    intro a
    have h := ih (a * 256 + x.toNat)
    have hx := x.toNat_lt
    have h2 : (a * 256 + x.toNat + 1) * 256 ^ bs.length ≤ ((a + 1) * 256) * 256 ^ bs.length := Nat.mul_le_mul_right _ (by omega)
    have h3 : (a + 1) * 256 ^ (x :: bs).length = ((a + 1) * 256) * 256 ^ bs.length := by rw [List.length_cons, Nat.pow_succ, Nat.mul_comm (256 ^ bs.length) 256, Nat.mul_assoc]
    rw [List.foldl_cons, h3]
    omega
theorem vl_lt (bs : List UInt8) : vl bs < 256 ^ bs.length := by
  have := vl_from bs 0
  simpa [vl] using this
theorem vl_step (bs : List UInt8) (i : Nat) (h : i < bs.length) : vl (bs.take (i + 1)) = vl (bs.take i) * 256 + (bs.getD i 0).toNat := by
  rw [List.take_succ_eq_append_getElem h, vl_snoc]
  simp [h]
abbrev fineP (k g n : Int) : Prop := 0 ≤ k ∧ k ≤ 65535 ∧ 0 ≤ g ∧ g ≤ 2147483647 ∧ 0 ≤ n ∧ n ≤ 2147483647
/-- What Check answers. -/
def chk (k g n i c : Int) (m : Nat) : Int :=
  if ¬ fineP k g n ∨ c < 1 ∨ c > 586 ∨ i < 0 ∨ i ≥ c then 2
  else if m > 224 then 5
  else if (¬ i = c - 1 ∧ m < 224) ∨ (i = c - 1 ∧ c > 1 ∧ m = 0) then 4
  else if i = c - 1 ∧ 224 * i + m > 131072 then 5
  else 0
def pcells (k g n i c : Int) (v : Value) : List Value := [.int .i64 k, .int .i64 g, .int .i64 n, .int .i64 i, .int .i64 c, v]
section
variable {P : Program} {n : Nat} {L : List (Nat × Value)} {H : List Ch} {d : Nat} {ty : TypeId} {pos : String} {af : Array Edge} {g : Option (Nat × Bool)} {x y : Operand} {xt yt : TypeId}
theorem op_subw {a b : Int} (hn : d < n) (hx : evr L x = some (.int .i64 a)) (hy : evr L y = some (.int .i64 b)) :
    Val P ⟨some d, .binOp .sub xt x y yt, ty, pos, af, g⟩ n L H d (.int .i64 (IntKind.i64.wrap (a - b))) :=
  binop_val hn hx hy (fun _ _ => rfl) fun w => by simp [binOp, Op.intArith]
theorem op_addw {a b : Int} (hn : d < n) (hx : evr L x = some (.int .i64 a)) (hy : evr L y = some (.int .i64 b)) :
    Val P ⟨some d, .binOp .add xt x y yt, ty, pos, af, g⟩ n L H d (.int .i64 (IntKind.i64.wrap (a + b))) :=
  binop_val hn hx hy (fun _ _ => rfl) fun w => by simp [binOp, Op.intArith]
end
theorem wrap_in {a : Int} (h : -9223372036854775808 ≤ a ∧ a < 9223372036854775808) : IntKind.i64.wrap a = a := by
  simp [IntKind.wrap_i64]; omega
set_option maxHeartbeats 400000 in
set_option maxRecDepth 10000 in
theorem f54_spec (nn k : Nat) (hn : nn < 9223372036854775808) (hk : k ≤ 8) :
    Spec Try.prog 54 [.int .i64 nn, .int .i64 k] [] [] (R := Option Addr × Nat) (fun _ => True) (fun r => .slice r.1 k r.2) (fun r => [own (.slice r.1 k r.2) 5 1 k (bvs (be nn k))]) := by
  refine Spec.intro Try.func54 Try.ntmps54 rfl (by simp) (by simp) fun w0 => ?_
  refine WC.seq ?_
  refine WC.region ?_
  refine wlv (op_assign (by decide) rfl) rfl ?_
  refine WL.nil ?_
  refine WX.regs (L' := [(0, _), (1, _)]) (by repeat (first | exact RS.nil | refine RS.cons rfl ?_)) ?_
  refine WX.next ?_
  refine WC.seq ?_
  refine WC.region ?_
  refine wlv (op_assign (by decide) rfl) rfl ?_
  refine WL.nil ?_
  refine WX.regs (L' := [(0, _), (1, _), (5, _)]) (by repeat (first | exact RS.nil | refine RS.cons rfl ?_)) ?_
  refine WX.next ?_
  refine WC.seq ?_
  refine WC.seq ?_
  refine WC.region ?_
  refine wlv (op_assign (by decide) rfl) rfl ?_
  refine WL.nil ?_
  refine WX.regs (L' := [(0, _), (1, _), (5, _), (6, _)]) (by repeat (first | exact RS.nil | refine RS.cons rfl ?_)) ?_
  refine WX.next ?_
  refine WC.block ?_
  refine WC.nilslice 5 1 ?_
  refine WC.loop (X := Nat × Option Addr × Nat) (fun q => k - q.1) (fun q => q.1 ≤ k) (fun q => [(0, .int .i64 ((nn / 256 ^ q.1 : Nat) : Int)), (1, .int .i64 k), (5, .slice q.2.1 q.1 q.2.2), (6, .int .i64 q.1)]) (fun q => [own (.slice q.2.1 q.1 q.2.2) 5 1 q.1 (bvs (be nn q.1)), frameC w0 (MutF [])]) ((0, none, 0)) (Nat.zero_le _) (fun a w hs => hs.sub (by repeat (first | exact RS.nil | refine RS.cons (by first | rfl | simp [get, upd, keep, argL]) ?_)) (by repeat (first | exact Takes.nil | exact Take.here | apply Takes.cons | apply Take.there))) ?_
  rintro ⟨i, A, c⟩ hi
  try dsimp only at hi ⊢
  have hi0 := Nat.div_le_self nn (256 ^ i)
  have hi1 : (0 : Int) ≤ ((nn / 256 ^ i : Nat) : Int) := Int.natCast_nonneg _
  refine WC.seq ?_
  refine WC.seq ?_
  refine WC.region ?_
  refine wlv (op_move (by decide) rfl) rfl ?_
  refine wlv (op_move (by decide) rfl) rfl ?_
  refine wlv (op_lss (by decide) rfl rfl) rfl ?_
  refine WL.nil ?_
  refine WX.regs (L' := [(0, _), (1, _), (5, _), (6, _), (9, _)]) (by repeat (first | exact RS.nil | refine RS.cons rfl ?_)) ?_
  refine WX.next ?_
  refine WC.cond rfl (fun h1 => ?_) (fun h1 => ?_)
  ·
    refine WC.skip ?_
    refine WX.next ?_
    refine WC.seq ?_
    refine WC.block ?_
    refine WC.seq ?_
    refine WC.region ?_
    refine wlv (op_move (by decide) rfl) rfl ?_
    refine wlv (op_rem (by decide) rfl rfl (by omega) (by omega)) rfl ?_
    refine wlv (op_convByte (by kernel_rfl) Try.underlying5 (by decide) rfl (by omega)) rfl ?_
    refine wl1 (op_lit1 Try.underlying22 ti5 rfl (by decide) (by decide) rfl rfl) rfl fun b1 => ?_
    refine wlv (op_move (by decide) rfl) rfl ?_
    refine wl2 (op_append Try.underlying22 ti5 rfl (by decide) (by decide) rfl rfl (by repeat (first | exact Take.here | apply Take.there)) (by first | (apply Src.rd; (repeat (first | exact List.Mem.head _ | apply List.Mem.tail)); done) | (apply Src.own; (repeat (first | exact List.Mem.head _ | apply List.Mem.tail)); done) | (apply Src.rx; (repeat (first | exact List.Mem.head _ | apply List.Mem.tail)); done)) (bvs_one _) (by omega) (by omega)) rfl fun A1 c1 => ?_
    refine wlv (op_assign (by decide) rfl) rfl ?_
    refine WL.nil ?_
    refine WX.regs (L' := [(0, _), (1, _), (5, _), (6, _)]) (by repeat (first | exact RS.nil | refine RS.cons rfl ?_)) ?_
    refine WX.next ?_
    refine WC.region ?_
    refine wlv (op_move (by decide) rfl) rfl ?_
    refine wlv (op_quo (by decide) rfl rfl (by omega) (by omega)) rfl ?_
    refine wlv (op_assign (by decide) rfl) rfl ?_
    refine WL.nil ?_
    refine WX.regs (L' := [(0, _), (1, _), (5, _), (6, _)]) (by repeat (first | exact RS.nil | refine RS.cons rfl ?_)) ?_
    refine WX.in_normal ?_
    refine WX.next ?_
    refine WC.region ?_
    refine wlv (op_move (by decide) rfl) rfl ?_
    refine wlv (op_add (by decide) rfl rfl (by omega)) rfl ?_
    refine wlv (op_assign (by decide) rfl) rfl ?_
    refine WL.nil ?_
    refine WX.regs (L' := [(0, _), (1, _), (5, _), (6, _)]) (by repeat (first | exact RS.nil | refine RS.cons rfl ?_)) ?_
    have e1 : nn / 256 ^ i / 256 = nn / 256 ^ (i + 1) := by rw [Nat.div_div_eq_div_mul, ← Nat.pow_succ]
    have e0 : ((nn / 256 ^ i : Nat) : Int) / 256 = ((nn / 256 ^ (i + 1) : Nat) : Int) := by rw [← e1]; omega
    have e2 : (bv (UInt8.ofNat (((nn / 256 ^ i : Nat) : Int) % 256).toNat)).cells.toList ++ bvs (be nn i) = bvs (be nn (i + 1)) := by
      have e3 : (((nn / 256 ^ i : Nat) : Int) % 256).toNat = nn / 256 ^ i % 256 := by omega
      rw [e3]
      simp only [bvs, be, List.map_cons]
      have e4 : UInt8.ofNat (nn / 256 ^ i % 256) = UInt8.ofNat (nn / 256 ^ i) := by apply UInt8.toNat_inj.1; simp
      rw [e4]
      rfl
    rw [e0, e2, Nat.add_comm 1 i]
    refine WX.meet ((i + 1, A1, c1)) ⟨by simp only []; omega, by simp only []; omega⟩ (fun a w hs => hs.sub (by repeat (first | exact RS.nil | refine RS.cons (by first | rfl | exact congrArg (fun z : Int => some (Value.int .i64 z)) (by omega)) ?_)) (by repeat (first | exact Takes.nil | exact Take.here | apply Takes.cons | apply Take.there)))
  ·
    refine WC.exit ?_
    refine WX.then_exit ?_
    refine WX.then_exit ?_
    refine WX.in_hit ?_
    refine WX.next ?_
    refine WC.seq ?_
    refine WC.region ?_
    refine wlv (op_move (by decide) rfl) rfl ?_
    refine wlv (op_assign (by decide) rfl) rfl ?_
    refine WL.nil ?_
    refine WX.regs (L' := [(4, _)]) (by repeat (first | exact RS.nil | refine RS.cons rfl ?_)) ?_
    refine WX.next ?_
    refine WC.ret ?_
    obtain rfl : i = k := by omega
    exact Fin.ret1 (by first | exact .inl rfl | exact .inr rfl) ((A, c)) (trivial) Try.results54 (.tmp rfl) (by repeat (first | exact Takes.nil | exact Take.here | apply Takes.cons | apply Take.there)) (by simp)
set_option maxHeartbeats 400000 in
set_option maxRecDepth 10000 in
theorem f57_spec (A : Option Addr) (m c : Nat) (bs : List UInt8) (hm : bs.length = m) (hm' : m ≤ 6) :
    Spec Try.prog 57 [.slice A m c] [] [rd (.slice A m c) 1 m (bvs bs)] (R := Unit) (fun _ => True) (fun _ => .int .i64 ((vl bs : Nat) : Int)) (fun _ => []) := by
  have hv : ∀ i, i ≤ m → vl (bs.take i) < 256 ^ 6 := fun i hi => Nat.lt_of_lt_of_le (vl_lt _) (Nat.pow_le_pow_right (by decide) (by rw [List.length_take]; omega))
  refine Spec.intro Try.func57 Try.ntmps57 rfl (by simp) (by simp) fun w0 => ?_
  refine WC.seq ?_
  refine WC.region ?_
  refine wlv (op_assign (by decide) rfl) rfl ?_
  refine WL.nil ?_
  refine WX.regs (L' := [(0, _)]) (by repeat (first | exact RS.nil | refine RS.cons rfl ?_)) ?_
  refine WX.next ?_
  refine WC.seq ?_
  refine WC.region ?_
  refine wlv (op_assign (by decide) rfl) rfl ?_
  refine WL.nil ?_
  refine WX.regs (L' := [(0, _), (3, _)]) (by repeat (first | exact RS.nil | refine RS.cons rfl ?_)) ?_
  refine WX.next ?_
  refine WC.seq ?_
  refine WC.seq ?_
  refine WC.region ?_
  refine wlv (op_assign (by decide) rfl) rfl ?_
  refine WL.nil ?_
  refine WX.regs (L' := [(0, _), (3, _), (4, _)]) (by repeat (first | exact RS.nil | refine RS.cons rfl ?_)) ?_
  refine WX.next ?_
  refine WC.block ?_
  refine WC.loop (X := Nat) (fun i => m - i) (fun i => i ≤ m) (fun i => [(0, .slice A m c), (3, .int .i64 ((vl (bs.take i) : Nat) : Int)), (4, .int .i64 (i : Int))]) (fun i => [rd (.slice A m c) 1 m (bvs bs), frameC w0 (MutF [])]) (0) (by omega) (fun a w hs => hs.sub (by repeat (first | exact RS.nil | refine RS.cons (by first | rfl | exact congrArg (fun z : Int => some (Value.int .i64 z)) (by omega)) ?_)) (by repeat (first | exact Takes.nil | exact Take.here | apply Takes.cons | apply Take.there))) ?_
  rintro i hi
  try dsimp only
  have hvi := hv i hi
  refine WC.seq ?_
  refine WC.seq ?_
  refine WC.region ?_
  refine wlv (op_move (by decide) rfl) rfl ?_
  refine wlv (op_move (by decide) rfl) rfl ?_
  refine wlv (op_len Try.underlying22 (by decide) rfl) rfl ?_
  refine wlv (op_lss (by decide) rfl rfl) rfl ?_
  refine WL.nil ?_
  refine WX.regs (L' := [(0, _), (3, _), (4, _), (8, _)]) (by repeat (first | exact RS.nil | refine RS.cons rfl ?_)) ?_
  refine WX.next ?_
  refine WC.cond rfl (fun h1 => ?_) (fun h1 => ?_)
  ·
    refine WC.skip ?_
    refine WX.next ?_
    refine WC.seq ?_
    refine WC.block ?_
    refine WC.region ?_
    refine wlv (op_move (by decide) rfl) rfl ?_
    refine wlv (op_mul (by decide) rfl rfl (by omega)) rfl ?_
    refine wlv (op_move (by decide) rfl) rfl ?_
    refine wlv (op_move (by decide) rfl) rfl ?_
    refine wlv (op_index Try.underlying22 sz5 (by decide) rfl rfl (by omega) (by omega) (by decide) (by first | (apply Src.rd; (repeat (first | exact List.Mem.head _ | apply List.Mem.tail)); done) | (apply Src.own; (repeat (first | exact List.Mem.head _ | apply List.Mem.tail)); done) | (apply Src.rx; (repeat (first | exact List.Mem.head _ | apply List.Mem.tail)); done))) rfl ?_
    refine wlv (op_loadS fl5 (by decide) rfl (by first | (apply Src.rd; (repeat (first | exact List.Mem.head _ | apply List.Mem.tail)); done) | (apply Src.own; (repeat (first | exact List.Mem.head _ | apply List.Mem.tail)); done) | (apply Src.rx; (repeat (first | exact List.Mem.head _ | apply List.Mem.tail)); done)) (bvs_at (k := i) (by omega) (by omega))) rfl ?_
    refine wlv (op_conv8i (by kernel_rfl) Try.underlying3 (by decide) rfl) rfl ?_
    refine wlv (op_add (by decide) rfl rfl (by have := (bs.getD i 0).toNat_lt; omega)) rfl ?_
    refine wlv (op_assign (by decide) rfl) rfl ?_
    refine WL.nil ?_
    rw [show ((vl (bs.take i) : Nat) : Int) * 256 + (((bs.getD i 0).toNat : Nat) : Int) = ((vl (bs.take (i + 1)) : Nat) : Int) by rw [vl_step bs i (by omega)]; simp]
    refine WX.regs (L' := [(0, _), (3, _), (4, _)]) (by repeat (first | exact RS.nil | refine RS.cons rfl ?_)) ?_
    refine WX.in_normal ?_
    refine WX.next ?_
    refine WC.region ?_
    refine wlv (op_move (by decide) rfl) rfl ?_
    refine wlv (op_add (by decide) rfl rfl (by omega)) rfl ?_
    refine wlv (op_assign (by decide) rfl) rfl ?_
    refine WL.nil ?_
    refine WX.regs (L' := [(0, _), (3, _), (4, _)]) (by repeat (first | exact RS.nil | refine RS.cons rfl ?_)) ?_
    refine WX.meet (i + 1) ⟨by omega, by omega⟩ (fun a w hs => hs.sub (by repeat (first | exact RS.nil | refine RS.cons (by first | rfl | exact congrArg (fun z : Int => some (Value.int .i64 z)) (by omega)) ?_)) (by repeat (first | exact Takes.nil | exact Take.here | apply Takes.cons | apply Take.there)))
  ·
    refine WC.exit ?_
    refine WX.then_exit ?_
    refine WX.then_exit ?_
    refine WX.in_hit ?_
    refine WX.next ?_
    refine WC.seq ?_
    refine WC.region ?_
    refine wlv (op_move (by decide) rfl) rfl ?_
    refine wlv (op_assign (by decide) rfl) rfl ?_
    refine WL.nil ?_
    refine WX.regs (L' := [(2, _)]) (by repeat (first | exact RS.nil | refine RS.cons rfl ?_)) ?_
    refine WX.next ?_
    refine WC.ret ?_
    obtain rfl : i = m := by omega
    rw [show bs.take i = bs by rw [List.take_of_length_le (by omega)]]
    exact Fin.ret1 (by first | exact .inl rfl | exact .inr rfl) (()) (trivial) Try.results57 (.tmp rfl) (by repeat (first | exact Takes.nil | exact Take.here | apply Takes.cons | apply Take.there)) (by simp)
set_option maxHeartbeats 400000 in
set_option maxRecDepth 10000 in
theorem f51_spec (k g n : Int) :
    Spec Try.prog 51 [.int .i64 k, .int .i64 g, .int .i64 n] [] [] (R := Bool) (fun b => b = decide (fineP k g n)) (fun b => .bool b) (fun _ => []) := by
  refine Spec.intro Try.func51 Try.ntmps51 rfl (by simp) (by simp) fun w0 => ?_
  refine WC.seq ?_
  refine WC.region ?_
  refine wlv (op_assign (by decide) rfl) rfl ?_
  refine WL.nil ?_
  refine WX.regs (L' := [(0, _), (1, _), (2, _)]) (by repeat (first | exact RS.nil | refine RS.cons rfl ?_)) ?_
  refine WX.next ?_
  refine WC.seq ?_
  refine WC.region ?_
  refine wlv (op_move (by decide) rfl) rfl ?_
  refine wlv (op_geq (by decide) rfl rfl) rfl ?_
  refine wlv (op_move (by decide) rfl) rfl ?_
  refine WL.split (t := 9) rfl (fun g9 => ?_) (fun g9 => ?_)
  ·
    refine wlgv (op_move (by decide) rfl) rfl rfl rfl ?_
    refine wlgv (op_leq (by decide) rfl rfl) rfl rfl rfl ?_
    refine wlv (op_pickT (by decide) rfl rfl) rfl ?_
    refine wlv (op_move (by decide) rfl) rfl ?_
    refine WL.split (t := 13) rfl (fun g13 => ?_) (fun g13 => ?_)
    ·
      refine wlgv (op_move (by decide) rfl) rfl rfl rfl ?_
      refine wlgv (op_geq (by decide) rfl rfl) rfl rfl rfl ?_
      refine wlv (op_pickT (by decide) rfl rfl) rfl ?_
      refine wlv (op_move (by decide) rfl) rfl ?_
      refine WL.split (t := 17) rfl (fun g17 => ?_) (fun g17 => ?_)
      ·
        refine wlgv (op_move (by decide) rfl) rfl rfl rfl ?_
        refine wlgv (op_leq (by decide) rfl rfl) rfl rfl rfl ?_
        refine wlv (op_pickT (by decide) rfl rfl) rfl ?_
        refine wlv (op_move (by decide) rfl) rfl ?_
        refine WL.split (t := 21) rfl (fun g21 => ?_) (fun g21 => ?_)
        ·
          refine wlgv (op_move (by decide) rfl) rfl rfl rfl ?_
          refine wlgv (op_geq (by decide) rfl rfl) rfl rfl rfl ?_
          refine wlv (op_pickT (by decide) rfl rfl) rfl ?_
          refine wlv (op_move (by decide) rfl) rfl ?_
          refine WL.split (t := 25) rfl (fun g25 => ?_) (fun g25 => ?_)
          ·
            refine wlgv (op_move (by decide) rfl) rfl rfl rfl ?_
            refine wlgv (op_leq (by decide) rfl rfl) rfl rfl rfl ?_
            refine wlv (op_pickT (by decide) rfl rfl) rfl ?_
            refine wlv (op_assign (by decide) rfl) rfl ?_
            refine WL.nil ?_
            refine WX.regs (L' := [(6, _)]) (by repeat (first | exact RS.nil | refine RS.cons rfl ?_)) ?_
            refine WX.next ?_
            refine WC.ret ?_
            exact Fin.ret1 (by first | exact .inl rfl | exact .inr rfl) (_) (by simp only [true_eq_decide_iff, false_eq_decide_iff, decide_eq_decide, fineP]; omega) Try.results51 (.tmp rfl) (by repeat (first | exact Takes.nil | exact Take.here | apply Takes.cons | apply Take.there)) (by simp)
          ·
            refine wlg_no rfl rfl rfl rfl rfl (by decide) ?_
            refine wlg_no rfl rfl rfl rfl rfl (by decide) ?_
            refine wlv (op_pickF (by decide) rfl rfl) rfl ?_
            refine wlv (op_assign (by decide) rfl) rfl ?_
            refine WL.nil ?_
            refine WX.regs (L' := [(6, _)]) (by repeat (first | exact RS.nil | refine RS.cons rfl ?_)) ?_
            refine WX.next ?_
            refine WC.ret ?_
            exact Fin.ret1 (by first | exact .inl rfl | exact .inr rfl) (_) (by simp only [true_eq_decide_iff, false_eq_decide_iff, decide_eq_decide, fineP]; omega) Try.results51 (.tmp rfl) (by repeat (first | exact Takes.nil | exact Take.here | apply Takes.cons | apply Take.there)) (by simp)
        ·
          refine wlg_no rfl rfl rfl rfl rfl (by decide) ?_
          refine wlg_no rfl rfl rfl rfl rfl (by decide) ?_
          refine wlv (op_pickF (by decide) rfl rfl) rfl ?_
          refine wlv (op_move (by decide) rfl) rfl ?_
          refine wlg_no rfl rfl rfl rfl rfl (by decide) ?_
          refine wlg_no rfl rfl rfl rfl rfl (by decide) ?_
          refine wlv (op_pickF (by decide) rfl rfl) rfl ?_
          refine wlv (op_assign (by decide) rfl) rfl ?_
          refine WL.nil ?_
          refine WX.regs (L' := [(6, _)]) (by repeat (first | exact RS.nil | refine RS.cons rfl ?_)) ?_
          refine WX.next ?_
          refine WC.ret ?_
          exact Fin.ret1 (by first | exact .inl rfl | exact .inr rfl) (_) (by simp only [true_eq_decide_iff, false_eq_decide_iff, decide_eq_decide, fineP]; omega) Try.results51 (.tmp rfl) (by repeat (first | exact Takes.nil | exact Take.here | apply Takes.cons | apply Take.there)) (by simp)
      ·
        refine wlg_no rfl rfl rfl rfl rfl (by decide) ?_
        refine wlg_no rfl rfl rfl rfl rfl (by decide) ?_
        refine wlv (op_pickF (by decide) rfl rfl) rfl ?_
        refine wlv (op_move (by decide) rfl) rfl ?_
        refine wlg_no rfl rfl rfl rfl rfl (by decide) ?_
        refine wlg_no rfl rfl rfl rfl rfl (by decide) ?_
        refine wlv (op_pickF (by decide) rfl rfl) rfl ?_
        refine wlv (op_move (by decide) rfl) rfl ?_
        refine wlg_no rfl rfl rfl rfl rfl (by decide) ?_
        refine wlg_no rfl rfl rfl rfl rfl (by decide) ?_
        refine wlv (op_pickF (by decide) rfl rfl) rfl ?_
        refine wlv (op_assign (by decide) rfl) rfl ?_
        refine WL.nil ?_
        refine WX.regs (L' := [(6, _)]) (by repeat (first | exact RS.nil | refine RS.cons rfl ?_)) ?_
        refine WX.next ?_
        refine WC.ret ?_
        exact Fin.ret1 (by first | exact .inl rfl | exact .inr rfl) (_) (by simp only [true_eq_decide_iff, false_eq_decide_iff, decide_eq_decide, fineP]; omega) Try.results51 (.tmp rfl) (by repeat (first | exact Takes.nil | exact Take.here | apply Takes.cons | apply Take.there)) (by simp)
    ·
      refine wlg_no rfl rfl rfl rfl rfl (by decide) ?_
      refine wlg_no rfl rfl rfl rfl rfl (by decide) ?_
      refine wlv (op_pickF (by decide) rfl rfl) rfl ?_
      refine wlv (op_move (by decide) rfl) rfl ?_
      refine wlg_no rfl rfl rfl rfl rfl (by decide) ?_
      refine wlg_no rfl rfl rfl rfl rfl (by decide) ?_
      refine wlv (op_pickF (by decide) rfl rfl) rfl ?_
      refine wlv (op_move (by decide) rfl) rfl ?_
      refine wlg_no rfl rfl rfl rfl rfl (by decide) ?_
      refine wlg_no rfl rfl rfl rfl rfl (by decide) ?_
      refine wlv (op_pickF (by decide) rfl rfl) rfl ?_
      refine wlv (op_move (by decide) rfl) rfl ?_
      refine wlg_no rfl rfl rfl rfl rfl (by decide) ?_
      refine wlg_no rfl rfl rfl rfl rfl (by decide) ?_
      refine wlv (op_pickF (by decide) rfl rfl) rfl ?_
      refine wlv (op_assign (by decide) rfl) rfl ?_
      refine WL.nil ?_
      refine WX.regs (L' := [(6, _)]) (by repeat (first | exact RS.nil | refine RS.cons rfl ?_)) ?_
      refine WX.next ?_
      refine WC.ret ?_
      exact Fin.ret1 (by first | exact .inl rfl | exact .inr rfl) (_) (by simp only [true_eq_decide_iff, false_eq_decide_iff, decide_eq_decide, fineP]; omega) Try.results51 (.tmp rfl) (by repeat (first | exact Takes.nil | exact Take.here | apply Takes.cons | apply Take.there)) (by simp)
  ·
    refine wlg_no rfl rfl rfl rfl rfl (by decide) ?_
    refine wlg_no rfl rfl rfl rfl rfl (by decide) ?_
    refine wlv (op_pickF (by decide) rfl rfl) rfl ?_
    refine wlv (op_move (by decide) rfl) rfl ?_
    refine wlg_no rfl rfl rfl rfl rfl (by decide) ?_
    refine wlg_no rfl rfl rfl rfl rfl (by decide) ?_
    refine wlv (op_pickF (by decide) rfl rfl) rfl ?_
    refine wlv (op_move (by decide) rfl) rfl ?_
    refine wlg_no rfl rfl rfl rfl rfl (by decide) ?_
    refine wlg_no rfl rfl rfl rfl rfl (by decide) ?_
    refine wlv (op_pickF (by decide) rfl rfl) rfl ?_
    refine wlv (op_move (by decide) rfl) rfl ?_
    refine wlg_no rfl rfl rfl rfl rfl (by decide) ?_
    refine wlg_no rfl rfl rfl rfl rfl (by decide) ?_
    refine wlv (op_pickF (by decide) rfl rfl) rfl ?_
    refine wlv (op_move (by decide) rfl) rfl ?_
    refine wlg_no rfl rfl rfl rfl rfl (by decide) ?_
    refine wlg_no rfl rfl rfl rfl rfl (by decide) ?_
    refine wlv (op_pickF (by decide) rfl rfl) rfl ?_
    refine wlv (op_assign (by decide) rfl) rfl ?_
    refine WL.nil ?_
    refine WX.regs (L' := [(6, _)]) (by repeat (first | exact RS.nil | refine RS.cons rfl ?_)) ?_
    refine WX.next ?_
    refine WC.ret ?_
    exact Fin.ret1 (by first | exact .inl rfl | exact .inr rfl) (_) (by simp only [true_eq_decide_iff, false_eq_decide_iff, decide_eq_decide, fineP]; omega) Try.results51 (.tmp rfl) (by repeat (first | exact Takes.nil | exact Take.here | apply Takes.cons | apply Take.there)) (by simp)
set_option maxHeartbeats 400000 in
set_option maxRecDepth 10000 in
theorem f50_spec (k g : Int) :
    Spec Try.prog 50 [.int .i64 k, .int .i64 g] [] [] (R := Bool) (fun b => b = decide (0 ≤ k ∧ k ≤ g)) (fun b => .bool b) (fun _ => []) := by
  refine Spec.intro Try.func50 Try.ntmps50 rfl (by simp) (by simp) fun w0 => ?_
  refine WC.seq ?_
  refine WC.region ?_
  refine wlv (op_assign (by decide) rfl) rfl ?_
  refine WL.nil ?_
  refine WX.regs (L' := [(0, _), (1, _)]) (by repeat (first | exact RS.nil | refine RS.cons rfl ?_)) ?_
  refine WX.next ?_
  refine WC.seq ?_
  refine WC.region ?_
  refine wlv (op_move (by decide) rfl) rfl ?_
  refine wlv (op_geq (by decide) rfl rfl) rfl ?_
  refine wlv (op_move (by decide) rfl) rfl ?_
  refine WL.split (t := 7) rfl (fun g7 => ?_) (fun g7 => ?_)
  ·
    refine wlgv (op_move (by decide) rfl) rfl rfl rfl ?_
    refine wlgv (op_move (by decide) rfl) rfl rfl rfl ?_
    refine wlgv (op_leq (by decide) rfl rfl) rfl rfl rfl ?_
    refine wlv (op_pickT (by decide) rfl rfl) rfl ?_
    refine wlv (op_assign (by decide) rfl) rfl ?_
    refine WL.nil ?_
    refine WX.regs (L' := [(4, _)]) (by repeat (first | exact RS.nil | refine RS.cons rfl ?_)) ?_
    refine WX.next ?_
    refine WC.ret ?_
    exact Fin.ret1 (by first | exact .inl rfl | exact .inr rfl) (_) (by simp only [true_eq_decide_iff, false_eq_decide_iff, decide_eq_decide, fineP]; omega) Try.results50 (.tmp rfl) (by repeat (first | exact Takes.nil | exact Take.here | apply Takes.cons | apply Take.there)) (by simp)
  ·
    refine wlg_no rfl rfl rfl rfl rfl (by decide) ?_
    refine wlg_no rfl rfl rfl rfl rfl (by decide) ?_
    refine wlg_no rfl rfl rfl rfl rfl (by decide) ?_
    refine wlv (op_pickF (by decide) rfl rfl) rfl ?_
    refine wlv (op_assign (by decide) rfl) rfl ?_
    refine WL.nil ?_
    refine WX.regs (L' := [(4, _)]) (by repeat (first | exact RS.nil | refine RS.cons rfl ?_)) ?_
    refine WX.next ?_
    refine WC.ret ?_
    exact Fin.ret1 (by first | exact .inl rfl | exact .inr rfl) (_) (by simp only [true_eq_decide_iff, false_eq_decide_iff, decide_eq_decide, fineP]; omega) Try.results50 (.tmp rfl) (by repeat (first | exact Takes.nil | exact Take.here | apply Takes.cons | apply Take.there)) (by simp)
set_option maxHeartbeats 400000 in
set_option maxRecDepth 10000 in
theorem f49_spec (k g n : Int) :
    Spec Try.prog 49 [.agg #[.int .i64 k, .int .i64 g, .int .i64 n]] [] [] (R := Bool) (fun b => b = decide (fineP k g n)) (fun b => .bool b) (fun _ => []) := by
  refine Spec.intro Try.func49 Try.ntmps49 rfl (by simp) (by simp) fun w0 => ?_
  refine WC.seq ?_
  refine WC.region ?_
  refine wl1 (op_box (by decide) rfl rfl) rfl fun b1 => ?_
  refine wlv (op_assign (by decide) rfl) rfl ?_
  refine WL.nil ?_
  refine WX.regs (L' := [(1, _)]) (by repeat (first | exact RS.nil | refine RS.cons rfl ?_)) ?_
  refine WX.next ?_
  refine WC.seq ?_
  refine WC.region ?_
  refine wlv (op_fieldAddr fo101_0 (by decide) rfl) rfl ?_
  refine wlv (op_load1 fl3 (by decide) rfl (by repeat (first | exact List.Mem.head _ | apply List.Mem.tail)) rfl) rfl ?_
  refine wlx (op_call (f50_spec _ _) ca50 (by decide) rfl (by apply Give.mk; (repeat (first | exact Takes.nil | exact Take.here | apply Takes.cons | apply Take.there)); repeat (first | exact Reads.nil | (apply Reads.rd; (focus (repeat (first | exact List.Mem.head _ | apply List.Mem.tail)); done)) | (apply Reads.own; (focus (repeat (first | exact List.Mem.head _ | apply List.Mem.tail)); done)) | (apply Reads.rx; (focus (repeat (first | exact List.Mem.head _ | apply List.Mem.tail)); done)) | (apply Reads.rows (e := false); (focus (repeat (first | exact List.Mem.head _ | apply List.Mem.tail)); done)) | (apply Reads.rows (e := true); (focus (repeat (first | exact List.Mem.head _ | apply List.Mem.tail)); done))))) rfl ?_
  rintro _ rfl
  refine wlv (op_move (by decide) rfl) rfl ?_
  refine WL.split (t := 6) rfl (fun g6 => ?_) (fun g6 => ?_)
  ·
    refine wlgv (op_fieldAddr fo101_1 (by decide) rfl) rfl rfl rfl ?_
    refine wlgv (op_load1 fl3 (by decide) rfl (by repeat (first | exact List.Mem.head _ | apply List.Mem.tail)) rfl) rfl rfl rfl ?_
    refine wlgx (op_call (f50_spec _ _) ca50 (by decide) rfl (by apply Give.mk; (repeat (first | exact Takes.nil | exact Take.here | apply Takes.cons | apply Take.there)); repeat (first | exact Reads.nil | (apply Reads.rd; (focus (repeat (first | exact List.Mem.head _ | apply List.Mem.tail)); done)) | (apply Reads.own; (focus (repeat (first | exact List.Mem.head _ | apply List.Mem.tail)); done)) | (apply Reads.rx; (focus (repeat (first | exact List.Mem.head _ | apply List.Mem.tail)); done)) | (apply Reads.rows (e := false); (focus (repeat (first | exact List.Mem.head _ | apply List.Mem.tail)); done)) | (apply Reads.rows (e := true); (focus (repeat (first | exact List.Mem.head _ | apply List.Mem.tail)); done))))) rfl rfl rfl ?_
    rintro _ rfl
    refine wlv (op_pickT (by decide) rfl rfl) rfl ?_
    refine wlv (op_move (by decide) rfl) rfl ?_
    refine WL.split (t := 11) rfl (fun g11 => ?_) (fun g11 => ?_)
    ·
      refine wlgv (op_fieldAddr fo101_2 (by decide) rfl) rfl rfl rfl ?_
      refine wlgv (op_load1 fl3 (by decide) rfl (by repeat (first | exact List.Mem.head _ | apply List.Mem.tail)) rfl) rfl rfl rfl ?_
      refine wlgx (op_call (f50_spec _ _) ca50 (by decide) rfl (by apply Give.mk; (repeat (first | exact Takes.nil | exact Take.here | apply Takes.cons | apply Take.there)); repeat (first | exact Reads.nil | (apply Reads.rd; (focus (repeat (first | exact List.Mem.head _ | apply List.Mem.tail)); done)) | (apply Reads.own; (focus (repeat (first | exact List.Mem.head _ | apply List.Mem.tail)); done)) | (apply Reads.rx; (focus (repeat (first | exact List.Mem.head _ | apply List.Mem.tail)); done)) | (apply Reads.rows (e := false); (focus (repeat (first | exact List.Mem.head _ | apply List.Mem.tail)); done)) | (apply Reads.rows (e := true); (focus (repeat (first | exact List.Mem.head _ | apply List.Mem.tail)); done))))) rfl rfl rfl ?_
      rintro _ rfl
      refine wlv (op_pickT (by decide) rfl rfl) rfl ?_
      refine wlv (op_assign (by decide) rfl) rfl ?_
      refine WL.nil ?_
      refine WX.regs (L' := [(2, _)]) (by repeat (first | exact RS.nil | refine RS.cons rfl ?_)) ?_
      refine WX.next ?_
      refine WC.ret ?_
      exact Fin.ret1 (by first | exact .inl rfl | exact .inr rfl) (_) (by simp only [true_eq_decide_iff, false_eq_decide_iff, decide_eq_decide, fineP]; omega) Try.results49 (.tmp rfl) (by repeat (first | exact Takes.nil | exact Take.here | apply Takes.cons | apply Take.there)) (by simp)
    ·
      refine wlg_no rfl rfl rfl rfl rfl (by decide) ?_
      refine wlg_no rfl rfl rfl rfl rfl (by decide) ?_
      refine wlg_no rfl rfl rfl rfl rfl (by decide) ?_
      refine wlv (op_pickF (by decide) rfl rfl) rfl ?_
      refine wlv (op_assign (by decide) rfl) rfl ?_
      refine WL.nil ?_
      refine WX.regs (L' := [(2, _)]) (by repeat (first | exact RS.nil | refine RS.cons rfl ?_)) ?_
      refine WX.next ?_
      refine WC.ret ?_
      exact Fin.ret1 (by first | exact .inl rfl | exact .inr rfl) (_) (by simp only [true_eq_decide_iff, false_eq_decide_iff, decide_eq_decide, fineP]; omega) Try.results49 (.tmp rfl) (by repeat (first | exact Takes.nil | exact Take.here | apply Takes.cons | apply Take.there)) (by simp)
  ·
    refine wlg_no rfl rfl rfl rfl rfl (by decide) ?_
    refine wlg_no rfl rfl rfl rfl rfl (by decide) ?_
    refine wlg_no rfl rfl rfl rfl rfl (by decide) ?_
    refine wlv (op_pickF (by decide) rfl rfl) rfl ?_
    refine wlv (op_move (by decide) rfl) rfl ?_
    refine wlg_no rfl rfl rfl rfl rfl (by decide) ?_
    refine wlg_no rfl rfl rfl rfl rfl (by decide) ?_
    refine wlg_no rfl rfl rfl rfl rfl (by decide) ?_
    refine wlv (op_pickF (by decide) rfl rfl) rfl ?_
    refine wlv (op_assign (by decide) rfl) rfl ?_
    refine WL.nil ?_
    refine WX.regs (L' := [(2, _)]) (by repeat (first | exact RS.nil | refine RS.cons rfl ?_)) ?_
    refine WX.next ?_
    refine WC.ret ?_
    exact Fin.ret1 (by first | exact .inl rfl | exact .inr rfl) (_) (by simp only [true_eq_decide_iff, false_eq_decide_iff, decide_eq_decide, fineP]; omega) Try.results49 (.tmp rfl) (by repeat (first | exact Takes.nil | exact Take.here | apply Takes.cons | apply Take.there)) (by simp)
set_option maxHeartbeats 400000 in
set_option maxRecDepth 10000 in
theorem f48_spec (k g n i c : Int) (v : Value) :
    Spec Try.prog 48 [.agg (pcells k g n i c v).toArray] [] [] (R := Unit) (fun _ => True) (fun _ => .agg #[.int .i64 k, .int .i64 g, .int .i64 n]) (fun _ => []) := by
  refine Spec.intro Try.func48 Try.ntmps48 rfl (by simp) (by simp) fun w0 => ?_
  refine WC.seq ?_
  refine WC.region ?_
  refine wl1 (op_box (by decide) rfl rfl) rfl fun b1 => ?_
  refine wl1 (op_alloc ti101 (by decide)) rfl fun b2 => ?_
  refine WL.nil ?_
  refine WX.regs (L' := [(1, _), (2, _)]) (by repeat (first | exact RS.nil | refine RS.cons rfl ?_)) ?_
  refine WX.next ?_
  refine WC.seq ?_
  refine WC.region ?_
  refine wlv (op_fieldAddr fo25_0 (by decide) rfl) rfl ?_
  refine wlv (op_load1 fl3 (by decide) rfl (by repeat (first | exact List.Mem.head _ | apply List.Mem.tail)) rfl) rfl ?_
  refine wlv (op_fieldAddr fo25_1 (by decide) rfl) rfl ?_
  refine wlv (op_load1 fl3 (by decide) rfl (by repeat (first | exact List.Mem.head _ | apply List.Mem.tail)) rfl) rfl ?_
  refine wlv (op_fieldAddr fo25_2 (by decide) rfl) rfl ?_
  refine wlv (op_load1 fl3 (by decide) rfl (by repeat (first | exact List.Mem.head _ | apply List.Mem.tail)) rfl) rfl ?_
  refine wlv (op_build (cs := [.int .i64 k, .int .i64 g, .int .i64 n]) (pv := [(0, _), (1, _), (2, _)]) (by decide) rfl (by kernel_rfl)) rfl ?_
  refine wl (op_storeAll sz101 rfl rfl (by repeat (first | exact Take.here | apply Take.there)) (by first | rfl | (simp [Value.cells]; done) | (simp [Value.cells]; omega)) (by first | rfl | exact wvs_one _ | exact bvs_one _) (by first | rfl | (simp [Value.cells]; done) | (simp [Value.cells]; omega))) rfl ?_
  change WL _ _ _ _ _ _ _
  refine WL.nil ?_
  refine WX.regs (L' := [(2, _)]) (by repeat (first | exact RS.nil | refine RS.cons rfl ?_)) ?_
  refine WX.next ?_
  refine WC.ret ?_
  exact Fin.ret1 (by first | exact .inl rfl | exact .inr rfl) (()) (trivial) Try.results48 (.cellN rfl ag101 (by repeat (first | exact List.Mem.head _ | apply List.Mem.tail)) (by first | rfl | (simp [Value.cells]; done) | (simp [Value.cells]; omega))) (by repeat (first | exact Takes.nil | exact Take.here | apply Takes.cons | apply Take.there)) (by simp)
end Go.Proofs.Ythephcghglldaaa.Sx
