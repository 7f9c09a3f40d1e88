import Derived.Test.YtkjlbedebmffgaaMd
set_option linter.unusedVariables false
set_option linter.unusedSimpArgs false
namespace Go.Proofs.Ytkjlbedebmffgaa.Sx
open Go.RowKit Go.Proofs.Ytkjlbedebmffgaa.Ty
attribute [local irreducible] blk own rd rx frameC
set_option maxHeartbeats 400000 in
set_option maxRecDepth 10000 in
theorem f47_spec (bd bm : Nat) (A : Option Addr) (c : Nat) (D : Dk) (i : Int) :
    Spec Try.prog 47 [.pointer (some ⟨bd, 0, none⟩), .int .i64 i] [blk bd (dcells D bm A c) 66] [] (R := Unit) (fun _ => True) (fun _ => .bool (decide (0 ≤ i ∧ i < D.n))) (fun _ => [blk bd (dcells D bm A c) 66]) := by
  refine Spec.intro Try.func47 Try.ntmps47 rfl (by simp) (by simp) fun w0 => ?_
  refine WC.seq ?_
  refine WC.region ?_
  refine wlv (op_assign (lt_ rfl) rfl) rfl ?_
  refine WL.nil ?_
  refine WX.regs (L' := [(0, _), (1, _)]) ?_
  refine WX.next ?_
  refine WC.seq ?_
  refine WC.region ?_
  refine wlv (op_move (lt_ rfl) rfl) rfl ?_
  refine wlv (op_geq (lt_ rfl) rfl rfl) rfl ?_
  refine wlv (op_move (lt_ rfl) rfl) rfl ?_
  refine WL.split (t := 7) rfl (fun g7 => ?_) (fun g7 => ?_)
  ·
    refine wlgv (op_move (lt_ rfl) rfl) rfl rfl rfl ?_
    refine wlgv (op_move (lt_ rfl) rfl) rfl rfl rfl ?_
    refine wlgv (op_nilCheck (lt_ rfl) rfl) rfl rfl rfl ?_
    refine wlgv (op_fieldAddr fo66_0 (lt_ rfl) rfl) rfl rfl rfl ?_
    refine wlgv (op_load1 fl3 (lt_ rfl) rfl xM rfl) rfl rfl rfl ?_
    refine wlgv (op_lss (lt_ rfl) rfl rfl) rfl rfl rfl ?_
    refine wlv (op_pickT (lt_ rfl) rfl rfl) rfl ?_
    refine wlv (op_assign (lt_ rfl) rfl) rfl ?_
    refine WL.nil ?_
    refine WX.regs (L' := [(4, _)]) ?_
    refine WX.next ?_
    refine WC.ret ?_
    exact Fin.ret1 xI (()) (trivial) Try.results47 (.tmp (by first | (refine congrArg (fun z => some (Value.bool z)) ?_; simp_all; done) | (refine congrArg (fun z => some (Value.bool z)) ?_; rw [decide_eq_decide]; omega) | (refine congrArg (fun z => some (Value.bool z)) ?_; exact (decide_eq_false (by omega)).symm))) xT (by simp)
  ·
    refine wlg_no rfl rfl rfl rfl rfl (by decide) ?_
    refine wlg_no rfl rfl rfl rfl rfl (by decide) ?_
    refine wlg_no rfl rfl rfl rfl rfl (by decide) ?_
    refine wlg_no rfl rfl rfl rfl rfl (by decide) ?_
    refine wlg_no rfl rfl rfl rfl rfl (by decide) ?_
    refine wlg_no rfl rfl rfl rfl rfl (by decide) ?_
    refine wlv (op_pickF (lt_ rfl) rfl rfl) rfl ?_
    refine wlv (op_assign (lt_ rfl) rfl) rfl ?_
    refine WL.nil ?_
    refine WX.regs (L' := [(4, _)]) ?_
    refine WX.next ?_
    refine WC.ret ?_
    exact Fin.ret1 xI (()) (trivial) Try.results47 (.tmp (by first | (refine congrArg (fun z => some (Value.bool z)) ?_; simp_all; done) | (refine congrArg (fun z => some (Value.bool z)) ?_; rw [decide_eq_decide]; omega) | (refine congrArg (fun z => some (Value.bool z)) ?_; exact (decide_eq_false (by omega)).symm))) xT (by simp)
set_option maxHeartbeats 400000 in
set_option maxRecDepth 10000 in
theorem f48_spec (bd bm : Nat) (A : Option Addr) (c : Nat) (D : Dk) :
    Spec Try.prog 48 [.pointer (some ⟨bd, 0, none⟩)] [blk bd (dcells D bm A c) 66] [] (R := Unit) (fun _ => True) (fun _ => .int .i64 D.operate.2) (fun _ => [blk bd (dcells D.operate.1 bm A c) 66]) := by
  refine Spec.intro Try.func48 Try.ntmps48 rfl (by simp) (by simp) fun w0 => ?_
  refine WC.seq ?_
  refine WC.region ?_
  refine wlv (op_assign (lt_ rfl) rfl) rfl ?_
  refine WL.nil ?_
  refine WX.regs (L' := [(0, _)]) ?_
  refine WX.next ?_
  refine WC.seq ?_
  refine WC.seq ?_
  refine WC.region ?_
  refine wlv (op_move (lt_ rfl) rfl) rfl ?_
  refine wlv (op_nilCheck (lt_ rfl) rfl) rfl ?_
  refine wlv (op_fieldAddr fo66_4 (lt_ rfl) rfl) rfl ?_
  refine wlv (op_load1 fl4 (lt_ rfl) rfl xM rfl) rfl ?_
  refine wlv (op_move (lt_ rfl) rfl) rfl ?_
  refine WL.splitb (t := 7) rfl (fun g7 => ?_) (fun g7 => ?_)
  ·
    refine wlgv (op_move (lt_ rfl) rfl) rfl rfl rfl ?_
    refine wlgv (op_nilCheck (lt_ rfl) rfl) rfl rfl rfl ?_
    refine wlgv (op_fieldAddr fo66_5 (lt_ rfl) rfl) rfl rfl rfl ?_
    refine wlgv (op_load1 fl3 (lt_ rfl) rfl xM rfl) rfl rfl rfl ?_
    refine wlgv (op_eql (lt_ rfl) rfl rfl) rfl rfl rfl ?_
    refine wlv (op_pickT (lt_ rfl) rfl rfl) rfl ?_
    refine WL.nil ?_
    refine WX.regs (L' := [(0, _), (13, _)]) ?_
    refine WX.next ?_
    refine WC.cond rfl (fun h1 => ?_) (fun h1 => ?_)
    ·
      refine WC.seq ?_
      refine WC.region ?_
      refine wlv (op_move (lt_ rfl) rfl) rfl ?_
      refine wlv (op_nilCheck (lt_ rfl) rfl) rfl ?_
      refine wlv (op_fieldAddr fo66_6 (lt_ rfl) rfl) rfl ?_
      refine wl (op_store sz4 rfl rfl xK xL xO (by first | exact Nat.le_of_ble_eq_true rfl | (simp; omega))) rfl ?_
      change WL _ _ _ _ _ _ _
      refine WL.nil ?_
      have hop : D.operate = ({ D with down := true }, 28) := by unfold Dk.operate; rw [if_pos ⟨g7, h1⟩]
      rw [hop]
      refine WX.blkEq (b := bd) (dcells { D with down := true } bm A c) xK (by rfl) ?_
      refine WX.regs (L' := []) ?_
      refine WX.next ?_
      refine WC.seq ?_
      refine WC.region ?_
      refine wlv (op_assign (lt_ rfl) rfl) rfl ?_
      refine WL.nil ?_
      refine WX.regs (L' := [(2, _)]) ?_
      refine WX.next ?_
      refine WC.ret ?_
      refine WX.then_ret ?_
      exact Fin.ret1 xI (()) (trivial) Try.results48 (.tmp rfl) xT (by simp)
    ·
      refine WC.skip ?_
      refine WX.next ?_
      refine WC.seq ?_
      refine WC.region ?_
      refine wlv (op_move (lt_ rfl) rfl) rfl ?_
      refine wlv (op_nilCheck (lt_ rfl) rfl) rfl ?_
      refine wlv (op_fieldAddr fo66_5 (lt_ rfl) rfl) rfl ?_
      refine wlv (op_load1 fl3 (lt_ rfl) rfl xM rfl) rfl ?_
      refine wlv (op_subW (by decide) rfl rfl) rfl ?_
      refine wlv (op_nilCheck (lt_ rfl) rfl) rfl ?_
      refine wlv (op_fieldAddr fo66_5 (lt_ rfl) rfl) rfl ?_
      refine wl (op_store sz3 rfl rfl xK xL xO (by first | exact Nat.le_of_ble_eq_true rfl | (simp; omega))) rfl ?_
      change WL _ _ _ _ _ _ _
      refine WL.nil ?_
      refine WX.regs (L' := [(0, _)]) ?_
      refine WX.next ?_
      refine WC.seq ?_
      refine WC.region ?_
      refine wlv (op_move (lt_ rfl) rfl) rfl ?_
      refine wlv (op_nilCheck (lt_ rfl) rfl) rfl ?_
      refine wlv (op_fieldAddr fo66_3 (lt_ rfl) rfl) rfl ?_
      refine wlv (op_load1 fl3 (lt_ rfl) rfl xM rfl) rfl ?_
      refine wlv (op_addW (by decide) rfl rfl) rfl ?_
      refine wlv (op_nilCheck (lt_ rfl) rfl) rfl ?_
      refine wlv (op_fieldAddr fo66_3 (lt_ rfl) rfl) rfl ?_
      refine wl (op_store sz3 rfl rfl xK xL xO (by first | exact Nat.le_of_ble_eq_true rfl | (simp; omega))) rfl ?_
      change WL _ _ _ _ _ _ _
      refine WL.nil ?_
      have hop : D.operate = ({ D with limit := IntKind.i64.wrap (D.limit - 1), ops := IntKind.i64.wrap (D.ops + 1) }, 0) := by unfold Dk.operate; rw [if_neg (by simp_all)]
      rw [hop]
      refine WX.blkEq (b := bd) (dcells { D with limit := IntKind.i64.wrap (D.limit - 1), ops := IntKind.i64.wrap (D.ops + 1) } bm A c) xK (by rfl) ?_
      refine WX.regs (L' := []) ?_
      refine WX.next ?_
      refine WC.seq ?_
      refine WC.region ?_
      refine wlv (op_assign (lt_ rfl) rfl) rfl ?_
      refine WL.nil ?_
      refine WX.regs (L' := [(2, _)]) ?_
      refine WX.next ?_
      refine WC.ret ?_
      exact Fin.ret1 xI (()) (trivial) Try.results48 (.tmp rfl) xT (by simp)
  ·
    refine wlg_no rfl rfl rfl rfl rfl (by decide) ?_
    refine wlg_no rfl rfl rfl rfl rfl (by decide) ?_
    refine wlg_no rfl rfl rfl rfl rfl (by decide) ?_
    refine wlg_no rfl rfl rfl rfl rfl (by decide) ?_
    refine wlg_no rfl rfl rfl rfl rfl (by decide) ?_
    refine wlv (op_pickF (lt_ rfl) rfl rfl) rfl ?_
    refine WL.nil ?_
    refine WX.regs (L' := [(0, _), (13, _)]) ?_
    refine WX.next ?_
    refine WC.condF rfl ?_
    refine WC.skip ?_
    refine WX.next ?_
    refine WC.seq ?_
    refine WC.region ?_
    refine wlv (op_move (lt_ rfl) rfl) rfl ?_
    refine wlv (op_nilCheck (lt_ rfl) rfl) rfl ?_
    refine wlv (op_fieldAddr fo66_5 (lt_ rfl) rfl) rfl ?_
    refine wlv (op_load1 fl3 (lt_ rfl) rfl xM rfl) rfl ?_
    refine wlv (op_subW (by decide) rfl rfl) rfl ?_
    refine wlv (op_nilCheck (lt_ rfl) rfl) rfl ?_
    refine wlv (op_fieldAddr fo66_5 (lt_ rfl) rfl) rfl ?_
    refine wl (op_store sz3 rfl rfl xK xL xO (by first | exact Nat.le_of_ble_eq_true rfl | (simp; omega))) rfl ?_
    change WL _ _ _ _ _ _ _
    refine WL.nil ?_
    refine WX.regs (L' := [(0, _)]) ?_
    refine WX.next ?_
    refine WC.seq ?_
    refine WC.region ?_
    refine wlv (op_move (lt_ rfl) rfl) rfl ?_
    refine wlv (op_nilCheck (lt_ rfl) rfl) rfl ?_
    refine wlv (op_fieldAddr fo66_3 (lt_ rfl) rfl) rfl ?_
    refine wlv (op_load1 fl3 (lt_ rfl) rfl xM rfl) rfl ?_
    refine wlv (op_addW (by decide) rfl rfl) rfl ?_
    refine wlv (op_nilCheck (lt_ rfl) rfl) rfl ?_
    refine wlv (op_fieldAddr fo66_3 (lt_ rfl) rfl) rfl ?_
    refine wl (op_store sz3 rfl rfl xK xL xO (by first | exact Nat.le_of_ble_eq_true rfl | (simp; omega))) rfl ?_
    change WL _ _ _ _ _ _ _
    refine WL.nil ?_
    have hop : D.operate = ({ D with limit := IntKind.i64.wrap (D.limit - 1), ops := IntKind.i64.wrap (D.ops + 1) }, 0) := by unfold Dk.operate; rw [if_neg (by simp_all)]
    rw [hop]
    refine WX.blkEq (b := bd) (dcells { D with limit := IntKind.i64.wrap (D.limit - 1), ops := IntKind.i64.wrap (D.ops + 1) } bm A c) xK (by rfl) ?_
    refine WX.regs (L' := []) ?_
    refine WX.next ?_
    refine WC.seq ?_
    refine WC.region ?_
    refine wlv (op_assign (lt_ rfl) rfl) rfl ?_
    refine WL.nil ?_
    refine WX.regs (L' := [(2, _)]) ?_
    refine WX.next ?_
    refine WC.ret ?_
    exact Fin.ret1 xI (()) (trivial) Try.results48 (.tmp rfl) xT (by simp)
set_option maxHeartbeats 400000 in
set_option maxRecDepth 10000 in
theorem f50_spec (bd bm : Nat) (A : Option Addr) (c : Nat) (D : Dk) :
    Spec Try.prog 50 [.pointer (some ⟨bd, 0, none⟩)] [blk bd (dcells D bm A c) 66] [] (R := Unit) (fun _ => True) (fun _ => .int .i64 (D.n : Int)) (fun _ => [blk bd (dcells D bm A c) 66]) := by
  refine Spec.intro Try.func50 Try.ntmps50 rfl (by simp) (by simp) fun w0 => ?_
  refine WC.seq ?_
  refine WC.region ?_
  refine wlv (op_assign (lt_ rfl) rfl) rfl ?_
  refine WL.nil ?_
  refine WX.regs (L' := [(0, _)]) ?_
  refine WX.next ?_
  refine WC.seq ?_
  refine WC.seq ?_
  refine WC.region ?_
  refine wlv (op_move (lt_ rfl) rfl) rfl ?_
  refine wlv (op_eqlnil Try.underlying26 (lt_ rfl) rfl rfl) rfl ?_
  refine WL.nil ?_
  refine WX.regs (L' := [(0, _), (4, _)]) ?_
  refine WX.next ?_
  refine WC.condF rfl ?_
  refine WC.skip ?_
  refine WX.next ?_
  refine WC.seq ?_
  refine WC.region ?_
  refine wlv (op_move (lt_ rfl) rfl) rfl ?_
  refine wlv (op_nilCheck (lt_ rfl) rfl) rfl ?_
  refine wlv (op_fieldAddr fo66_0 (lt_ rfl) rfl) rfl ?_
  refine wlv (op_load1 fl3 (lt_ rfl) rfl xM rfl) rfl ?_
  refine wlv (op_assign (lt_ rfl) rfl) rfl ?_
  refine WL.nil ?_
  refine WX.regs (L' := [(2, _)]) ?_
  refine WX.next ?_
  refine WC.ret ?_
  exact Fin.ret1 xI (()) (trivial) Try.results50 (.tmp rfl) xT (by simp)
set_option maxHeartbeats 400000 in
set_option maxRecDepth 10000 in
theorem f51_spec (bd bm : Nat) (A : Option Addr) (c : Nat) (D : Dk) :
    Spec Try.prog 51 [.pointer (some ⟨bd, 0, none⟩)] [blk bd (dcells D bm A c) 66] [] (R := Unit) (fun _ => True) (fun _ => .bool D.down) (fun _ => [blk bd (dcells D bm A c) 66]) := by
  refine Spec.intro Try.func51 Try.ntmps51 rfl (by simp) (by simp) fun w0 => ?_
  refine WC.seq ?_
  refine WC.region ?_
  refine wlv (op_assign (lt_ rfl) rfl) rfl ?_
  refine WL.nil ?_
  refine WX.regs (L' := [(0, _)]) ?_
  refine WX.next ?_
  refine WC.seq ?_
  refine WC.region ?_
  refine wlv (op_move (lt_ rfl) rfl) rfl ?_
  refine wlv (op_neqnil Try.underlying26 (lt_ rfl) rfl rfl) rfl ?_
  refine wlv (op_move (lt_ rfl) rfl) rfl ?_
  refine wlgv (op_move (lt_ rfl) rfl) rfl rfl rfl ?_
  refine wlgv (op_nilCheck (lt_ rfl) rfl) rfl rfl rfl ?_
  refine wlgv (op_fieldAddr fo66_6 (lt_ rfl) rfl) rfl rfl rfl ?_
  refine wlgv (op_load1 fl4 (lt_ rfl) rfl xM rfl) rfl rfl rfl ?_
  refine wlv (op_pickT (lt_ rfl) rfl rfl) rfl ?_
  refine wlv (op_assign (lt_ rfl) rfl) rfl ?_
  refine WL.nil ?_
  refine WX.regs (L' := [(2, _)]) ?_
  refine WX.next ?_
  refine WC.ret ?_
  exact Fin.ret1 xI (()) (trivial) Try.results51 (.tmp rfl) xT (by simp)
set_option maxHeartbeats 400000 in
set_option maxRecDepth 10000 in
theorem f22_spec (bd bm : Nat) (A : Option Addr) (c : Nat) (D : Dk) :
    Spec Try.prog 22 [.pointer (some ⟨bd, 0, none⟩)] [blk bd (dcells D bm A c) 66] [] (R := Unit) (fun _ => True) (fun _ => .tuple #[]) (fun _ => [blk bd (dcells { D with down := true } bm A c) 66]) := by
  refine Spec.intro Try.func22 Try.ntmps22 rfl (by simp) (by simp) fun w0 => ?_
  refine WC.seq ?_
  refine WC.region ?_
  refine wlv (op_move (lt_ rfl) rfl) rfl ?_
  refine wlv (op_neqnil Try.underlying26 (lt_ rfl) rfl rfl) rfl ?_
  refine WL.nil ?_
  refine WX.regs (L' := [(0, _), (3, _)]) ?_
  refine WX.next ?_
  refine WC.condT rfl ?_
  refine WC.region ?_
  refine wlv (op_move (lt_ rfl) rfl) rfl ?_
  refine wlv (op_nilCheck (lt_ rfl) rfl) rfl ?_
  refine wlv (op_fieldAddr fo66_6 (lt_ rfl) rfl) rfl ?_
  refine wl (op_store sz4 rfl rfl xK xL xO (by first | exact Nat.le_of_ble_eq_true rfl | (simp; omega))) rfl ?_
  change WL _ _ _ _ _ _ _
  refine WL.nil ?_
  refine WX.blkEq (b := bd) (dcells { D with down := true } bm A c) xK (by rfl) ?_
  refine WX.regs (L' := []) ?_
  exact Fin.ret0 xI (()) (trivial) Try.results22 rfl  xT (by simp)
set_option maxHeartbeats 400000 in
set_option maxRecDepth 10000 in
theorem f15_spec (bd bm : Nat) (A : Option Addr) (c : Nat) (D : Dk) (i : Int) :
    Spec Try.prog 15 [.pointer (some ⟨bd, 0, none⟩), .int .i64 i] [blk bd (dcells D bm A c) 66] [] (R := Unit) (fun _ => True) (fun _ => .tuple #[]) (fun _ => [blk bd (dcells { D with lim := decide (0 ≤ i), limit := max i 0 } bm A c) 66]) := by
  refine Spec.intro Try.func15 Try.ntmps15 rfl (by simp) (by simp) fun w0 => ?_
  refine WC.seq ?_
  refine WC.region ?_
  refine wlv (op_move (lt_ rfl) rfl) rfl ?_
  refine wlv (op_neqnil Try.underlying26 (lt_ rfl) rfl rfl) rfl ?_
  refine WL.nil ?_
  refine WX.regs (L' := [(0, _), (1, _), (5, _)]) ?_
  refine WX.next ?_
  refine WC.condT rfl ?_
  refine WC.region ?_
  refine wlv (op_move (lt_ rfl) rfl) rfl ?_
  refine wlv (op_move (lt_ rfl) rfl) rfl ?_
  refine wlv (op_move (lt_ rfl) rfl) rfl ?_
  refine wlv (op_geq (lt_ rfl) rfl rfl) rfl ?_
  refine wlv (op_move (lt_ rfl) rfl) rfl ?_
  refine wlv (op_max (t := 0) (lt_ rfl) rfl rfl) rfl ?_
  refine wlv (op_nilCheck (lt_ rfl) rfl) rfl ?_
  refine wlv (op_fieldAddr fo66_4 (lt_ rfl) rfl) rfl ?_
  refine wl (op_store sz4 rfl rfl xK xL xO (by first | exact Nat.le_of_ble_eq_true rfl | (simp; omega))) rfl ?_
  change WL _ _ _ _ _ _ _
  refine wlv (op_nilCheck (lt_ rfl) rfl) rfl ?_
  refine wlv (op_fieldAddr fo66_5 (lt_ rfl) rfl) rfl ?_
  refine wl (op_store sz3 rfl rfl xK xL xO (by first | exact Nat.le_of_ble_eq_true rfl | (simp; omega))) rfl ?_
  change WL _ _ _ _ _ _ _
  refine WL.nil ?_
  refine WX.blkEq (b := bd) (dcells { D with lim := decide (0 ≤ i), limit := max i 0 } bm A c) xK (by rfl) ?_
  refine WX.regs (L' := []) ?_
  exact Fin.ret0 xI (()) (trivial) Try.results15 rfl  xT (by simp)
end Go.Proofs.Ytkjlbedebmffgaa.Sx

set_option linter.unusedVariables false
set_option linter.unusedSimpArgs false
namespace Go.Proofs.Ytkjlbedebmffgaa.Sx
open Go.RowKit Go.Proofs.Ytkjlbedebmffgaa.Ty
attribute [local irreducible] blk own rd rx frameC
set_option maxHeartbeats 400000 in
set_option maxRecDepth 10000 in
theorem f40_spec (bd bm : Nat) (A : Option Addr) (c : Nat) (D : Dk) (i : Int) (x : Sct) :
    Spec Try.prog 40 [.pointer (some ⟨bd, 0, none⟩), .int .i64 i, x.v] [blk bd (dcells D bm A c) 66, mapC bm (dmap D.dur)] [] (R := Unit) (fun _ => True) (fun _ => .tuple #[]) (fun _ => [blk bd (dcells { D with dur := put D.dur i x } bm A c) 66, mapC bm (dmap (put D.dur i x))]) := by
  refine Spec.intro Try.func40 Try.ntmps40 rfl (by simp) (by simp) fun w0 => ?_
  refine WC.seq ?_
  refine WC.region ?_
  refine wl1 (op_box (lt_ rfl) rfl rfl) rfl fun b1 => ?_
  refine WL.nil ?_
  refine WX.regs (L' := [(0, _), (1, _), (5, _)]) ?_
  refine WX.next ?_
  refine WC.seq ?_
  refine WC.seq ?_
  refine WC.region ?_
  refine wlv (op_loadAll ag82 (lt_ rfl) rfl xM (by show (bvs x.s).length = 256; rw [bvs_length, x.h])) rfl ?_
  refine wlv (op_build (cs := (bvs Sct.z.s)) (pv := []) (lt_ rfl) rfl (by kernel_rfl)) rfl ?_
  refine wlv (op_eqlArr (a := x) (b := Sct.z) Try.underlying82 Try.underlying5 fl5 (by kernel_rfl) (by kernel_rfl) (by kernel_rfl) (by decide) rfl rfl) rfl ?_
  refine WL.nil ?_
  refine WX.regs (L' := [(0, _), (1, _), (5, _), (8, _)]) ?_
  refine WX.next ?_
  refine WC.cond rfl (fun h1 => ?_) (fun h1 => ?_)
  ·
    refine WC.seq ?_
    refine WC.region ?_
    refine wlv (op_move (lt_ rfl) rfl) rfl ?_
    refine wlv (op_nilCheck (lt_ rfl) rfl) rfl ?_
    refine wlv (op_fieldAddr fo66_1 (lt_ rfl) rfl) rfl ?_
    refine wlv (op_load1 fl63 (lt_ rfl) rfl xM rfl) rfl ?_
    refine wlv (op_move (lt_ rfl) rfl) rfl ?_
    refine wl (op_delete Try.underlying63 Try.underlying3 rfl rfl rfl xK) rfl ?_
    change WL _ _ _ _ _ _ _
    refine WL.nil ?_
    subst h1
    refine WX.chEq (c := mapC bm (fun j => if j = i then none else dmap D.dur j)) (mapC bm (dmap (put D.dur i Sct.z))) xK (congrArg _ (dmap_del _ _)) ?_
    refine WX.blkEq (b := bd) (dcells { D with dur := put D.dur i Sct.z } bm A c) xK (by rfl) ?_
    refine WX.regs (L' := []) ?_
    refine WX.next ?_
    refine WC.ret ?_
    refine WX.then_ret ?_
    exact Fin.ret0 xI (()) (trivial) Try.results40 rfl  xT (by simp)
  ·
    refine WC.skip ?_
    refine WX.next ?_
    refine WC.drawnH mo 6 ?_
    refine WA.take (i := 0) rfl (by kernel_rfl) (fun _ _ _ h => h) rfl (op_move (lt_ rfl) rfl) xT ?_
    refine WA.take (i := 1) rfl (by kernel_rfl) (fun _ _ _ h => h) rfl (op_nilCheck (lt_ rfl) rfl) xT ?_
    refine WA.take (i := 2) rfl (by kernel_rfl) (fun _ _ _ h => h) rfl (op_fieldAddr fo66_1 (lt_ rfl) rfl) xT ?_
    refine WA.take (i := 3) rfl (by kernel_rfl) (fun _ _ _ h => h) rfl (op_load1 fl63 (lt_ rfl) rfl xM rfl) xT ?_
    refine WA.take (i := 4) rfl (by kernel_rfl) (fun _ _ _ h => h) rfl (op_move (lt_ rfl) rfl) xT ?_
    refine WA.take (i := 5) rfl (by kernel_rfl) (fun _ _ _ h => h) rfl (op_loadAll ag82 (lt_ rfl) rfl xM (by show (bvs x.s).length = 256; rw [bvs_length, x.h])) xT ?_
    refine WA.stepo (G := []) (i := 6) (by kernel_rfl) rfl rfl (op_mapUpdate Try.underlying63 Try.underlying3 rfl rfl rfl xK) (fun h => absurd rfl h) ?_
    refine WA.done (by kernel_rfl) ?_
    refine WX.chEq (c := mapC bm (fun j => if j = i then some x.v else dmap D.dur j)) (mapC bm (dmap (put D.dur i x))) xK (congrArg _ (dmap_put _ _ _ h1)) ?_
    refine WX.blkEq (b := bd) (dcells { D with dur := put D.dur i x } bm A c) xK (by rfl) ?_
    refine WX.regs (L' := []) ?_
    exact Fin.ret0 xI (()) (trivial) Try.results40 rfl  xT (by simp)
set_option maxHeartbeats 400000 in
set_option maxRecDepth 10000 in
theorem f67_spec (A : Option Addr) (m c : Nat) :
    Spec Try.prog 67 [.slice A m c] [] [] (R := Nat) (fun _ => True) (fun r => .func (.func 75) #[] #[.pointer (some ⟨r, 0, none⟩)]) (fun r => [blk r [.slice A m c] 64]) := by
  refine Spec.intro Try.func67 Try.ntmps67 rfl (by simp) (by simp) fun w0 => ?_
  refine WC.seq ?_
  refine WC.region ?_
  refine wl1 (op_box (lt_ rfl) rfl rfl) rfl fun b1 => ?_
  refine wlv (op_assign (lt_ rfl) rfl) rfl ?_
  refine WL.nil ?_
  refine WX.regs (L' := [(1, _)]) ?_
  refine WX.next ?_
  refine WC.seq ?_
  refine WC.region ?_
  refine wlv (op_makeFunc (by decide) rfl rfl) rfl ?_
  refine wlv (op_assign (lt_ rfl) rfl) rfl ?_
  refine WL.nil ?_
  refine WX.regs (L' := [(2, _)]) ?_
  refine WX.next ?_
  refine WC.ret ?_
  exact Fin.ret1 xI (b1) (trivial) Try.results67 (.tmp rfl) xT (by simp)
set_option maxHeartbeats 400000 in
set_option maxRecDepth 10000 in
theorem f75_spec (yl dl fn : Nat) (tmps : Array Value) (ps : Array Tmp) (assign body : Code) (hps : ps.size = 2) (A : Option Addr) (m c b3 b4 bb : Nat) (a : Int) (zs : Sct) (l : List (Int × Sct)) (hm : l.length = m) (hmx : m ≤ 1000000)
    (hR : ∀ (i : Nat) (p : Int × Sct), l[i]? = some p → Round Try.prog yl fn ((ps.zip #[.int .i64 (i : Int), .agg (wcs p).toArray]).foldl (fun (t : Array Value) (q : Nat × Value) => t.setIfInBounds q.1 q.2) tmps) assign body [objC yl (.loop ⟨.ready, none, fn, tmps, ps, assign, body, dl⟩), blk b3 [.int .i64 a] 3, blk b4 (bvs zs.s) 82] (decide (¬ p.1 = a)) [objC yl (.loop ⟨if p.1 = a then .done else .ready, if p.1 = a then some .ret else none, fn, tmps, ps, assign, body, dl⟩), blk b3 [.int .i64 a] 3, blk b4 (bvs (if p.1 = a then p.2 else zs).s) 82]) :
    Spec Try.prog 75 [.func (.yield yl) #[] #[], .pointer (some ⟨bb, 0, none⟩)] [objC yl (.loop ⟨.ready, none, fn, tmps, ps, assign, body, dl⟩), blk b3 [.int .i64 a] 3, blk b4 (bvs zs.s) 82, blk bb [.slice A m c] 64] [rd (.slice A m c) 257 m (l.flatMap wcs)] (R := Option Sct) (fun r => ∀ f, applyW f l a = r.getD (f a)) (fun _ => .tuple #[])
      (fun r => [objC yl (.loop ⟨if r.isSome then .done else .ready, if r.isSome then some .ret else none, fn, tmps, ps, assign, body, dl⟩), blk b3 [.int .i64 a] 3, blk b4 (bvs (r.getD zs).s) 82, blk bb [.slice A m c] 64]) := by
  refine Spec.intro Try.func75 Try.ntmps75 rfl (by simp) (by simp) fun w0 => ?_
  refine WC.seq ?_
  refine WC.region ?_
  refine wlv (op_load1 fl64 (lt_ rfl) rfl xM rfl) rfl ?_
  refine wlv (op_len Try.underlying64 (lt_ rfl) rfl) rfl ?_
  refine wlv (op_sub (lt_ rfl) rfl rfl (by omega)) rfl ?_
  refine wlv (op_assign (lt_ rfl) rfl) rfl ?_
  refine WL.nil ?_
  refine WX.regs (L' := [(0, _), (1, _), (3, _)]) ?_
  refine WX.next ?_
  refine WC.block ?_
  refine WC.loop (X := Nat) (fun j => j) (fun j => j ≤ m ∧ ∀ k q, j ≤ k → l[k]? = some q → ¬ q.1 = a) (fun j => [(0, .func (.yield yl) #[] #[]), (1, .pointer (some ⟨bb, 0, none⟩)), (3, .int .i64 ((j : Int) - 1))]) (fun j => [objC yl (.loop ⟨.ready, none, fn, tmps, ps, assign, body, dl⟩), blk b3 [.int .i64 a] 3, blk b4 (bvs zs.s) 82, blk bb [.slice A m c] 64, rd (.slice A m c) 257 m (l.flatMap wcs), frameC w0 (MutF [objC yl (.loop ⟨.ready, none, fn, tmps, ps, assign, body, dl⟩), blk b3 [.int .i64 a] 3, blk b4 (bvs zs.s) 82, blk bb [.slice A m c] 64])]) (m) (⟨Nat.le_refl _, fun k q h1 h2 => by have := (List.getElem?_eq_some_iff.1 h2).1; omega⟩) (fun a w hs => hs.sub xY xT) ?_
  rintro j ⟨hj, hk⟩
  try dsimp only
  refine WC.seq ?_
  refine WC.seq ?_
  refine WC.region ?_
  refine wlv (op_move (lt_ rfl) rfl) rfl ?_
  refine wlv (op_geq (lt_ rfl) rfl rfl) rfl ?_
  refine WL.nil ?_
  refine WX.regs (L' := [(0, _), (1, _), (3, _), (8, _)]) ?_
  refine WX.next ?_
  refine WC.cond rfl (fun h1 => ?_) (fun h1 => ?_)
  ·
    refine WC.skip ?_
    refine WX.next ?_
    refine WC.seq ?_
    refine WC.block ?_
    refine WC.seq ?_
    obtain ⟨p, hp⟩ : ∃ p, l[j - 1]? = some p := ⟨l[j - 1]'(by omega), List.getElem?_eq_getElem _⟩
    have hx : ∀ k, k = (j - 1) * 257 → ((l.flatMap wcs).drop k).take 257 = wcs p := fun k hk => by rw [hk]; exact flat_at wcs_length l (j - 1) p hp
    refine WC.wide (WI.region ?_)
    show WLI _ _ _ _ [0, 1, 2, 3, 4, 5, 6, 7] _ _ _
    refine WLI.v free_wide rfl rfl rfl (op_move (by decide) rfl) ?_
    refine WLI.v free_wide rfl rfl rfl (op_move (by decide) rfl) ?_
    refine WLI.v free_wide rfl rfl rfl (op_load1 fl64 (by decide) rfl xM rfl) ?_
    refine WLI.v free_wide rfl rfl rfl (op_move (by decide) rfl) ?_
    refine WLI.v free_wide rfl rfl rfl (op_index Try.underlying64 sz84 (by decide) rfl rfl (by omega) (by omega) (by decide) xS) ?_
    refine WLI.v free_wide rfl rfl rfl (op_loadSN ag84 (by decide) rfl xS (by rw [hx _ (by omega)]; exact wcs_length p) (by decide)) ?_
    rw [hx _ (by omega), show ((j : Nat) : Int) - 1 = ((j - 1 : Nat) : Int) by omega]
    refine WLI.yield rfl (by decide) (vs := [.int .i64 ((j - 1 : Nat) : Int), .agg (wcs p).toArray]) rfl rfl hps xT (hR (j - 1) p hp) ?_
    refine WLI.v free_wide rfl rfl rfl (op_notp (by decide) rfl) ?_
    refine WLI.nil ?_
    refine WX.next ?_
    refine WC.cond rfl (fun h2 => ?_) (fun h2 => ?_)
    ·
      have hpa : p.1 = a := Decidable.not_not.1 h2
      simp only [if_pos hpa]
      refine WC.ret ?_
      refine WX.in_ret ?_
      refine WX.then_ret ?_
      refine WX.then_ret ?_
      refine WX.in_ret ?_
      exact Fin.ret0 xI (some p.2) (fun f => applyW_at f hp hpa (fun k q h1 h2 => hk k q (by omega) h2)) Try.results75 rfl  xT (by simp)
    ·
      have hpa : ¬ p.1 = a := fun k => h2 (fun k2 => k2 k)
      simp only [if_neg hpa]
      refine WC.skip ?_
      refine WX.in_normal ?_
      refine WX.next ?_
      refine WC.region ?_
      refine wlv (op_move (lt_ rfl) rfl) rfl ?_
      refine wlv (op_sub (lt_ rfl) rfl rfl (by omega)) rfl ?_
      refine wlv (op_assign (lt_ rfl) rfl) rfl ?_
      refine WL.nil ?_
      refine WX.regs (L' := [(0, _), (1, _), (3, _)]) ?_
      refine WX.meet (j - 1) ⟨⟨by omega, fun k q h1 h2 => by by_cases hkj : k = j - 1; (subst hkj; rw [hp] at h2; cases h2; exact hpa); exact hk k q (by omega) h2⟩, by omega⟩ (fun a w hs => hs.sub xY xT)
  ·
    refine WC.exit ?_
    refine WX.then_exit ?_
    refine WX.then_exit ?_
    refine WX.in_hit ?_
    exact Fin.ret0 xI (none) (fun f => applyW_none f (fun q hq => by obtain ⟨k, hk2⟩ := List.mem_iff_getElem?.1 hq; exact hk k q (by omega) hk2)) Try.results75 rfl  xT (by simp)
theorem wcs_one (p : Int × Sct) : (wcs p).all (·.oneCell') = true := by
  simp only [wcs, List.all_cons, Bool.and_eq_true]
  exact ⟨rfl, bvs_one _⟩
theorem RSget {L L' : List (Nat × Value)} (h : RS L L') : ∀ d v, get L' d = some v → get L d = some v := fun d v hv => h.mem _ (get_mem hv)
set_option maxHeartbeats 400000 in
set_option maxRecDepth 10000 in
theorem f49_spec (bd bm : Nat) (A : Option Addr) (c : Nat) (D : Dk) (a : Int) (hmx : D.pend.length ≤ 1000000) :
    Spec Try.prog 49 [.pointer (some ⟨bd, 0, none⟩), .int .i64 a] [blk bd (dcells D bm A c) 66, mapC bm (dmap D.dur), own (.slice A D.pend.length c) 84 257 D.pend.length (D.pend.flatMap wcs)] [] (R := Unit) (fun _ => True) (fun _ => (D.vis a).v) (fun _ => [blk bd (dcells D bm A c) 66, mapC bm (dmap D.dur), own (.slice A D.pend.length c) 84 257 D.pend.length (D.pend.flatMap wcs)]) := by
  refine Spec.introM Try.func49 Try.ntmps49 rfl (by simp) (by simp) fun w0 => ?_
  refine WC.seq ?_
  refine WC.region ?_
  refine wl1 (op_box (lt_ rfl) rfl rfl) rfl fun b1 => ?_
  refine wl1 (op_alloc ti82 (lt_ rfl)) rfl fun b2 => ?_
  refine WL.nil ?_
  refine WX.regs (L' := [(0, _), (3, _), (4, _)]) ?_
  refine WX.next ?_
  refine WC.seq ?_
  refine WC.seq ?_
  refine WC.region ?_
  refine wlv (op_move (lt_ rfl) rfl) rfl ?_
  refine wlv (op_nilCheck (lt_ rfl) rfl) rfl ?_
  refine wlv (op_fieldAddr fo66_2 (lt_ rfl) rfl) rfl ?_
  refine wlv (op_load1 fl64 (lt_ rfl) rfl xM rfl) rfl ?_
  refine wlx (op_call (f67_spec A D.pend.length c) ca67 (lt_ rfl) rfl) rfl ?_
  rintro r1 _
  refine WL.nil ?_
  refine WX.regs (L' := [(0, _), (3, _), (4, _), (11, _)]) ?_
  refine WX.next ?_
  refine WC.block ?_
  refine WC.range (m := 26) (f := 75) (R := Option Sct) (φ := fun r => ∀ f, applyW f D.pend a = r.getD (f a)) (stop := Option.isSome) (ret := fun _ => .tuple #[]) (B := fun r => [blk b1 [.int .i64 a] 3, blk b2 (bvs (r.getD Sct.z).s) 82, blk r1 [.slice A D.pend.length c] 64]) (T := [blk b1 [.int .i64 a] 3, blk b2 (bvs Sct.z.s) 82, blk r1 [.slice A D.pend.length c] 64]) (D := [rd (.slice A D.pend.length c) 257 D.pend.length (D.pend.flatMap wcs)]) rfl (by unfold Callable; kernel_rfl) xG ?_ (fun r dl hr hst => ?_) (fun r dl hr hst => ?_)
  · intro yl dl fn tmps hsz hget
    refine f75_spec yl dl fn tmps _ _ _ rfl A D.pend.length c b1 b2 r1 a Sct.z D.pend rfl hmx (fun i p hp => ?_)
    have hget2 : ∀ d v, get [(3, .pointer (some ⟨b1, 0, none⟩)), (4, .pointer (some ⟨b2, 0, none⟩))] d = some v → tmps[d]? = some v := fun d v hv => hget d v (RSget (L := _) (by exact RS.cons rfl (RS.cons rfl RS.nil)) d v hv)
    refine Round.intro (m := 26) (L0 := [(12, .int .i64 (i : Int)), (13, .agg (wcs p).toArray), (3, .pointer (some ⟨b1, 0, none⟩)), (4, .pointer (some ⟨b2, 0, none⟩))]) rfl (by simp [hsz]) (zip2_get hsz (by decide) (by decide) (by decide) hget2) (fun w0 => ?_)
    refine WI.region ?_
    show WLI _ _ _ _ [0, 1] _ _ _
    refine WLI.alloc free_round rfl ti84 (by decide) (fun b6 => ?_)
    refine WLI.storeAll free_round rfl sz84 rfl rfl xK (wcs_length p) (wcs_one p) (by simp) ?_
    refine WLI.nil ?_
    intro aa ww hss
    refine ⟨_ :: [blk b6 (wcs p) 84, blk b1 [.int .i64 a] 3, blk b2 (bvs Sct.z.s) 82, frameC w0 _], Take.here, _, ⟨hss.regs, hss.sat.only xT⟩, ?_⟩
    refine WI.block (WI.seq (WI.region ?_))
    show WLI _ _ _ _ [0, 1, 2, 3] _ _ _
    refine WLI.v free_round rfl rfl rfl (op_fieldAddr fo84_0 (by decide) rfl) ?_
    refine WLI.v free_round rfl rfl rfl (op_load1 fl3 (by decide) rfl (bt := 84) (cs := wcs p) xM rfl) ?_
    refine WLI.v free_round rfl rfl rfl (op_load1 fl3 (by decide) rfl (bt := 3) (cs := [.int .i64 a]) xM rfl) ?_
    refine WLI.v free_round rfl rfl rfl (op_eql (by decide) rfl rfl) ?_
    refine WLI.nil (WXI.next ?_)
    refine WI.cond rfl (fun hpa => ?_) (fun hpa => ?_)
    · refine WI.seq (WI.region ?_)
      show WLI _ _ _ _ [0, 1, 2] _ _ _
      refine WLI.v free_round rfl rfl rfl (op_fieldAddr fo84_1 (by decide) rfl) ?_
      refine WLI.v free_round rfl rfl rfl (op_loadN ag82 (by decide) rfl (bt := 84) (cs := wcs p) xM (by simp [wcs, p.2.h])) ?_
      rw [show (List.drop (0 + 1) (wcs p)).take 256 = bvs p.2.s by simp only [wcs]; exact List.take_of_length_le (by simp [p.2.h])]
      refine WLI.storeAll free_round rfl sz82 rfl rfl (b := b2) (cs := bvs Sct.z.s) xK (by show (bvs p.2.s).length = 256; rw [bvs_length, p.2.h]) (bvs_one _) (by rw [bvs_length, Sct.z.h]) ?_
      refine WLI.nil (WXI.next (WI.ret (WX.in_ret ?_)))
      intro a3 w3 hs3
      refine ⟨some .ret, .inr ⟨rfl, by simp [hpa], rfl⟩, _, [blk b1 [.int .i64 a] 3, blk b2 (bvs p.2.s) 82], ⟨hs3.regs, hs3.sat.only xT⟩, by simp [hpa], by simp⟩
    · refine WI.skip (WX.in_normal ?_)
      intro a3 w3 hs3
      refine ⟨none, .inl ⟨rfl, by simp [hpa], rfl⟩, _, [blk b1 [.int .i64 a] 3, blk b2 (bvs Sct.z.s) 82], ⟨hs3.regs, hs3.sat.only xT⟩, by simp [hpa], by simp⟩
  · skip
    obtain rfl : r = none := by cases r; rfl; cases hst
    have hv : D.vis a = D.dur a := hr D.dur
    refine WX.in_normal ?_
    refine WX.next ?_
    refine WC.seq ?_
    refine WC.drawnH mo 6 ?_
    refine WA.take (i := 0) rfl (by kernel_rfl) (fun _ _ _ h => h) rfl (op_move (lt_ rfl) rfl) xT ?_
    refine WA.take (i := 1) rfl (by kernel_rfl) (fun _ _ _ h => h) rfl (op_nilCheck (lt_ rfl) rfl) xT ?_
    refine WA.take (i := 2) rfl (by kernel_rfl) (fun _ _ _ h => h) rfl (op_fieldAddr fo66_1 (lt_ rfl) rfl) xT ?_
    refine WA.take (i := 3) rfl (by kernel_rfl) (fun _ _ _ h => h) rfl (op_load1 fl63 (lt_ rfl) rfl xM rfl) xT ?_
    refine WA.take (i := 4) rfl (by kernel_rfl) (fun _ _ _ h => h) rfl (op_load1 fl3 (lt_ rfl) rfl xM rfl) xT ?_
    refine WA.take (i := 5) rfl (by kernel_rfl) (fun _ _ _ h => h) rfl (op_lookup Try.underlying63 Try.underlying3 zf82 (lt_ rfl) rfl rfl xM) xT ?_
    rw [dmap_get]
    refine WA.stepo (G := []) (i := 6) (by kernel_rfl) rfl rfl (op_storeAll sz82 rfl rfl xK (by show (bvs (D.dur a).s).length = 256; rw [bvs_length, (D.dur a).h]) (bvs_one _) (by rfl)) (fun h => absurd rfl h) ?_
    refine WA.done (by kernel_rfl) ?_
    refine WX.chEq (c := blk b2 _ 82) (blk b2 (bvs (D.vis a).s) 82) xK (by rw [hv]; rfl) ?_
    refine WX.regs (L' := [(4, _)]) ?_
    refine WX.next ?_
    refine WC.ret ?_
    exact FinM.ret1 xI () trivial xK Try.results49 (.cellN rfl ag82 (cs := bvs (D.vis a).s) (by first | (simp only [hv]; repeat (first | exact List.Mem.head _ | apply List.Mem.tail)) | repeat (first | exact List.Mem.head _ | apply List.Mem.tail)) (by rw [bvs_length, (D.vis a).h])) (by first | (simp only [hv]; repeat (first | exact Takes.nil | exact Take.here | apply Takes.cons | apply Take.there)) | repeat (first | exact Takes.nil | exact Take.here | apply Takes.cons | apply Take.there)) (by simp)
  · skip
    obtain ⟨x, rfl⟩ : ∃ x, r = some x := by cases r; cases hst; exact ⟨_, rfl⟩
    have hv : D.vis a = x := hr D.dur
    refine WX.in_ret ?_
    refine WX.then_ret ?_
    exact FinM.ret1 xI () trivial xK Try.results49 (.cellN rfl ag82 (cs := bvs (D.vis a).s) (by first | (simp only [hv]; repeat (first | exact List.Mem.head _ | apply List.Mem.tail)) | repeat (first | exact List.Mem.head _ | apply List.Mem.tail)) (by rw [bvs_length, (D.vis a).h])) (by first | (simp only [hv]; repeat (first | exact Takes.nil | exact Take.here | apply Takes.cons | apply Take.there)) | repeat (first | exact Takes.nil | exact Take.here | apply Takes.cons | apply Take.there)) (by simp)
end Go.Proofs.Ytkjlbedebmffgaa.Sx

set_option linter.unusedVariables false
set_option linter.unusedSimpArgs false
namespace Go.Proofs.Ytkjlbedebmffgaa.Sx
open Go.RowKit Go.Proofs.Ytkjlbedebmffgaa.Ty
attribute [local irreducible] blk own rd rx frameC

theorem write_down {D : Dk} {i : Int} {x : List UInt8} (h : D.down = true) : D.write i x = (D, 28) := by simp [Dk.write, h]
theorem write_has {D : Dk} {i : Int} {x : List UInt8} (h : D.down = false) (h2 : ¬ (0 ≤ i ∧ i < D.n)) : D.write i x = (D, 8) := by simp [Dk.write, h, h2]
theorem write_len {D : Dk} {i : Int} {x : List UInt8} (h : D.down = false) (h2 : 0 ≤ i ∧ i < D.n) (h3 : ¬ x.length = 256) : D.write i x = (D, 2) := by simp [Dk.write, h, h2, h3]
theorem write_op {D : Dk} {i : Int} {x : List UInt8} (h : D.down = false) (h2 : 0 ≤ i ∧ i < D.n) (h3 : x.length = 256) (h4 : ¬ D.operate.2 = 0) : D.write i x = D.operate := by simp [Dk.write, h, h2, h3, h4]
theorem write_ok {D : Dk} {i : Int} {x : List UInt8} (h : D.down = false) (h2 : 0 ≤ i ∧ i < D.n) (h3 : x.length = 256) (h4 : D.operate.2 = 0) : D.write i x = ({ D.operate.1 with pend := D.pend ++ [(i, ⟨x, h3⟩)] }, 0) := by simp [Dk.write, h, h2, h3, h4]
theorem op_keep (D : Dk) : D.operate.1.dur = D.dur ∧ D.operate.1.pend = D.pend ∧ D.operate.1.n = D.n := by unfold Dk.operate; split <;> exact ⟨rfl, rfl, rfl⟩
theorem read_ok {D : Dk} {i : Int} (h : D.down = false) (h2 : 0 ≤ i ∧ i < D.n) : D.read i = ((D.vis i).s, 0) := by simp [Dk.read, h, h2]
theorem read_down {D : Dk} {i : Int} (h : D.down = true) : D.read i = ([], 28) := by simp [Dk.read, h]
theorem read_has {D : Dk} {i : Int} (h : D.down = false) (h2 : ¬ (0 ≤ i ∧ i < D.n)) : D.read i = ([], 8) := by simp [Dk.read, h, h2]
set_option maxHeartbeats 400000 in
set_option maxRecDepth 10000 in
theorem f30_spec (bd bm : Nat) (A : Option Addr) (c : Nat) (D : Dk) (i : Int) (hmx : D.pend.length ≤ 1000000) :
    Spec Try.prog 30 [.pointer (some ⟨bd, 0, none⟩), .int .i64 i] [blk bd (dcells D bm A c) 66, mapC bm (dmap D.dur), own (.slice A D.pend.length c) 84 257 D.pend.length (D.pend.flatMap wcs)] [] (R := Option Addr × Nat × List UInt8 × Int) (fun q => (q.2.2.1, q.2.2.2) = D.read i) (fun q => .tuple #[.slice q.1 q.2.2.1.length q.2.1, .int .i64 q.2.2.2])
      (fun q => [blk bd (dcells D bm A c) 66, mapC bm (dmap D.dur), own (.slice A D.pend.length c) 84 257 D.pend.length (D.pend.flatMap wcs), rx (.slice q.1 q.2.2.1.length q.2.1) 1 q.2.2.1.length (bvs q.2.2.1)]) := by
  refine Spec.intro Try.func30 Try.ntmps30 rfl (by simp) (by simp) fun w0 => ?_
  refine WC.seq ?_
  refine WC.region ?_
  refine wlv (op_assign (lt_ rfl) rfl) rfl ?_
  refine wlv (op_assign (lt_ rfl) rfl) rfl ?_
  refine WL.nil ?_
  refine WX.regs (L' := [(0, _), (1, _)]) ?_
  refine WX.next ?_
  refine WC.seq ?_
  refine WC.block ?_
  refine WC.seq ?_
  refine WC.region ?_
  refine wlv (op_move (lt_ rfl) rfl) rfl ?_
  refine wlv (op_eqlnil Try.underlying26 (lt_ rfl) rfl rfl) rfl ?_
  refine wlv (op_assign (lt_ rfl) rfl) rfl ?_
  refine WL.nil ?_
  refine WX.regs (L' := [(0, _), (1, _), (7, _)]) ?_
  refine WX.next ?_
  refine WC.condF rfl ?_
  refine WC.seq ?_
  refine WC.region ?_
  refine wlv (op_move (lt_ rfl) rfl) rfl ?_
  refine wlv (op_nilCheck (lt_ rfl) rfl) rfl ?_
  refine wlv (op_fieldAddr fo66_6 (lt_ rfl) rfl) rfl ?_
  refine wlv (op_load1 fl4 (lt_ rfl) rfl xM rfl) rfl ?_
  refine wlv (op_assign (lt_ rfl) rfl) rfl ?_
  refine WL.nil ?_
  refine WX.regs (L' := [(0, _), (1, _), (10, _)]) ?_
  refine WX.next ?_
  refine WC.condb rfl (fun h2 => ?_) (fun h2 => ?_)
  ·
    refine WC.seq ?_
    refine WC.region ?_
    refine wlv (op_assign (lt_ rfl) rfl) rfl ?_
    refine wlv (op_assign (lt_ rfl) rfl) rfl ?_
    refine WL.nil ?_
    refine WX.nilrx 1 ?_
    refine WX.regs (L' := [(4, _), (5, _)]) ?_
    refine WX.next ?_
    refine WC.ret ?_
    refine WX.in_ret ?_
    refine WX.then_ret ?_
    exact Fin.ret2 xI ((none, 0, [], 28)) ((read_down h2).symm) Try.results30 rfl (.tmp rfl) (.tmp rfl) xT (by simp)
  ·
    refine WC.seq ?_
    refine WC.region ?_
    refine wlv (op_move (lt_ rfl) rfl) rfl ?_
    refine wlv (op_move (lt_ rfl) rfl) rfl ?_
    refine wlx (op_call (f47_spec bd bm A c D i) ca47 (lt_ rfl) rfl) rfl ?_
    rintro _ _
    refine wlv (op_notp (lt_ rfl) rfl) rfl ?_
    refine wlv (op_assign (lt_ rfl) rfl) rfl ?_
    refine WL.nil ?_
    refine WX.regs (L' := [(0, _), (1, _), (15, _)]) ?_
    refine WX.next ?_
    refine WC.cond rfl (fun h3 => ?_) (fun h3 => ?_)
    ·
      refine WC.seq ?_
      refine WC.region ?_
      refine wlv (op_assign (lt_ rfl) rfl) rfl ?_
      refine wlv (op_assign (lt_ rfl) rfl) rfl ?_
      refine WL.nil ?_
      refine WX.nilrx 1 ?_
      refine WX.regs (L' := [(4, _), (5, _)]) ?_
      refine WX.next ?_
      refine WC.ret ?_
      refine WX.in_ret ?_
      refine WX.then_ret ?_
      exact Fin.ret2 xI ((none, 0, [], 8)) ((read_has h2 (by simpa using h3)).symm) Try.results30 rfl (.tmp rfl) (.tmp rfl) xT (by simp)
    ·
      refine WC.skip ?_
      refine WX.in_normal ?_
      refine WX.next ?_
      refine WC.seq ?_
      refine WC.region ?_
      refine wlv (op_move (lt_ rfl) rfl) rfl ?_
      refine wlv (op_move (lt_ rfl) rfl) rfl ?_
      refine wlx (op_call (f49_spec bd bm A c D i hmx) ca49 (lt_ rfl) rfl) rfl ?_
      rintro _ _
      refine wl1 (op_alloc ti82 (lt_ rfl)) rfl fun b1 => ?_
      refine wl (op_storeAll sz82 rfl rfl xK (by show (bvs (D.vis i).s).length = 256; rw [bvs_length, (D.vis i).h]) (bvs_one _) (by rfl)) rfl ?_
      change WL _ _ _ _ _ _ _
      refine WL.nil ?_
      refine WX.regs (L' := [(6, _)]) ?_
      refine WX.next ?_
      refine WC.seq ?_
      refine WC.region ?_
      refine wlv (op_sliceArr Try.underlying82 sz5 (lt_ rfl) rfl) rfl ?_
      refine wlv (op_assign (lt_ rfl) rfl) rfl ?_
      refine wlv (op_assign (lt_ rfl) rfl) rfl ?_
      refine WL.nil ?_
      refine WX.turn (c := blk b1 (bvs (D.vis i).s) 82) (d := rx (.slice (some ⟨b1, 0, none⟩) 256 256) 1 256 (bvs (D.vis i).s)) xK (blk_whole_rx (by rw [bvs_length, (D.vis i).h]) (by decide)) ?_
      refine WX.regs (L' := [(4, _), (5, _)]) ?_
      refine WX.next ?_
      refine WC.ret ?_
      have hl := (D.vis i).h
      have hl2 : 256 = (D.vis i).s.length := hl.symm
      exact Fin.ret2 xI ((some ⟨b1, 0, none⟩, 256, (D.vis i).s, 0)) ((read_ok h2 (by simpa using h3)).symm) Try.results30 rfl (.tmp (by show _ = some (Value.slice _ (D.vis i).s.length _); rw [hl]; rfl)) (.tmp rfl) (by simp only [hl]; repeat (first | exact Takes.nil | exact Take.here | apply Takes.cons | apply Take.there)) (by simp)
end Go.Proofs.Ytkjlbedebmffgaa.Sx

set_option linter.unusedVariables false
set_option linter.unusedSimpArgs false
namespace Go.Proofs.Ytkjlbedebmffgaa.Sx
open Go.RowKit Go.Proofs.Ytkjlbedebmffgaa.Ty
attribute [local irreducible] blk own rd rx frameC
set_option maxHeartbeats 400000 in
set_option maxRecDepth 10000 in
theorem f29_spec (bd bm : Nat) (A : Option Addr) (c : Nat) (D : Dk) (i : Int) (AX : Option Addr) (m cX : Nat) (x : List UInt8) (hm : x.length = m) (hmx : D.pend.length ≤ 1000000) :
    Spec Try.prog 29 [.pointer (some ⟨bd, 0, none⟩), .int .i64 i, .slice AX m cX] [blk bd (dcells D bm A c) 66, mapC bm (dmap D.dur), own (.slice A D.pend.length c) 84 257 D.pend.length (D.pend.flatMap wcs)] [rd (.slice AX m cX) 1 m (bvs x)] (R := Option Addr × Nat) (fun _ => True) (fun _ => .int .i64 (D.write i x).2)
      (fun q => [blk bd (dcells (D.write i x).1 bm q.1 q.2) 66, mapC bm (dmap (D.write i x).1.dur), own (.slice q.1 (D.write i x).1.pend.length q.2) 84 257 (D.write i x).1.pend.length ((D.write i x).1.pend.flatMap wcs)]) := by
  refine Spec.intro Try.func29 Try.ntmps29 rfl (by simp) (by simp) fun w0 => ?_
  refine WC.seq ?_
  refine WC.region ?_
  refine wlv (op_assign (lt_ rfl) rfl) rfl ?_
  refine WL.nil ?_
  refine WX.regs (L' := [(0, _), (1, _), (2, _)]) ?_
  refine WX.next ?_
  refine WC.seq ?_
  refine WC.block ?_
  refine WC.seq ?_
  refine WC.region ?_
  refine wlv (op_move (lt_ rfl) rfl) rfl ?_
  refine wlv (op_eqlnil Try.underlying26 (lt_ rfl) rfl rfl) rfl ?_
  refine wlv (op_assign (lt_ rfl) rfl) rfl ?_
  refine WL.nil ?_
  refine WX.regs (L' := [(0, _), (1, _), (2, _), (8, _)]) ?_
  refine WX.next ?_
  refine WC.condF rfl ?_
  refine WC.seq ?_
  refine WC.region ?_
  refine wlv (op_move (lt_ rfl) rfl) rfl ?_
  refine wlv (op_nilCheck (lt_ rfl) rfl) rfl ?_
  refine wlv (op_fieldAddr fo66_6 (lt_ rfl) rfl) rfl ?_
  refine wlv (op_load1 fl4 (lt_ rfl) rfl xM rfl) rfl ?_
  refine wlv (op_assign (lt_ rfl) rfl) rfl ?_
  refine WL.nil ?_
  refine WX.regs (L' := [(0, _), (1, _), (2, _), (11, _)]) ?_
  refine WX.next ?_
  refine WC.condb rfl (fun h2 => ?_) (fun h2 => ?_)
  ·
    refine WC.seq ?_
    refine WC.region ?_
    refine wlv (op_assign (lt_ rfl) rfl) rfl ?_
    refine WL.nil ?_
    refine WX.regs (L' := [(6, _)]) ?_
    refine WX.next ?_
    refine WC.ret ?_
    refine WX.in_ret ?_
    refine WX.then_ret ?_
    rw [write_down h2]
    exact Fin.ret1 xI ((A, c)) (trivial) Try.results29 (.tmp rfl) xT (by simp)
  ·
    refine WC.seq ?_
    refine WC.region ?_
    refine wlv (op_move (lt_ rfl) rfl) rfl ?_
    refine wlv (op_move (lt_ rfl) rfl) rfl ?_
    refine wlx (op_call (f47_spec bd bm A c D i) ca47 (lt_ rfl) rfl) rfl ?_
    rintro _ _
    refine wlv (op_notp (lt_ rfl) rfl) rfl ?_
    refine wlv (op_assign (lt_ rfl) rfl) rfl ?_
    refine WL.nil ?_
    refine WX.regs (L' := [(0, _), (1, _), (2, _), (16, _)]) ?_
    refine WX.next ?_
    refine WC.cond rfl (fun h3 => ?_) (fun h3 => ?_)
    ·
      refine WC.seq ?_
      refine WC.region ?_
      refine wlv (op_assign (lt_ rfl) rfl) rfl ?_
      refine WL.nil ?_
      refine WX.regs (L' := [(6, _)]) ?_
      refine WX.next ?_
      refine WC.ret ?_
      refine WX.in_ret ?_
      refine WX.then_ret ?_
      rw [write_has h2 (by simpa using h3)]
      exact Fin.ret1 xI ((A, c)) (trivial) Try.results29 (.tmp rfl) xT (by simp)
    ·
      refine WC.seq ?_
      refine WC.region ?_
      refine wlv (op_move (lt_ rfl) rfl) rfl ?_
      refine wlv (op_len Try.underlying23 (lt_ rfl) rfl) rfl ?_
      refine wlv (op_neq (lt_ rfl) rfl rfl) rfl ?_
      refine wlv (op_assign (lt_ rfl) rfl) rfl ?_
      refine WL.nil ?_
      refine WX.regs (L' := [(0, _), (1, _), (2, _), (21, _)]) ?_
      refine WX.next ?_
      refine WC.cond rfl (fun h4 => ?_) (fun h4 => ?_)
      ·
        refine WC.seq ?_
        refine WC.region ?_
        refine wlv (op_assign (lt_ rfl) rfl) rfl ?_
        refine WL.nil ?_
        refine WX.regs (L' := [(6, _)]) ?_
        refine WX.next ?_
        refine WC.ret ?_
        refine WX.in_ret ?_
        refine WX.then_ret ?_
        rw [write_len h2 (by simpa using h3) (by omega)]
        exact Fin.ret1 xI ((A, c)) (trivial) Try.results29 (.tmp rfl) xT (by simp)
      ·
        obtain rfl : m = 256 := by omega
        have hx : x.length = 256 := hm
        refine WC.skip ?_
        refine WX.in_normal ?_
        refine WX.next ?_
        refine WC.seq ?_
        refine WC.seq ?_
        refine WC.region ?_
        refine wlv (op_move (lt_ rfl) rfl) rfl ?_
        refine wlx (op_call (f48_spec bd bm A c D) ca48 (lt_ rfl) rfl) rfl ?_
        rintro _ _
        refine wlv (op_assign (lt_ rfl) rfl) rfl ?_
        refine WL.nil ?_
        refine WX.regs (L' := [(0, _), (1, _), (2, _), (7, _)]) ?_
        refine WX.next ?_
        refine WC.seq ?_
        refine WC.region ?_
        refine wlv (op_move (lt_ rfl) rfl) rfl ?_
        refine wlv (op_neq (lt_ rfl) rfl rfl) rfl ?_
        refine WL.nil ?_
        refine WX.regs (L' := [(0, _), (1, _), (2, _), (7, _), (28, _)]) ?_
        refine WX.next ?_
        refine WC.cond rfl (fun h5 => ?_) (fun h5 => ?_)
        ·
          refine WC.seq ?_
          refine WC.region ?_
          refine wlv (op_move (lt_ rfl) rfl) rfl ?_
          refine wlv (op_assign (lt_ rfl) rfl) rfl ?_
          refine WL.nil ?_
          refine WX.regs (L' := [(6, _)]) ?_
          refine WX.next ?_
          refine WC.ret ?_
          refine WX.then_ret ?_
          have hk := op_keep D
          rw [write_op h2 (by simpa using h3) hx (by omega)]
          rw [hk.1, hk.2.1]
          exact Fin.ret1 xI ((A, c)) (trivial) Try.results29 (.tmp rfl) xT (by simp)
        ·
          have hop : D.operate.2 = 0 := by omega
          have hk := op_keep D
          refine WC.skip ?_
          refine WX.next ?_
          refine WC.seq ?_
          refine WC.drawn (Hs := [blk bd (dcells D.operate.1 bm A c) 66, rd (.slice AX 256 cX) 1 256 (bvs x)]) mo 14 ?_
          refine WA.take (i := 0) rfl (by kernel_rfl) (fun _ _ _ h => h) rfl (op_move (lt_ rfl) rfl) xT ?_
          refine WA.take (i := 1) rfl (by kernel_rfl) (fun _ _ _ h => h) rfl (op_move (lt_ rfl) rfl) xT ?_
          refine WA.take (i := 2) rfl (by kernel_rfl) (fun _ _ _ h => h) rfl (op_nilCheck (lt_ rfl) rfl) xT ?_
          refine WA.take (i := 3) rfl (by kernel_rfl) (fun _ _ _ h => h) rfl (op_fieldAddr fo66_2 (lt_ rfl) rfl) xT ?_
          refine WA.take (i := 4) rfl (by kernel_rfl) (fun _ _ _ h => h) rfl (op_load1 fl64 (lt_ rfl) rfl xM rfl) xT ?_
          rw [hk.2.1]
          refine WA.take (i := 5) rfl (by kernel_rfl) (fun _ _ _ h => h) rfl (op_move (lt_ rfl) rfl) xT ?_
          refine WA.take (i := 6) rfl (by kernel_rfl) (fun _ _ _ h => h) rfl (op_move (lt_ rfl) rfl) xT ?_
          refine WA.take (i := 7) rfl (by kernel_rfl) (fun _ _ _ h => h) rfl (op_sl2arrS Try.underlying82 (lt_ rfl) rfl (by decide) (Src.rd (xs := bvs x) xM) (by rw [bvs_length, hx]; decide)) xT ?_
          refine WA.take (i := 8) rfl (by kernel_rfl) (fun _ _ _ h => h) rfl (op_loadSN ag82 (lt_ rfl) rfl (Src.rd (xs := bvs x) xM) (by simp [bvs, hx]) (by decide)) xT ?_
          rw [show ((bvs x).drop 0).take 256 = bvs x from List.take_of_length_le (by rw [List.drop_zero, bvs_length, hx]; exact Nat.le_refl _)]
          refine WA.take (i := 9) rfl (by kernel_rfl) (fun _ _ _ h => h) rfl (op_build (cs := wcs (i, (⟨x, hx⟩ : Sct))) (pv := [(0, _), (1, _)]) (lt_ rfl) rfl (built84 i ⟨x, hx⟩)) xT ?_
          refine WA.step1 (i := 10) (by kernel_rfl) rfl rfl (op_lit1 Try.underlying64 ti84 rfl (by decide) (lt_ rfl) rfl (by show (wcs (i, (⟨x, hx⟩ : Sct))).toArray.size = 257; rw [List.size_toArray, wcs_length])) (fun _ b => xT) fun b1 => ?_
          refine WA.step2 (i := 11) (by kernel_rfl) rfl rfl (op_append Try.underlying64 ti84 rfl (by decide) (lt_ rfl) rfl rfl xK xS (wcs_one _) (by omega) (by omega)) (fun _ A c => xT) fun A1 c1 => ?_
          refine WA.take (i := 12) rfl (by kernel_rfl) (fun _ _ _ h => h) rfl (op_nilCheck (lt_ rfl) rfl) xT ?_
          refine WA.take (i := 13) rfl (by kernel_rfl) (fun _ _ _ h => h) rfl (op_fieldAddr fo66_2 (lt_ rfl) rfl) xT ?_
          refine WA.stepo (G := []) (i := 14) (by kernel_rfl) rfl rfl (op_store sz64 rfl rfl xK xL xO (by first | exact Nat.le_of_ble_eq_true rfl | (simp; omega))) (fun h => absurd rfl h) ?_
          refine WA.done (by kernel_rfl) ?_
          refine WX.blkEq (b := bd) (dcells { D.operate.1 with pend := D.pend ++ [(i, (⟨x, hx⟩ : Sct))] } bm A1 c1) xK (by simp [dcells, pset, Value.cells]) ?_
          refine WX.ownEq (v := .slice A1 (D.pend.length + 1) c1) ((D.pend ++ [(i, (⟨x, hx⟩ : Sct))]).flatMap wcs) xK (by rw [List.flatMap_append]; simp) ?_
          rw [show D.pend.length + 1 = (D.pend ++ [(i, (⟨x, hx⟩ : Sct))]).length by simp]
          rw [write_ok h2 (by simpa using h3) hx hop]
          dsimp only
          rw [hk.1]
          refine WX.regs (L' := []) ?_
          refine WX.next ?_
          refine WC.seq ?_
          refine WC.region ?_
          refine wlv (op_assign (lt_ rfl) rfl) rfl ?_
          refine WL.nil ?_
          refine WX.regs (L' := [(6, _)]) ?_
          refine WX.next ?_
          refine WC.ret ?_
          exact Fin.ret1 xI ((A1, c1)) (trivial) Try.results29 (.tmp rfl) xT (by simp)
end Go.Proofs.Ytkjlbedebmffgaa.Sx

set_option linter.unusedVariables false
set_option linter.unusedSimpArgs false
namespace Go.Proofs.Ytkjlbedebmffgaa.Sx
open Go.RowKit Go.Proofs.Ytkjlbedebmffgaa.Ty
attribute [local irreducible] blk own rd rx frameC

theorem flush_down {D : Dk} (h : D.down = true) : D.flush = (D, 28) := by simp [Dk.flush, h]
theorem flush_op {D : Dk} (h : D.down = false) (h4 : ¬ D.operate.2 = 0) : D.flush = D.operate := by simp [Dk.flush, h, h4]
theorem flush_ok {D : Dk} (h : D.down = false) (h4 : D.operate.2 = 0) : D.flush = ({ D.operate.1 with dur := applyW D.dur D.pend, pend := [] }, 0) := by simp [Dk.flush, h, h4]
theorem applyW_take {f : Int → Sct} {l : List (Int × Sct)} {i : Nat} {p : Int × Sct} (h : l[i]? = some p) : applyW f (l.take (i + 1)) = put (applyW f (l.take i)) p.1 p.2 := by
  have hlt := (List.getElem?_eq_some_iff.1 h).1
  rw [List.take_succ_eq_append_getElem hlt, (List.getElem?_eq_some_iff.1 h).2, applyW_append]
  rfl
set_option maxHeartbeats 400000 in
set_option maxRecDepth 10000 in
theorem f55_spec (bd bm : Nat) (A : Option Addr) (c : Nat) (D : Dk) (hmx : D.pend.length ≤ 1000000) :
    Spec Try.prog 55 [.pointer (some ⟨bd, 0, none⟩)] [blk bd (dcells D bm A c) 66, mapC bm (dmap D.dur), own (.slice A D.pend.length c) 84 257 D.pend.length (D.pend.flatMap wcs)] [] (R := Option Addr × Nat) (fun _ => True) (fun _ => .int .i64 D.flush.2) (fun q => [blk bd (dcells D.flush.1 bm q.1 q.2) 66, mapC bm (dmap D.flush.1.dur), own (.slice q.1 D.flush.1.pend.length q.2) 84 257 D.flush.1.pend.length (D.flush.1.pend.flatMap wcs)]) := by
  refine Spec.intro Try.func55 Try.ntmps55 rfl (by simp) (by simp) fun w0 => ?_
  refine WC.seq ?_
  refine WC.region ?_
  refine wlv (op_assign (lt_ rfl) rfl) rfl ?_
  refine WL.nil ?_
  refine WX.regs (L' := [(0, _)]) ?_
  refine WX.next ?_
  refine WC.seq ?_
  refine WC.seq ?_
  refine WC.region ?_
  refine wlv (op_move (lt_ rfl) rfl) rfl ?_
  refine wlv (op_eqlnil Try.underlying26 (lt_ rfl) rfl rfl) rfl ?_
  refine WL.nil ?_
  refine WX.regs (L' := [(0, _), (7, _)]) ?_
  refine WX.next ?_
  refine WC.condF rfl ?_
  refine WC.skip ?_
  refine WX.next ?_
  refine WC.seq ?_
  refine WC.seq ?_
  refine WC.region ?_
  refine wlv (op_move (lt_ rfl) rfl) rfl ?_
  refine wlv (op_nilCheck (lt_ rfl) rfl) rfl ?_
  refine wlv (op_fieldAddr fo66_6 (lt_ rfl) rfl) rfl ?_
  refine wlv (op_load1 fl4 (lt_ rfl) rfl xM rfl) rfl ?_
  refine WL.nil ?_
  refine WX.regs (L' := [(0, _), (11, _)]) ?_
  refine WX.next ?_
  refine WC.condb rfl (fun h2 => ?_) (fun h2 => ?_)
  ·
    refine WC.seq ?_
    refine WC.region ?_
    refine wlv (op_assign (lt_ rfl) rfl) rfl ?_
    refine WL.nil ?_
    refine WX.regs (L' := [(2, _)]) ?_
    refine WX.next ?_
    refine WC.ret ?_
    refine WX.then_ret ?_
    rw [flush_down h2]
    exact Fin.ret1 xI ((A, c)) (trivial) Try.results55 (.tmp rfl) xT (by simp)
  ·
    refine WC.skip ?_
    refine WX.next ?_
    refine WC.seq ?_
    refine WC.seq ?_
    refine WC.region ?_
    refine wlv (op_move (lt_ rfl) rfl) rfl ?_
    refine wlx (op_call (f48_spec bd bm A c D) ca48 (lt_ rfl) rfl) rfl ?_
    rintro _ _
    refine wlv (op_assign (lt_ rfl) rfl) rfl ?_
    refine WL.nil ?_
    refine WX.regs (L' := [(0, _), (3, _)]) ?_
    refine WX.next ?_
    refine WC.seq ?_
    refine WC.region ?_
    refine wlv (op_move (lt_ rfl) rfl) rfl ?_
    refine wlv (op_neq (lt_ rfl) rfl rfl) rfl ?_
    refine WL.nil ?_
    refine WX.regs (L' := [(0, _), (3, _), (15, _)]) ?_
    refine WX.next ?_
    refine WC.cond rfl (fun h3 => ?_) (fun h3 => ?_)
    ·
      refine WC.seq ?_
      refine WC.region ?_
      refine wlv (op_move (lt_ rfl) rfl) rfl ?_
      refine wlv (op_assign (lt_ rfl) rfl) rfl ?_
      refine WL.nil ?_
      refine WX.regs (L' := [(2, _)]) ?_
      refine WX.next ?_
      refine WC.ret ?_
      refine WX.then_ret ?_
      have hk := op_keep D
      rw [flush_op h2 (by omega)]
      rw [hk.1, hk.2.1]
      exact Fin.ret1 xI ((A, c)) (trivial) Try.results55 (.tmp rfl) xT (by simp)
    ·
      have hop : D.operate.2 = 0 := by omega
      have hk := op_keep D
      refine WC.skip ?_
      refine WX.next ?_
      refine WC.seq ?_
      refine WC.seq ?_
      refine WC.region ?_
      refine wlv (op_move (lt_ rfl) rfl) rfl ?_
      refine wlv (op_nilCheck (lt_ rfl) rfl) rfl ?_
      refine wlv (op_fieldAddr fo66_2 (lt_ rfl) rfl) rfl ?_
      refine wlv (op_load1 fl64 (lt_ rfl) rfl xM rfl) rfl ?_
      rw [hk.2.1]
      refine wlv (op_len Try.underlying64 (lt_ rfl) rfl) rfl ?_
      refine wlv (op_move (lt_ rfl) rfl) rfl ?_
      refine WL.nil ?_
      refine WX.blkEq (b := bd) (dcells ({ D.operate.1 with dur := applyW D.dur (D.pend.take 0) }) bm A c) xK (by show dcells D.operate.1 bm A c = _; simp only [dcells, List.take_zero]) ?_
      refine WX.regs (L' := [(0, _), (20, _), (21, _), (22, _)]) ?_
      refine WX.next ?_
      refine WC.block ?_
      refine WC.loop (X := Nat) (fun q => D.pend.length - q) (fun q => q ≤ D.pend.length) (fun q => [(0, .pointer (some ⟨bd, 0, none⟩)), (20, .slice A D.pend.length c), (21, .int .i64 (D.pend.length : Int)), (22, .int .i64 (q : Int))]) (fun q => [blk bd (dcells ({ D.operate.1 with dur := applyW D.dur (D.pend.take q) }) bm A c) 66, mapC bm (dmap (applyW D.dur (D.pend.take q))), own (.slice A D.pend.length c) 84 257 D.pend.length (D.pend.flatMap wcs), frameC w0 (MutF [blk bd (dcells D bm A c) 66, mapC bm (dmap D.dur), own (.slice A D.pend.length c) 84 257 D.pend.length (D.pend.flatMap wcs)])]) (0) (Nat.zero_le _) (fun a w hs => hs.sub xY xT) ?_
      rintro i hi
      try dsimp only
      refine WC.seq ?_
      refine WC.region ?_
      refine wlv (op_lss (lt_ rfl) rfl rfl) rfl ?_
      refine WL.nil ?_
      refine WX.regs (L' := [(0, _), (20, _), (21, _), (22, _), (23, _)]) ?_
      refine WX.next ?_
      refine WC.seq ?_
      refine WC.cond rfl (fun h4 => ?_) (fun h4 => ?_)
      ·
        refine WC.skip ?_
        refine WX.next ?_
        refine WC.seq ?_
        refine WC.block ?_
        refine WC.seq ?_
        refine WC.region ?_
        obtain ⟨p, hp⟩ : ∃ p, D.pend[i]? = some p := ⟨D.pend[i]'(by omega), List.getElem?_eq_getElem _⟩
        have hx : ∀ k, k = i * 257 → ((D.pend.flatMap wcs).drop k).take 257 = wcs p := fun k hk => by rw [hk]; exact flat_at wcs_length D.pend i p hp
        refine wlv (op_index Try.underlying64 sz84 (lt_ rfl) rfl rfl (by omega) (by omega) (by decide) xS) rfl ?_
        refine wlv (op_loadSN ag84 (lt_ rfl) rfl xS (by rw [hx _ (by omega)]; exact wcs_length p) (by decide)) rfl ?_
        rw [hx _ (by omega)]
        refine wl1 (op_alloc ti84 (lt_ rfl)) rfl fun b1 => ?_
        refine wl (op_storeAll sz84 rfl rfl xK (wcs_length p) (wcs_one p) (by rfl)) rfl ?_
        change WL _ _ _ _ _ _ _
        refine WL.nil ?_
        refine WX.blkEq (b := b1) (wcs p) xK (by rfl) ?_
        refine WX.regs (L' := [(0, _), (5, _), (20, _), (21, _), (22, _)]) ?_
        refine WX.next ?_
        refine WC.region ?_
        refine wlv (op_move (lt_ rfl) rfl) rfl ?_
        refine wlv (op_fieldAddr fo84_0 (lt_ rfl) rfl) rfl ?_
        refine wlv (op_load1 fl3 (lt_ rfl) rfl xM rfl) rfl ?_
        refine wlv (op_fieldAddr fo84_1 (lt_ rfl) rfl) rfl ?_
        refine wlv (op_loadN ag82 (lt_ rfl) rfl xM (by simp [wcs, p.2.h])) rfl ?_
        rw [show (List.drop (0 + 1) (wcs p)).take 256 = bvs p.2.s by simp only [wcs]; exact List.take_of_length_le (by simp [p.2.h])]
        refine wlx (op_call (f40_spec bd bm A c ({ D.operate.1 with dur := applyW D.dur (D.pend.take i) }) p.1 p.2) ca40 (lt_ rfl) rfl) rfl ?_
        rintro _ _
        refine WL.nil ?_
        dsimp only
        rw [← applyW_take hp]
        refine WX.regs (L' := [(0, _), (20, _), (21, _), (22, _)]) ?_
        refine WX.in_normal ?_
        refine WX.next ?_
        refine WC.region ?_
        refine wlv (op_add (lt_ rfl) rfl rfl (by omega)) rfl ?_
        refine wlv (op_move (lt_ rfl) rfl) rfl ?_
        refine WL.nil ?_
        refine WX.regs (L' := [(0, _), (20, _), (21, _), (22, _)]) ?_
        refine WX.meet (i + 1) ⟨by omega, by omega⟩ (fun a w hs => hs.sub xY xT)
      ·
        refine WC.exit ?_
        refine WX.then_exit ?_
        refine WX.then_exit ?_
        refine WX.in_hit ?_
        refine WX.next ?_
        refine WC.seq ?_
        refine WC.region ?_
        refine wlv (op_move (lt_ rfl) rfl) rfl ?_
        refine wlv (op_nilCheck (lt_ rfl) rfl) rfl ?_
        refine wlv (op_fieldAddr fo66_2 (lt_ rfl) rfl) rfl ?_
        refine wl (op_store sz64 rfl rfl xK xL xO (by first | exact Nat.le_of_ble_eq_true rfl | (simp; omega))) rfl ?_
        change WL _ _ _ _ _ _ _
        refine WL.nil ?_
        obtain rfl : i = D.pend.length := by omega
        refine WX.nilown 84 257 ?_
        refine WX.blkEq (b := bd) (dcells { D.operate.1 with dur := applyW D.dur D.pend, pend := [] } bm none 0) xK (by simp [dcells, pset, Value.cells]) ?_
        rw [List.take_length]
        rw [flush_ok h2 hop]
        dsimp only
        refine WX.regs (L' := []) ?_
        refine WX.next ?_
        refine WC.seq ?_
        refine WC.region ?_
        refine wlv (op_assign (lt_ rfl) rfl) rfl ?_
        refine WL.nil ?_
        refine WX.regs (L' := [(2, _)]) ?_
        refine WX.next ?_
        refine WC.ret ?_
        exact Fin.ret1 xI ((none, 0)) (trivial) Try.results55 (.tmp rfl) xT (by simp)
end Go.Proofs.Ytkjlbedebmffgaa.Sx

set_option linter.unusedVariables false
set_option linter.unusedSimpArgs false
namespace Go.Proofs.Ytkjlbedebmffgaa.Sx
open Go.RowKit Go.Proofs.Ytkjlbedebmffgaa.Ty
attribute [local irreducible] blk own rd rx frameC

def Dk.new (n : Nat) : Dk := ⟨n, fun _ => Sct.z, [], 0, false, 0, false⟩
theorem dmap_new : (fun _ => none) = dmap (fun _ => Sct.z) := by funext i; simp [dmap]
theorem put_self (f : Int → Sct) (a : Int) : put f a (f a) = f := by
  funext i
  unfold put
  split
  · rename_i h; rw [h]
  · rfl
/-- The writes that are kept. -/
def sel : List (Int × Sct) → List UInt8 → List (Int × Sct)
  | [], _ => []
  | p :: l, cs => if (cs.headD 0).toNat % 3 = 1 then p :: sel l cs.tail else sel l cs.tail
theorem sel_succ (l : List (Int × Sct)) (cs : List UInt8) (f : Int → Sct) {i : Nat} {p : Int × Sct} (h : l[i]? = some p) : applyW f (sel (l.take (i + 1)) cs) = if (cs.getD i 0).toNat % 3 = 1 then put (applyW f (sel (l.take i) cs)) p.1 p.2 else applyW f (sel (l.take i) cs) := by
  induction l generalizing cs f i with
  | nil => cases h
  | cons q l ih =>
    have hd : cs.headD 0 = cs.getD 0 0 := by cases cs <;> rfl
    have ht : ∀ j, cs.tail.getD j 0 = cs.getD (j + 1) 0 := fun j => by cases cs <;> simp
    cases i with
    | zero =>
      simp only [List.getElem?_cons_zero, Option.some.injEq] at h
      subst h
      simp only [List.take_succ_cons, List.take_zero, sel, hd]
      split <;> rfl
    | succ i =>
      rw [List.getElem?_cons_succ] at h
      simp only [List.take_succ_cons, sel]
      split
      · show applyW (put f q.1 q.2) _ = _
        rw [ih cs.tail (put f q.1 q.2) h, ht]
        rfl
      · rw [ih cs.tail f h, ht]
def Dk.restart (D : Dk) (cs : List UInt8) : Dk := { D with dur := applyW D.dur (sel D.pend cs), pend := [], down := false, lim := false, limit := 0 }
set_option maxHeartbeats 400000 in
set_option maxRecDepth 10000 in
theorem f11_spec (n : Nat) (hn : 1 ≤ n ∧ n ≤ 4096) :
    Spec Try.prog 11 [.int .i64 (n : Int)] [] [] (R := Nat × Nat) (fun _ => True) (fun q => .tuple #[.pointer (some ⟨q.1, 0, none⟩), .int .i64 0]) (fun q => [blk q.1 (dcells (Dk.new n) q.2 none 0) 66, mapC q.2 (dmap (Dk.new n).dur), own (.slice none (Dk.new n).pend.length 0) 84 257 (Dk.new n).pend.length ((Dk.new n).pend.flatMap wcs)]) := by
  refine Spec.intro Try.func11 Try.ntmps11 rfl (by simp) (by simp) fun w0 => ?_
  refine WC.seq ?_
  refine WC.region ?_
  refine wlv (op_assign (lt_ rfl) rfl) rfl ?_
  refine wlv (op_assign (lt_ rfl) rfl) rfl ?_
  refine WL.nil ?_
  refine WX.regs (L' := [(0, _)]) ?_
  refine WX.next ?_
  refine WC.seq ?_
  refine WC.seq ?_
  refine WC.region ?_
  refine wlv (op_move (lt_ rfl) rfl) rfl ?_
  refine wlv (op_lss (lt_ rfl) rfl rfl) rfl ?_
  refine wlv (op_move (lt_ rfl) rfl) rfl ?_
  refine WL.split (t := 6) rfl (fun g6 => ?_) (fun g6 => ?_)
  ·
    omega
  ·
    refine wlgv (op_move (lt_ rfl) rfl) rfl rfl rfl ?_
    refine wlgv (op_gtr (lt_ rfl) rfl rfl) rfl rfl rfl ?_
    refine wlv (op_pickF (lt_ rfl) rfl rfl) rfl ?_
    refine WL.nil ?_
    refine WX.regs (L' := [(0, _), (9, _)]) ?_
    refine WX.next ?_
    refine WC.cond rfl (fun h1 => ?_) (fun h1 => ?_)
    ·
      omega
    ·
      refine WC.skip ?_
      refine WX.next ?_
      refine WC.seq ?_
      refine WC.region ?_
      refine wlv (op_move (lt_ rfl) rfl) rfl ?_
      refine wl1 (op_makeMap (lt_ rfl)) rfl fun b1 => ?_
      refine wlv (op_build (cs := [.int .i64 (n : Int), .map (some b1), .slice none 0 0, .int .i64 0, .bool false, .int .i64 0, .bool false]) (pv := [(0, _), (1, _)]) (lt_ rfl) rfl (by kernel_rfl)) rfl ?_
      refine wl1 (op_box (lt_ rfl) rfl rfl) rfl fun b2 => ?_
      refine wlv (op_assign (lt_ rfl) rfl) rfl ?_
      refine wlv (op_assign (lt_ rfl) rfl) rfl ?_
      refine WL.nil ?_
      refine WX.nilown 84 257 ?_
      refine WX.chEq (c := mapC b1 (fun _ => none)) (mapC b1 (dmap (fun _ => Sct.z))) xK (congrArg _ dmap_new) ?_
      refine WX.regs (L' := [(2, _), (3, _)]) ?_
      refine WX.next ?_
      refine WC.ret ?_
      exact Fin.ret2 xI ((b2, b1)) (trivial) Try.results11 rfl (.tmp rfl) (.tmp rfl) xT (by simp)
set_option maxHeartbeats 400000 in
set_option maxRecDepth 10000 in
theorem f61_spec (x y : Sct) (c : UInt8) :
    Spec Try.prog 61 [x.v, y.v, bv c] [] [] (R := Unit) (fun _ => True) (fun _ => x.v) (fun _ => []) := by
  refine Spec.intro Try.func61 Try.ntmps61 rfl (by simp) (by simp) fun w0 => ?_
  refine WC.seq ?_
  refine WC.region ?_
  refine wl1 (op_box (lt_ rfl) rfl rfl) rfl fun b1 => ?_
  refine wl1 (op_box (lt_ rfl) rfl rfl) rfl fun b2 => ?_
  refine wl1 (op_alloc ti82 (lt_ rfl)) rfl fun b3 => ?_
  refine WL.nil ?_
  refine WX.regs (L' := [(3, _), (6, _)]) ?_
  refine WX.next ?_
  refine WC.seq ?_
  refine WC.region ?_
  refine wlv (op_loadAll ag82 (lt_ rfl) rfl xM (by show (bvs x.s).length = 256; rw [bvs_length, x.h])) rfl ?_
  refine wl (op_storeAll sz82 rfl rfl xK (by show (bvs x.s).length = 256; rw [bvs_length, x.h]) (bvs_one _) (by rfl)) rfl ?_
  change WL _ _ _ _ _ _ _
  refine WL.nil ?_
  refine WX.regs (L' := [(6, _)]) ?_
  refine WX.next ?_
  refine WC.ret ?_
  exact Fin.ret1 xI (()) (trivial) Try.results61 (.cellN rfl ag82 (cs := bvs x.s) xM (by rw [bvs_length, x.h])) xT (by simp)
set_option maxHeartbeats 400000 in
set_option maxRecDepth 10000 in
theorem f62_spec (x y : Sct) (c : UInt8) :
    Spec Try.prog 62 [x.v, y.v, bv c] [] [] (R := Unit) (fun _ => True) (fun _ => y.v) (fun _ => []) := by
  refine Spec.intro Try.func62 Try.ntmps62 rfl (by simp) (by simp) fun w0 => ?_
  refine WC.seq ?_
  refine WC.region ?_
  refine wl1 (op_box (lt_ rfl) rfl rfl) rfl fun b1 => ?_
  refine wl1 (op_box (lt_ rfl) rfl rfl) rfl fun b2 => ?_
  refine wl1 (op_alloc ti82 (lt_ rfl)) rfl fun b3 => ?_
  refine WL.nil ?_
  refine WX.regs (L' := [(4, _), (6, _)]) ?_
  refine WX.next ?_
  refine WC.seq ?_
  refine WC.region ?_
  refine wlv (op_loadAll ag82 (lt_ rfl) rfl xM (by show (bvs y.s).length = 256; rw [bvs_length, y.h])) rfl ?_
  refine wl (op_storeAll sz82 rfl rfl xK (by show (bvs y.s).length = 256; rw [bvs_length, y.h]) (bvs_one _) (by rfl)) rfl ?_
  change WL _ _ _ _ _ _ _
  refine WL.nil ?_
  refine WX.regs (L' := [(6, _)]) ?_
  refine WX.next ?_
  refine WC.ret ?_
  exact Fin.ret1 xI (()) (trivial) Try.results62 (.cellN rfl ag82 (cs := bvs y.s) xM (by rw [bvs_length, y.h])) xT (by simp)
theorem fate_spec (k : Nat) (hk : k = 0 ∨ k = 1) (x y : Sct) (c : UInt8) : Spec Try.prog (if k = 0 then 61 else 62) [x.v, y.v, bv c] [] [] (R := Unit) (fun _ => True) (fun _ => (if k = 1 then y else x).v) (fun _ => []) := by
  rcases hk with rfl | rfl
  · exact f61_spec x y c
  · exact f62_spec x y c
theorem fate_ca (k : Nat) (hk : k = 0 ∨ k = 1) : Callable Try.prog (if k = 0 then 61 else 62) := by
  rcases hk with rfl | rfl
  · unfold Callable; kernel_rfl
  · unfold Callable; kernel_rfl
def fcs : List Value := [.func (.func 61) #[] #[], .func (.func 62) #[] #[], .func (.func 63) #[] #[]]
theorem fcs_at (k : Nat) (hk : k = 0 ∨ k = 1) {j : Nat} (hj : j = k) : fcs[j]? = some (.func (.func (if k = 0 then 61 else 62)) #[] #[]) := by
  subst hj
  rcases hk with rfl | rfl <;> rfl
set_option maxHeartbeats 400000 in
set_option maxRecDepth 10000 in
theorem f39_spec :
    Spec Try.prog 39 [] [] [] (R := Unit) (fun _ => True) (fun _ => .agg fcs.toArray) (fun _ => []) := by
  refine Spec.intro Try.func39 Try.ntmps39 rfl (by simp) (by simp) fun w0 => ?_
  refine WC.seq ?_
  refine WC.region ?_
  refine wl1 (op_alloc ti79 (lt_ rfl)) rfl fun b1 => ?_
  refine WL.nil ?_
  refine WX.regs (L' := [(0, _)]) ?_
  refine WX.next ?_
  refine WC.seq ?_
  refine WC.region ?_
  refine wlv (op_build (cs := fcs) (pv := [(0, _), (1, _), (2, _)]) (lt_ rfl) rfl (by kernel_rfl)) rfl ?_
  refine wl (op_storeAll sz79 rfl rfl xK xL xO xL) rfl ?_
  change WL _ _ _ _ _ _ _
  refine WL.nil ?_
  refine WX.regs (L' := [(0, _)]) ?_
  refine WX.next ?_
  refine WC.ret ?_
  exact Fin.ret1 xI (()) (trivial) Try.results39 (.cellN rfl ag79 (cs := fcs) xM rfl) xT (by simp)
set_option maxHeartbeats 400000 in
set_option maxRecDepth 10000 in
theorem f23_spec (bd bm : Nat) (A : Option Addr) (c : Nat) (D : Dk) (AX : Option Addr) (m cX : Nat) (cs : List UInt8) (hm : cs.length = m) (hcs : ∀ x ∈ cs, ¬ x.toNat % 3 = 2) (hdn : D.down = true) (hmx : D.pend.length ≤ 1000000) :
    Spec Try.prog 23 [.pointer (some ⟨bd, 0, none⟩), .slice AX m cX] [blk bd (dcells D bm A c) 66, mapC bm (dmap D.dur), own (.slice A D.pend.length c) 84 257 D.pend.length (D.pend.flatMap wcs)] [rd (.slice AX m cX) 1 m (bvs cs)] (R := Unit) (fun _ => True) (fun _ => .int .i64 0) (fun _ => [blk bd (dcells (D.restart cs) bm none 0) 66, mapC bm (dmap (D.restart cs).dur), own (.slice none (D.restart cs).pend.length 0) 84 257 (D.restart cs).pend.length ((D.restart cs).pend.flatMap wcs)]) := by
  refine Spec.intro Try.func23 Try.ntmps23 rfl (by simp) (by simp) fun w0 => ?_
  refine WC.seq ?_
  refine WC.region ?_
  refine wlv (op_assign (lt_ rfl) rfl) rfl ?_
  refine WL.nil ?_
  refine WX.regs (L' := [(0, _), (1, _)]) ?_
  refine WX.next ?_
  refine WC.seq ?_
  refine WC.seq ?_
  refine WC.region ?_
  refine wlv (op_move (lt_ rfl) rfl) rfl ?_
  refine wlv (op_eqlnil Try.underlying26 (lt_ rfl) rfl rfl) rfl ?_
  refine WL.nil ?_
  refine WX.regs (L' := [(0, _), (1, _), (10, _)]) ?_
  refine WX.next ?_
  refine WC.condF rfl ?_
  refine WC.skip ?_
  refine WX.next ?_
  refine WC.seq ?_
  refine WC.seq ?_
  refine WC.region ?_
  refine wlv (op_move (lt_ rfl) rfl) rfl ?_
  refine wlv (op_nilCheck (lt_ rfl) rfl) rfl ?_
  refine wlv (op_fieldAddr fo66_6 (lt_ rfl) rfl) rfl ?_
  refine wlv (op_load1 fl4 (lt_ rfl) rfl xM rfl) rfl ?_
  rw [hdn]
  refine wlv (op_not (lt_ rfl) rfl) rfl ?_
  refine WL.nil ?_
  refine WX.regs (L' := [(0, _), (1, _), (15, _)]) ?_
  refine WX.next ?_
  refine WC.condF rfl ?_
  refine WC.skip ?_
  refine WX.next ?_
  refine WC.seq ?_
  refine WC.region ?_
  refine wlx (op_call (f39_spec) ca39 (lt_ rfl) rfl) rfl ?_
  rintro _ _
  refine wl1 (op_alloc ti79 (lt_ rfl)) rfl fun b1 => ?_
  refine wl (op_storeAll sz79 rfl rfl xK xL xO (by rfl)) rfl ?_
  change WL _ _ _ _ _ _ _
  refine WL.nil ?_
  refine WX.regs (L' := [(0, _), (1, _), (5, _)]) ?_
  refine WX.next ?_
  refine WC.seq ?_
  refine WC.seq ?_
  refine WC.region ?_
  refine wlv (op_move (lt_ rfl) rfl) rfl ?_
  refine wlv (op_nilCheck (lt_ rfl) rfl) rfl ?_
  refine wlv (op_fieldAddr fo66_2 (lt_ rfl) rfl) rfl ?_
  refine wlv (op_load1 fl64 (lt_ rfl) rfl xM rfl) rfl ?_
  refine wlv (op_len Try.underlying64 (lt_ rfl) rfl) rfl ?_
  refine wlv (op_move (lt_ rfl) rfl) rfl ?_
  refine WL.nil ?_
  refine WX.blkEq (b := bd) (dcells ({ D with dur := applyW D.dur (sel (D.pend.take 0) cs) }) bm A c) xK (by rfl) ?_
  refine WX.regs (L' := [(0, _), (1, _), (5, _), (20, _), (21, _), (22, _)]) ?_
  refine WX.next ?_
  refine WC.block ?_
  refine WC.loop (X := Nat) (fun q => D.pend.length - q) (fun q => q ≤ D.pend.length) (fun q => [(0, .pointer (some ⟨bd, 0, none⟩)), (1, .slice AX m cX), (5, .pointer (some ⟨b1, 0, none⟩)), (20, .slice A D.pend.length c), (21, .int .i64 (D.pend.length : Int)), (22, .int .i64 (q : Int))]) (fun q => [blk bd (dcells ({ D with dur := applyW D.dur (sel (D.pend.take q) cs) }) bm A c) 66, mapC bm (dmap (applyW D.dur (sel (D.pend.take q) cs))), own (.slice A D.pend.length c) 84 257 D.pend.length (D.pend.flatMap wcs), blk b1 fcs 79, rd (.slice AX m cX) 1 m (bvs cs), frameC w0 (MutF [blk bd (dcells D bm A c) 66, mapC bm (dmap D.dur), own (.slice A D.pend.length c) 84 257 D.pend.length (D.pend.flatMap wcs)])]) (0) (Nat.zero_le _) (fun a w hs => hs.sub xY xT) ?_
  rintro i hi
  try dsimp only
  refine WC.seq ?_
  refine WC.region ?_
  refine wlv (op_lss (lt_ rfl) rfl rfl) rfl ?_
  refine WL.nil ?_
  refine WX.regs (L' := [(0, _), (1, _), (5, _), (20, _), (21, _), (22, _), (23, _)]) ?_
  refine WX.next ?_
  refine WC.seq ?_
  refine WC.cond rfl (fun h3 => ?_) (fun h3 => ?_)
  ·
    refine WC.skip ?_
    refine WX.next ?_
    refine WC.seq ?_
    refine WC.block ?_
    refine WC.seq ?_
    refine WC.region ?_
    obtain ⟨p, hp⟩ : ∃ p, D.pend[i]? = some p := ⟨D.pend[i]'(by omega), List.getElem?_eq_getElem _⟩
    have hx : ∀ k, k = i * 257 → ((D.pend.flatMap wcs).drop k).take 257 = wcs p := fun k hk => by rw [hk]; exact flat_at wcs_length D.pend i p hp
    have hkk : ((cs.getD i 0).toNat % 3) = 0 ∨ ((cs.getD i 0).toNat % 3) = 1 := by by_cases hi2 : i < cs.length; (have h1 := hcs (cs.getD i 0) (by simp [List.getD_eq_getElem?_getD, hi2]); omega); (left; simp [List.getD_eq_getElem?_getD, hi2])
    refine wlv (op_move (lt_ rfl) rfl) rfl ?_
    refine wlv (op_index Try.underlying64 sz84 (lt_ rfl) rfl rfl (by omega) (by omega) (by decide) xS) rfl ?_
    refine wlv (op_loadSN ag84 (lt_ rfl) rfl xS (by rw [hx _ (by omega)]; exact wcs_length p) (by decide)) rfl ?_
    rw [hx _ (by omega)]
    refine wl1 (op_alloc ti84 (lt_ rfl)) rfl fun b2 => ?_
    refine wlv (op_assign (lt_ rfl) rfl) rfl ?_
    refine wl (op_storeAll sz84 rfl rfl xK (wcs_length p) (wcs_one p) (by rfl)) rfl ?_
    change WL _ _ _ _ _ _ _
    refine WL.nil ?_
    refine WX.blkEq (b := b2) (wcs p) xK (by rfl) ?_
    refine WX.regs (L' := [(0, _), (1, _), (5, _), (6, _), (7, _), (20, _), (21, _), (22, _)]) ?_
    refine WX.next ?_
    refine WC.seq ?_
    refine WC.region ?_
    refine wlv (op_assign (lt_ rfl) rfl) rfl ?_
    refine WL.nil ?_
    refine WX.regs (L' := [(0, _), (1, _), (5, _), (6, _), (7, _), (8, _), (20, _), (21, _), (22, _)]) ?_
    refine WX.next ?_
    refine WC.cut (X := Unit) (fun _q => True) (fun _q => [(0, .pointer (some ⟨bd, 0, none⟩)), (1, .slice AX m cX), (5, .pointer (some ⟨b1, 0, none⟩)), (7, .pointer (some ⟨b2, 0, none⟩)), (8, bv (cs.getD i 0)), (20, .slice A D.pend.length c), (21, .int .i64 (D.pend.length : Int)), (22, .int .i64 (i : Int))]) (fun _q => [blk b2 (wcs p) 84, blk bd (dcells ({ D with dur := applyW D.dur (sel (D.pend.take i) cs) }) bm A c) 66, mapC bm (dmap (applyW D.dur (sel (D.pend.take i) cs))), own (.slice A D.pend.length c) 84 257 D.pend.length (D.pend.flatMap wcs), blk b1 fcs 79, rd (.slice AX m cX) 1 m (bvs cs), frameC w0 (MutF [blk bd (dcells D bm A c) 66, mapC bm (dmap D.dur), own (.slice A D.pend.length c) 84 257 D.pend.length (D.pend.flatMap wcs)])]) ?_ ?_
    ·
      refine WC.seq ?_
      refine WC.region ?_
      refine wlv (op_move (lt_ rfl) rfl) rfl ?_
      refine wlv (op_move (lt_ rfl) rfl) rfl ?_
      refine wlv (op_len Try.underlying23 (lt_ rfl) rfl) rfl ?_
      refine wlv (op_lss (lt_ rfl) rfl rfl) rfl ?_
      refine WL.nil ?_
      refine WX.regs (L' := [(0, _), (1, _), (5, _), (6, _), (7, _), (8, _), (20, _), (21, _), (22, _), (30, _)]) ?_
      refine WX.next ?_
      refine WC.cond rfl (fun h4 => ?_) (fun h4 => ?_)
      ·
        refine WC.region ?_
        refine wlv (op_move (lt_ rfl) rfl) rfl ?_
        refine wlv (op_move (lt_ rfl) rfl) rfl ?_
        refine wlv (op_index Try.underlying23 sz5 (lt_ rfl) rfl rfl (by omega) (by omega) (by decide) xS) rfl ?_
        refine wlv (op_loadS fl5 (lt_ rfl) rfl xS (bvs_at (k := i) (by omega) (by omega))) rfl ?_
        refine wlv (op_assign (lt_ rfl) rfl) rfl ?_
        refine WL.nil ?_
        refine WX.regs (L' := [(0, _), (1, _), (5, _), (7, _), (8, _), (20, _), (21, _), (22, _)]) ?_
        refine WX.meet (()) (trivial) (fun a w hs => hs.sub xY xT)
      ·
        refine WC.skip ?_
        have hz : cs.getD i 0 = 0 := by rw [List.getD_eq_getElem?_getD, List.getElem?_eq_none (by omega)]; rfl
        rw [hz]
        refine WX.meet (()) (trivial) (fun a w hs => hs.sub xY xT)
    · rintro _ _
      try dsimp only
      refine WC.drawn (Hs := [blk b2 (wcs p) 84, blk bd (dcells ({ D with dur := applyW D.dur (sel (D.pend.take i) cs) }) bm A c) 66, mapC bm (dmap (applyW D.dur (sel (D.pend.take i) cs))), own (.slice A D.pend.length c) 84 257 D.pend.length (D.pend.flatMap wcs), blk b1 fcs 79]) mo 18 ?_
      refine WA.take (i := 0) rfl (by kernel_rfl) (fun _ _ _ h => h) rfl (op_move (lt_ rfl) rfl) xT ?_
      refine WA.take (i := 1) rfl (by kernel_rfl) (fun _ _ _ h => h) rfl (op_fieldAddr fo84_0 (lt_ rfl) rfl) xT ?_
      refine WA.take (i := 2) rfl (by kernel_rfl) (fun _ _ _ h => h) rfl (op_load1 fl3 (lt_ rfl) rfl xM rfl) xT ?_
      refine WA.take (i := 3) rfl (by kernel_rfl) (fun _ _ _ h => h) rfl (op_move (lt_ rfl) rfl) xT ?_
      refine WA.take (i := 4) rfl (by kernel_rfl) (fun _ _ _ h => h) rfl (op_rem (lt_ rfl) rfl rfl (by omega) (by omega)) xT ?_
      refine WA.take (i := 5) rfl (by kernel_rfl) (fun _ _ _ h => h) rfl (op_indexArr Try.underlying79 sz78 (lt_ rfl) rfl rfl (by omega) (by omega)) xT ?_
      refine WA.take (i := 6) rfl (by kernel_rfl) (fun _ _ _ h => h) rfl (op_load1 fl78 (lt_ rfl) rfl xM (fcs_at ((cs.getD i 0).toNat % 3) hkk (by omega))) xT ?_
      refine WA.take (i := 7) rfl (by kernel_rfl) (fun _ _ _ h => h) rfl (op_move (lt_ rfl) rfl) xT ?_
      refine WA.take (i := 8) rfl (by kernel_rfl) (fun _ _ _ h => h) rfl (op_nilCheck (lt_ rfl) rfl) xT ?_
      refine WA.take (i := 9) rfl (by kernel_rfl) (fun _ _ _ h => h) rfl (op_fieldAddr fo66_1 (lt_ rfl) rfl) xT ?_
      refine WA.take (i := 10) rfl (by kernel_rfl) (fun _ _ _ h => h) rfl (op_load1 fl63 (lt_ rfl) rfl xM rfl) xT ?_
      refine WA.take (i := 11) rfl (by kernel_rfl) (fun _ _ _ h => h) rfl (op_fieldAddr fo84_0 (lt_ rfl) rfl) xT ?_
      refine WA.take (i := 12) rfl (by kernel_rfl) (fun _ _ _ h => h) rfl (op_load1 fl3 (lt_ rfl) rfl xM rfl) xT ?_
      refine WA.take (i := 13) rfl (by kernel_rfl) (fun _ _ _ h => h) rfl (op_lookup Try.underlying63 Try.underlying3 zf82 (lt_ rfl) rfl rfl xM) xT ?_
      rw [dmap_get]
      refine WA.take (i := 14) rfl (by kernel_rfl) (fun _ _ _ h => h) rfl (op_fieldAddr fo84_1 (lt_ rfl) rfl) xT ?_
      refine WA.take (i := 15) rfl (by kernel_rfl) (fun _ _ _ h => h) rfl (op_loadN ag82 (lt_ rfl) rfl xM (by simp [wcs, p.2.h])) xT ?_
      rw [show (List.drop (0 + 1) (wcs p)).take 256 = bvs p.2.s by simp only [wcs]; exact List.take_of_length_le (by simp [p.2.h])]
      refine WA.take (i := 16) rfl (by kernel_rfl) (fun _ _ _ h => h) rfl (op_move (lt_ rfl) rfl) xT ?_
      refine WA.stepx (i := 17) (by kernel_rfl) rfl rfl (op_callv (fate_spec ((cs.getD i 0).toNat % 3) hkk ((applyW D.dur (sel (D.pend.take i) cs)) p.1) p.2 (cs.getD i 0)) (fate_ca ((cs.getD i 0).toNat % 3) hkk) (lt_ rfl) rfl rfl xG) (fun _ r => xT) ?_
      rintro _ _
      refine WA.stepx (G := fun _ => []) (i := 18) (by kernel_rfl) rfl rfl (op_call (f40_spec bd bm A c ({ D with dur := applyW D.dur (sel (D.pend.take i) cs) }) p.1 (if ((cs.getD i 0).toNat % 3) = 1 then p.2 else (applyW D.dur (sel (D.pend.take i) cs)) p.1)) ca40 (lt_ rfl) rfl) (fun h => absurd rfl h) ?_
      rintro _ _
      refine WA.done (by kernel_rfl) ?_
      dsimp only
      have hst : put (applyW D.dur (sel (D.pend.take i) cs)) p.1 (if ((cs.getD i 0).toNat % 3) = 1 then p.2 else (applyW D.dur (sel (D.pend.take i) cs)) p.1) = applyW D.dur (sel (D.pend.take (i + 1)) cs) := by rw [sel_succ _ _ _ hp]; split; rfl; exact put_self _ _
      rw [hst]
      refine WX.regs (L' := [(0, _), (1, _), (5, _), (20, _), (21, _), (22, _)]) ?_
      refine WX.in_normal ?_
      refine WX.next ?_
      refine WC.region ?_
      refine wlv (op_add (lt_ rfl) rfl rfl (by omega)) rfl ?_
      refine wlv (op_move (lt_ rfl) rfl) rfl ?_
      refine WL.nil ?_
      refine WX.regs (L' := [(0, _), (1, _), (5, _), (20, _), (21, _), (22, _)]) ?_
      refine WX.meet (i + 1) ⟨by omega, by omega⟩ (fun a w hs => hs.sub xY xT)
  ·
    refine WC.exit ?_
    refine WX.then_exit ?_
    refine WX.then_exit ?_
    refine WX.in_hit ?_
    refine WX.next ?_
    refine WC.seq ?_
    refine WC.region ?_
    refine wlv (op_move (lt_ rfl) rfl) rfl ?_
    refine wlv (op_move (lt_ rfl) rfl) rfl ?_
    refine wlv (op_move (lt_ rfl) rfl) rfl ?_
    refine wlv (op_move (lt_ rfl) rfl) rfl ?_
    refine wlv (op_nilCheck (lt_ rfl) rfl) rfl ?_
    refine wlv (op_fieldAddr fo66_2 (lt_ rfl) rfl) rfl ?_
    refine wl (op_store sz64 rfl rfl xK xL xO (by first | exact Nat.le_of_ble_eq_true rfl | (simp; omega))) rfl ?_
    change WL _ _ _ _ _ _ _
    refine wlv (op_nilCheck (lt_ rfl) rfl) rfl ?_
    refine wlv (op_fieldAddr fo66_6 (lt_ rfl) rfl) rfl ?_
    refine wl (op_store sz4 rfl rfl xK xL xO (by first | exact Nat.le_of_ble_eq_true rfl | (simp; omega))) rfl ?_
    change WL _ _ _ _ _ _ _
    refine wlv (op_nilCheck (lt_ rfl) rfl) rfl ?_
    refine wlv (op_fieldAddr fo66_4 (lt_ rfl) rfl) rfl ?_
    refine wl (op_store sz4 rfl rfl xK xL xO (by first | exact Nat.le_of_ble_eq_true rfl | (simp; omega))) rfl ?_
    change WL _ _ _ _ _ _ _
    refine wlv (op_nilCheck (lt_ rfl) rfl) rfl ?_
    refine wlv (op_fieldAddr fo66_5 (lt_ rfl) rfl) rfl ?_
    refine wl (op_store sz3 rfl rfl xK xL xO (by first | exact Nat.le_of_ble_eq_true rfl | (simp; omega))) rfl ?_
    change WL _ _ _ _ _ _ _
    refine WL.nil ?_
    obtain rfl : i = D.pend.length := by omega
    refine WX.nilown 84 257 ?_
    refine WX.blkEq (b := bd) (dcells (D.restart cs) bm none 0) xK (by simp [dcells, pset, Value.cells, Dk.restart]) ?_
    rw [List.take_length]
    refine WX.regs (L' := []) ?_
    refine WX.next ?_
    refine WC.seq ?_
    refine WC.region ?_
    refine wlv (op_assign (lt_ rfl) rfl) rfl ?_
    refine WL.nil ?_
    refine WX.regs (L' := [(4, _)]) ?_
    refine WX.next ?_
    refine WC.ret ?_
    exact Fin.ret1 xI (()) (trivial) Try.results23 (.tmp rfl) xT (by simp)
end Go.Proofs.Ytkjlbedebmffgaa.Sx

