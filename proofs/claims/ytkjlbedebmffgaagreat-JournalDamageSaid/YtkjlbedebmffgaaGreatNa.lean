import Derived.WalkKit
import Derived.OrdersHeld
import Derived.Laws.MakeOwn
import Derived.Laws.OwnMore
set_option linter.unusedVariables false
set_option linter.unusedSimpArgs false
namespace Go.Proofs.YtkjlbedebmffgaaGreat.Sx
structure Hd (q : Prop) : Prop where
 o : q
theorem W0 {p q : Prop} (h : q) (k : Hd q → p := by intro hQ; refine WX.next ?_; exact hQ.1) : p := k ⟨h⟩
theorem W1 {p q : Prop} (h : q) (k : Hd q → p := by intro hQ; refine WC.seq ?_; exact hQ.1) : p := k ⟨h⟩
theorem W2 {p q : Prop} (h : q) (k : Hd q → p := by intro hQ; refine WL.nil ?_; exact hQ.1) : p := k ⟨h⟩
theorem W3 {p q : Prop} (h : q) (k : Hd q → p := by intro hQ; refine WC.region ?_; exact hQ.1) : p := k ⟨h⟩
theorem W4 {p q : Prop} (h : q) (k : Hd q → p := by intro hQ; refine wlv (op_move (lt_ rfl) rfl) rfl ?_; exact hQ.1) : p := k ⟨h⟩
theorem W5 {p q : Prop} (h : q) (k : Hd q → p := by intro hQ; refine wlv (op_assign (lt_ rfl) rfl) rfl ?_; exact hQ.1) : p := k ⟨h⟩
theorem W6 {p q : Prop} (h : q) (k : Hd q → p := by intro hQ; refine wlg_no rfl rfl rfl rfl rfl (by decide) ?_; exact hQ.1) : p := k ⟨h⟩
theorem W7 {p q : Prop} (h : q) (k : Hd q → p := by intro hQ; refine WC.ret ?_; exact hQ.1) : p := k ⟨h⟩
theorem W8 {p q : Prop} (h : q) (k : Hd q → p := by intro hQ; refine WC.skip ?_; exact hQ.1) : p := k ⟨h⟩
theorem W9 {p q : Prop} (h : q) (k : Hd q → p := by intro hQ; refine WX.then_ret ?_; exact hQ.1) : p := k ⟨h⟩
theorem W10 {p q : Prop} (h : q) (k : Hd q → p := by intro hQ; change WL _ _ _ _ _ _ _; exact hQ.1) : p := k ⟨h⟩
theorem W11 {p q : Prop} (h : q) (k : Hd q → p := by intro hQ; refine WC.block ?_; exact hQ.1) : p := k ⟨h⟩
theorem W12 {p q : Prop} (h : q) (k : Hd q → p := by intro hQ; refine WX.then_exit ?_; exact hQ.1) : p := k ⟨h⟩
theorem W13 {p q : Prop} (h : q) (k : Hd q → p := by intro hQ; refine wlgv (op_move (lt_ rfl) rfl) rfl rfl rfl ?_; exact hQ.1) : p := k ⟨h⟩
theorem W14 {p q : Prop} (h : q) (k : Hd q → p := by intro hQ; refine WX.regs (L' := [(2, _)]) ?_; exact hQ.1) : p := k ⟨h⟩
theorem W15 {p q : Prop} (h : q) (k : Hd q → p := by intro hQ; refine wlv (op_pickF (lt_ rfl) rfl rfl) rfl ?_; exact hQ.1) : p := k ⟨h⟩
theorem W16 {p q : Prop} (h : q) (k : Hd q → p := by intro hQ; refine wlv (op_add (lt_ rfl) rfl rfl (by omega)) rfl ?_; exact hQ.1) : p := k ⟨h⟩
theorem W17 {p q : Prop} (h : q) (k : Hd q → p := by intro hQ; refine wlv (op_pickT (lt_ rfl) rfl rfl) rfl ?_; exact hQ.1) : p := k ⟨h⟩
theorem W18 {p q : Prop} (h : q) (k : Hd q → p := by intro hQ; refine WX.in_normal ?_; exact hQ.1) : p := k ⟨h⟩
theorem W19 {p q : Prop} (h : q) (k : Hd q → p := by intro hQ; refine WA.done (by kernel_rfl) ?_; exact hQ.1) : p := k ⟨h⟩
theorem W20 {p q : Prop} (h : q) (k : Hd q → p := by intro hQ; refine wlv (op_extract (lt_ rfl) rfl rfl) rfl ?_; exact hQ.1) : p := k ⟨h⟩
theorem W21 {p q : Prop} (h : q) (k : Hd q → p := by intro hQ; refine wlv (op_load1 fl3 (lt_ rfl) rfl xM rfl) rfl ?_; exact hQ.1) : p := k ⟨h⟩
theorem W22 {p q : Prop} (h : q) (k : Hd q → p := by intro hQ; refine WX.in_ret ?_; exact hQ.1) : p := k ⟨h⟩
theorem W23 {p q : Prop} (h : q) (k : Hd q → p := by intro hQ; refine WC.condF rfl ?_; exact hQ.1) : p := k ⟨h⟩
theorem W24 {p q : Prop} (h : q) (k : Hd q → p := by intro hQ; refine wlv (op_neq (lt_ rfl) rfl rfl) rfl ?_; exact hQ.1) : p := k ⟨h⟩
theorem W25 {p q : Prop} (h : q) (k : Hd q → p := by intro hQ; refine wlv (op_lss (lt_ rfl) rfl rfl) rfl ?_; exact hQ.1) : p := k ⟨h⟩
theorem W26 {p q : Prop} (h : q) (k : Hd q → p := by intro hQ; refine WX.in_hit ?_; exact hQ.1) : p := k ⟨h⟩
theorem W27 {p q : Prop} (h : q) (k : Hd q → p := by intro hQ; refine wlv (op_nilCheck (lt_ rfl) rfl) rfl ?_; exact hQ.1) : p := k ⟨h⟩
theorem W28 {p q : Prop} (h : q) (k : Hd q → p := by intro hQ; refine wlgv (op_load1 fl3 (lt_ rfl) rfl xM rfl) rfl rfl rfl ?_; exact hQ.1) : p := k ⟨h⟩
theorem W29 {p q : Prop} (h : q) (k : Hd q → p := by intro hQ; refine WA.take (i := 0) rfl (by kernel_rfl) (fun _ _ _ h => h) rfl (op_move (lt_ rfl) rfl) xT ?_; exact hQ.1) : p := k ⟨h⟩
theorem W30 {p q : Prop} (h : q) (k : Hd q → p := by intro hQ; refine WC.condT rfl ?_; exact hQ.1) : p := k ⟨h⟩
theorem W31 {p q : Prop} (h : q) (k : Hd q → p := by intro hQ; refine WX.regs (L' := [(0, _)]) ?_; exact hQ.1) : p := k ⟨h⟩
theorem W32 {p q : Prop} (h : q) (k : Hd q → p := by intro hQ; refine wlv (op_load1 fl181 (lt_ rfl) rfl xM rfl) rfl ?_; exact hQ.1) : p := k ⟨h⟩
theorem W33 {p q : Prop} (h : q) (k : Hd q → p := by intro hQ; refine WX.regs (L' := [(2, _), (3, _)]) ?_; exact hQ.1) : p := k ⟨h⟩
theorem W34 {p q : Prop} (h : q) (k : Hd q → p := by intro hQ; refine WX.nilown 5 1 ?_; exact hQ.1) : p := k ⟨h⟩
theorem W35 {p q : Prop} (h : q) (k : Hd q → p := by intro hQ; refine WX.regs (L' := [(4, _)]) ?_; exact hQ.1) : p := k ⟨h⟩
theorem W36 {p q : Prop} (h : q) (k : Hd q → p := by intro hQ; refine wlgv (op_gtr (lt_ rfl) rfl rfl) rfl rfl rfl ?_; exact hQ.1) : p := k ⟨h⟩
theorem W37 {p q : Prop} (h : q) (k : Hd q → p := by intro hQ; refine wlg_undef rfl rfl rfl rfl (by decide) ?_; exact hQ.1) : p := k ⟨h⟩
theorem W38 {p q : Prop} (h : q) (k : Hd q → p := by intro hQ; refine wlv (op_len Tryz.underlying30 (lt_ rfl) rfl) rfl ?_; exact hQ.1) : p := k ⟨h⟩
theorem W39 {p q : Prop} (h : q) (k : Hd q → p := by intro hQ; refine WA.take (i := 1) rfl (by kernel_rfl) (fun _ _ _ h => h) rfl (op_move (lt_ rfl) rfl) xT ?_; exact hQ.1) : p := k ⟨h⟩
theorem W40 {p q : Prop} (h : q) (k : Hd q → p := by intro hQ; refine wlv (op_len Tryz.underlying36 (lt_ rfl) rfl) rfl ?_; exact hQ.1) : p := k ⟨h⟩
theorem W41 {p q : Prop} (h : q) (k : Hd q → p := by intro hQ; refine wlv (op_loadAll ag39 (lt_ rfl) rfl xM xL) rfl ?_; exact hQ.1) : p := k ⟨h⟩
theorem W42 {p q : Prop} (h : q) (k : Hd q → p := by intro hQ; refine wlv (op_eql (lt_ rfl) rfl rfl) rfl ?_; exact hQ.1) : p := k ⟨h⟩
theorem W43 {p q : Prop} (h : q) (k : Hd q → p := by intro hQ; refine WX.nilrows true ?_; exact hQ.1) : p := k ⟨h⟩
theorem W44 {p q : Prop} (h : q) (k : Hd q → p := by intro hQ; refine wlgv (op_neq (lt_ rfl) rfl rfl) rfl rfl rfl ?_; exact hQ.1) : p := k ⟨h⟩
theorem W45 {p q : Prop} (h : q) (k : Hd q → p := by intro hQ; refine WX.regs (L' := [(6, _), (7, _), (8, _)]) ?_; exact hQ.1) : p := k ⟨h⟩
theorem W46 {p q : Prop} (h : q) (k : Hd q → p := by intro hQ; refine WX.regs (L' := [(6, _)]) ?_; exact hQ.1) : p := k ⟨h⟩
theorem W47 {p q : Prop} (h : q) (k : Hd q → p := by intro hQ; refine WX.regs (L' := [(2, _), (3, _), (4, _)]) ?_; exact hQ.1) : p := k ⟨h⟩
theorem W48 {p q : Prop} (h : q) (k : Hd q → p := by intro hQ; refine WX.regs (L' := [(4, _), (5, _)]) ?_; exact hQ.1) : p := k ⟨h⟩
theorem W49 {p q : Prop} (h : q) (k : Hd q → p := by intro hQ; refine wl (op_storeAll sz92 rfl rfl xK xL xO xL) rfl ?_; exact hQ.1) : p := k ⟨h⟩
theorem W50 {p q : Prop} (h : q) (k : Hd q → p := by intro hQ; refine wl (op_storeAll sz39 rfl rfl xK xL xO xL) rfl ?_; exact hQ.1) : p := k ⟨h⟩
theorem W51 {p q : Prop} (h : q) (k : Hd q → p := by intro hQ; refine WA.take (i := 4) rfl (by kernel_rfl) (fun _ _ _ h => h) rfl (op_move (lt_ rfl) rfl) xT ?_; exact hQ.1) : p := k ⟨h⟩
theorem W52 {p q : Prop} (h : q) (k : Hd q → p := by intro hQ; refine wlv (op_load1 fl30 (lt_ rfl) rfl xM rfl) rfl ?_; exact hQ.1) : p := k ⟨h⟩
theorem W53 {p q : Prop} (h : q) (k : Hd q → p := by intro hQ; refine WX.regs (L' := [(9, _), (11, _), (29, _)]) ?_; exact hQ.1) : p := k ⟨h⟩
theorem W54 {p q : Prop} (h : q) (k : Hd q → p := by intro hQ; refine WA.take (i := 11) rfl (by kernel_rfl) (fun _ _ _ h => h) rfl (op_extract (lt_ rfl) rfl rfl) xT ?_; exact hQ.1) : p := k ⟨h⟩
theorem W55 {p q : Prop} (h : q) (k : Hd q → p := by intro hQ; refine WA.take (i := 9) rfl (by kernel_rfl) (fun _ _ _ h => h) rfl (op_move (lt_ rfl) rfl) xT ?_; exact hQ.1) : p := k ⟨h⟩
theorem W56 {p q : Prop} (h : q) (k : Hd q → p := by intro hQ; refine wlv (op_gtr (lt_ rfl) rfl rfl) rfl ?_; exact hQ.1) : p := k ⟨h⟩
theorem W57 {p q : Prop} (h : q) (k : Hd q → p := by intro hQ; refine wlgv (op_pickF (lt_ rfl) rfl rfl) rfl rfl rfl ?_; exact hQ.1) : p := k ⟨h⟩
theorem W58 {p q : Prop} (h : q) (k : Hd q → p := by intro hQ; refine WA.take (i := 12) rfl (by kernel_rfl) (fun _ _ _ h => h) rfl (op_extract (lt_ rfl) rfl rfl) xT ?_; exact hQ.1) : p := k ⟨h⟩
theorem W59 {p q : Prop} (h : q) (k : Hd q → p := by intro hQ; refine wlv (op_build (cs := [.int .i64 0, .int .i64 0, .int .i64 0, .slice none 0 0]) (pv := []) (lt_ rfl) rfl (by kernel_rfl)) rfl ?_; exact hQ.1) : p := k ⟨h⟩
theorem W60 {p q : Prop} (h : q) (k : Hd q → p := by intro hQ; refine WA.take (i := 2) rfl (by kernel_rfl) (fun _ _ _ h => h) rfl (op_move (lt_ rfl) rfl) xT ?_; exact hQ.1) : p := k ⟨h⟩
theorem W61 {p q : Prop} (h : q) (k : Hd q → p := by intro hQ; refine wl (op_store sz3 rfl rfl xK xL xO (by first | exact Nat.le_of_ble_eq_true rfl | (simp; omega))) rfl ?_; exact hQ.1) : p := k ⟨h⟩
theorem W62 {p q : Prop} (h : q) (k : Hd q → p := by intro hQ; refine wlgv (op_eql (lt_ rfl) rfl rfl) rfl rfl rfl ?_; exact hQ.1) : p := k ⟨h⟩
theorem W63 {p q : Prop} (h : q) (k : Hd q → p := by intro hQ; refine WX.regs (L' := [(0, _), (2, _)]) ?_; exact hQ.1) : p := k ⟨h⟩
theorem W64 {p q : Prop} (h : q) (k : Hd q → p := by intro hQ; refine WA.take (i := 10) rfl (by kernel_rfl) (fun _ _ _ h => h) rfl (op_extract (lt_ rfl) rfl rfl) xT ?_; exact hQ.1) : p := k ⟨h⟩
theorem W65 {p q : Prop} (h : q) (k : Hd q → p := by intro hQ; refine wlv (op_load1 fl36 (lt_ rfl) rfl xM rfl) rfl ?_; exact hQ.1) : p := k ⟨h⟩
theorem W66 {p q : Prop} (h : q) (k : Hd q → p := by intro hQ; refine wlv (op_geq (lt_ rfl) rfl rfl) rfl ?_; exact hQ.1) : p := k ⟨h⟩
theorem W67 {p q : Prop} (h : q) (k : Hd q → p := by intro hQ; refine WA.take (i := 5) rfl (by kernel_rfl) (fun _ _ _ h => h) rfl (op_move (lt_ rfl) rfl) xT ?_; exact hQ.1) : p := k ⟨h⟩
theorem W68 {p q : Prop} (h : q) (k : Hd q → p := by intro hQ; refine wlgv (op_pickT (lt_ rfl) rfl rfl) rfl rfl rfl ?_; exact hQ.1) : p := k ⟨h⟩
theorem W69 {p q : Prop} (h : q) (k : Hd q → p := by intro hQ; refine WA.take (i := 1) rfl (by kernel_rfl) (fun _ _ _ h => h) rfl (op_nilCheck (lt_ rfl) rfl) xT ?_; exact hQ.1) : p := k ⟨h⟩
theorem W70 {p q : Prop} (h : q) (k : Hd q → p := by intro hQ; refine WA.take (i := 0) rfl (by kernel_rfl) (fun _ _ _ h => h) rfl (op_loadAll ag39 (lt_ rfl) rfl xM xL) xT ?_; exact hQ.1) : p := k ⟨h⟩
theorem W71 {p q : Prop} (h : q) (k : Hd q → p := by intro hQ; refine WA.take (i := 8) rfl (by kernel_rfl) (fun _ _ _ h => h) rfl (op_move (lt_ rfl) rfl) xT ?_; exact hQ.1) : p := k ⟨h⟩
theorem W72 {p q : Prop} (h : q) (k : Hd q → p := by intro hQ; refine wlv (op_load1 fl4 (lt_ rfl) rfl xM rfl) rfl ?_; exact hQ.1) : p := k ⟨h⟩
theorem W73 {p q : Prop} (h : q) (k : Hd q → p := by intro hQ; refine wlv (op_mul (lt_ rfl) rfl rfl (by omega)) rfl ?_; exact hQ.1) : p := k ⟨h⟩
theorem W74 {p q : Prop} (h : q) (k : Hd q → p := by intro hQ; refine wlv (op_build (cs := (pcells 0 0 0 0 0 (.slice none 0 0))) (pv := []) (lt_ rfl) rfl (by kernel_rfl)) rfl ?_; exact hQ.1) : p := k ⟨h⟩
theorem W75 {p q : Prop} (h : q) (k : Hd q → p := by intro hQ; refine wl (op_storeAll sz139 rfl rfl xK xL xO xL) rfl ?_; exact hQ.1) : p := k ⟨h⟩
theorem W76 {p q : Prop} (h : q) (k : Hd q → p := by intro hQ; refine WX.regs (L' := [(0, _), (1, _)]) ?_; exact hQ.1) : p := k ⟨h⟩
theorem W77 {p q : Prop} (h : q) (k : Hd q → p := by intro hQ; refine WA.take (i := 3) rfl (by kernel_rfl) (fun _ _ _ h => h) rfl (op_move (lt_ rfl) rfl) xT ?_; exact hQ.1) : p := k ⟨h⟩
theorem W78 {p q : Prop} (h : q) (k : Hd q → p := by intro hQ; refine wlv (op_rem (lt_ rfl) rfl rfl (by omega) (by omega)) rfl ?_; exact hQ.1) : p := k ⟨h⟩
theorem W79 {p q : Prop} (h : q) (k : Hd q → p := by intro hQ; refine WX.regs (L' := [(0, _), (4, _)]) ?_; exact hQ.1) : p := k ⟨h⟩
theorem W80 {p q : Prop} (h : q) (k : Hd q → p := by intro hQ; refine WX.regs (L' := [(1, _), (2, _)]) ?_; exact hQ.1) : p := k ⟨h⟩
theorem W81 {p q : Prop} (h : q) (k : Hd q → p := by intro hQ; refine wl (op_storeAll sz104 rfl rfl xK xL xO xL) rfl ?_; exact hQ.1) : p := k ⟨h⟩
theorem W82 {p q : Prop} (h : q) (k : Hd q → p := by intro hQ; refine wl (op_storeAll sz44 rfl rfl xK xL xO xL) rfl ?_; exact hQ.1) : p := k ⟨h⟩
theorem W83 {p q : Prop} (h : q) (k : Hd q → p := by intro hQ; refine wlv (op_add32 (lt_ rfl) rfl rfl) rfl ?_; exact hQ.1) : p := k ⟨h⟩
theorem W84 {p q : Prop} (h : q) (k : Hd q → p := by intro hQ; refine WX.regs (L' := [(0, _), (3, _)]) ?_; exact hQ.1) : p := k ⟨h⟩
theorem W85 {p q : Prop} (h : q) (k : Hd q → p := by intro hQ; refine wlv (op_not (lt_ rfl) rfl) rfl ?_; exact hQ.1) : p := k ⟨h⟩
theorem W86 {p q : Prop} (h : q) (k : Hd q → p := by intro hQ; refine wlv (op_notp (lt_ rfl) rfl) rfl ?_; exact hQ.1) : p := k ⟨h⟩
theorem W87 {p q : Prop} (h : q) (k : Hd q → p := by intro hQ; refine wlgv (op_add (lt_ rfl) rfl rfl (by omega)) rfl rfl rfl ?_; exact hQ.1) : p := k ⟨h⟩
theorem W88 {p q : Prop} (h : q) (k : Hd q → p := by intro hQ; refine WX.regs (L' := [(72, _)]) ?_; exact hQ.1) : p := k ⟨h⟩
theorem W89 {p q : Prop} (h : q) (k : Hd q → p := by intro hQ; refine WX.regs (L' := [(60, _)]) ?_; exact hQ.1) : p := k ⟨h⟩
theorem W90 {p q : Prop} (h : q) (k : Hd q → p := by intro hQ; refine WA.take (i := 10) rfl (by kernel_rfl) (fun _ _ _ h => h) rfl (op_move (lt_ rfl) rfl) xT ?_; exact hQ.1) : p := k ⟨h⟩
theorem W91 {p q : Prop} (h : q) (k : Hd q → p := by intro hQ; refine wl (op_storeAll sz123 rfl rfl xK xL xO xL) rfl ?_; exact hQ.1) : p := k ⟨h⟩
theorem W92 {p q : Prop} (h : q) (k : Hd q → p := by intro hQ; refine wl (op_storeAll sz144 rfl rfl xK xL xO xL) rfl ?_; exact hQ.1) : p := k ⟨h⟩
theorem W93 {p q : Prop} (h : q) (k : Hd q → p := by intro hQ; refine wlv (op_loadAll ag88 (lt_ rfl) rfl xM xL) rfl ?_; exact hQ.1) : p := k ⟨h⟩
theorem W94 {p q : Prop} (h : q) (k : Hd q → p := by intro hQ; refine wlv (op_sub (lt_ rfl) rfl rfl (by omega)) rfl ?_; exact hQ.1) : p := k ⟨h⟩
theorem W95 {p q : Prop} (h : q) (k : Hd q → p := by intro hQ; refine wlv (op_index Tryz.underlying36 sz30 (lt_ rfl) rfl rfl (by omega) (by omega) (by decide) xS) rfl ?_; exact hQ.1) : p := k ⟨h⟩
theorem W96 {p q : Prop} (h : q) (k : Hd q → p := by intro hQ; refine wlv (op_build (cs := [.bool false, .int .i64 0, .int .i64 0, .slice none 0 0]) (pv := []) (lt_ rfl) rfl (by kernel_rfl)) rfl ?_; exact hQ.1) : p := k ⟨h⟩
theorem W97 {p q : Prop} (h : q) (k : Hd q → p := by intro hQ; refine WX.regs (L' := [(0, _), (3, _), (4, _)]) ?_; exact hQ.1) : p := k ⟨h⟩
theorem W98 {p q : Prop} (h : q) (k : Hd q → p := by intro hQ; refine wlgv (op_lss (lt_ rfl) rfl rfl) rfl rfl rfl ?_; exact hQ.1) : p := k ⟨h⟩
theorem W99 {p q : Prop} (h : q) (k : Hd q → p := by intro hQ; refine WX.regs (L' := [(4, _), (5, _), (6, _), (7, _)]) ?_; exact hQ.1) : p := k ⟨h⟩
theorem W100 {p q : Prop} (h : q) (k : Hd q → p := by intro hQ; refine WA.take (i := 18) rfl (by kernel_rfl) (fun _ _ _ h => h) rfl (op_assign (lt_ rfl) rfl) xT ?_; exact hQ.1) : p := k ⟨h⟩
theorem W101 {p q : Prop} (h : q) (k : Hd q → p := by intro hQ; refine WA.take (i := 4) rfl (by kernel_rfl) (fun _ _ _ h => h) rfl (op_assign (lt_ rfl) rfl) xT ?_; exact hQ.1) : p := k ⟨h⟩
theorem W102 {p q : Prop} (h : q) (k : Hd q → p := by intro hQ; refine WA.take (i := 5) rfl (by kernel_rfl) (fun _ _ _ h => h) rfl (op_nilCheck (lt_ rfl) rfl) xT ?_; exact hQ.1) : p := k ⟨h⟩
theorem W103 {p q : Prop} (h : q) (k : Hd q → p := by intro hQ; refine WX.regs (L' := [(9, _), (11, _), (13, _), (29, _), (54, _)]) ?_; exact hQ.1) : p := k ⟨h⟩
theorem W104 {p q : Prop} (h : q) (k : Hd q → p := by intro hQ; refine WA.take (i := 15) rfl (by kernel_rfl) (fun _ _ _ h => h) rfl (op_extract (lt_ rfl) rfl rfl) xT ?_; exact hQ.1) : p := k ⟨h⟩
theorem W105 {p q : Prop} (h : q) (k : Hd q → p := by intro hQ; refine wlv (op_fieldAddr fo39_1 (lt_ rfl) rfl) rfl ?_; exact hQ.1) : p := k ⟨h⟩
theorem W106 {p q : Prop} (h : q) (k : Hd q → p := by intro hQ; refine WA.take (i := 1) rfl (by kernel_rfl) (fun _ _ _ h => h) rfl (op_loadAll ag41 (lt_ rfl) rfl xM xL) xT ?_; exact hQ.1) : p := k ⟨h⟩
theorem W107 {p q : Prop} (h : q) (k : Hd q → p := by intro hQ; refine WA.take (i := 6) rfl (by kernel_rfl) (fun _ _ _ h => h) rfl (op_move (lt_ rfl) rfl) xT ?_; exact hQ.1) : p := k ⟨h⟩
theorem W108 {p q : Prop} (h : q) (k : Hd q → p := by intro hQ; refine wlv (op_indexArr Tryz.underlying182 sz181 (lt_ rfl) rfl rfl (by omega) (by omega)) rfl ?_; exact hQ.1) : p := k ⟨h⟩
theorem W109 {p q : Prop} (h : q) (k : Hd q → p := by intro hQ; refine wlv (op_quo (lt_ rfl) rfl rfl (by omega) (by omega)) rfl ?_; exact hQ.1) : p := k ⟨h⟩
theorem W110 {p q : Prop} (h : q) (k : Hd q → p := by intro hQ; refine wlv (op_index Tryz.underlying30 sz5 (lt_ rfl) rfl rfl (by omega) (by omega) (by decide) xS) rfl ?_; exact hQ.1) : p := k ⟨h⟩
theorem W111 {p q : Prop} (h : q) (k : Hd q → p := by intro hQ; refine WX.regs (L' := [(0, _), (1, _), (2, _)]) ?_; exact hQ.1) : p := k ⟨h⟩
theorem W112 {p q : Prop} (h : q) (k : Hd q → p := by intro hQ; refine wlgv (op_fieldAddr fo139_3 (lt_ rfl) rfl) rfl rfl rfl ?_; exact hQ.1) : p := k ⟨h⟩
theorem W113 {p q : Prop} (h : q) (k : Hd q → p := by intro hQ; refine wlgv (op_not (lt_ rfl) rfl) rfl rfl rfl ?_; exact hQ.1) : p := k ⟨h⟩
theorem W114 {p q : Prop} (h : q) (k : Hd q → p := by intro hQ; refine wlv (op_fieldAddr fo104_3 (lt_ rfl) rfl) rfl ?_; exact hQ.1) : p := k ⟨h⟩
theorem W115 {p q : Prop} (h : q) (k : Hd q → p := by intro hQ; refine wlv (op_load1 fl44 (lt_ rfl) rfl xM rfl) rfl ?_; exact hQ.1) : p := k ⟨h⟩
theorem W116 {p q : Prop} (h : q) (k : Hd q → p := by intro hQ; refine wlv (op_loadAll ag92 (lt_ rfl) rfl xM xL) rfl ?_; exact hQ.1) : p := k ⟨h⟩
theorem W117 {p q : Prop} (h : q) (k : Hd q → p := by intro hQ; refine wlv (op_fieldAddr fo39_0 (lt_ rfl) rfl) rfl ?_; exact hQ.1) : p := k ⟨h⟩
theorem W118 {p q : Prop} (h : q) (k : Hd q → p := by intro hQ; refine WA.stepo (i := 2) (by kernel_rfl) rfl rfl (op_storeAll sz39 rfl rfl xK xL xO xL) (fun _ => xT) ?_; exact hQ.1) : p := k ⟨h⟩
theorem W119 {p q : Prop} (h : q) (k : Hd q → p := by intro hQ; refine WA.stepo (i := 3) (by kernel_rfl) rfl rfl (op_storeAll sz41 rfl rfl xK xL xO xL) (fun _ => xT) ?_; exact hQ.1) : p := k ⟨h⟩
theorem W120 {p q : Prop} (h : q) (k : Hd q → p := by intro hQ; refine WA.take (i := 13) rfl (by kernel_rfl) (fun _ _ _ h => h) rfl (op_extract (lt_ rfl) rfl rfl) xT ?_; exact hQ.1) : p := k ⟨h⟩
theorem W121 {p q : Prop} (h : q) (k : Hd q → p := by intro hQ; refine WX.regs (L' := [(2, _), (3, _), (4, _), (5, _)]) ?_; exact hQ.1) : p := k ⟨h⟩
theorem W122 {p q : Prop} (h : q) (k : Hd q → p := by intro hQ; refine WA.take (i := 11) rfl (by kernel_rfl) (fun _ _ _ h => h) rfl (op_move (lt_ rfl) rfl) xT ?_; exact hQ.1) : p := k ⟨h⟩
theorem W123 {p q : Prop} (h : q) (k : Hd q → p := by intro hQ; refine WA.take (i := 14) rfl (by kernel_rfl) (fun _ _ _ h => h) rfl (op_move (lt_ rfl) rfl) xT ?_; exact hQ.1) : p := k ⟨h⟩
theorem W124 {p q : Prop} (h : q) (k : Hd q → p := by intro hQ; refine wlgv (op_fieldAddr fo139_4 (lt_ rfl) rfl) rfl rfl rfl ?_; exact hQ.1) : p := k ⟨h⟩
theorem W125 {p q : Prop} (h : q) (k : Hd q → p := by intro hQ; refine WX.regs (L' := [(1, _), (3, _), (4, _), (63, _)]) ?_; exact hQ.1) : p := k ⟨h⟩
theorem W126 {p q : Prop} (h : q) (k : Hd q → p := by intro hQ; refine wlv (op_fieldAddr fo123_5 (lt_ rfl) rfl) rfl ?_; exact hQ.1) : p := k ⟨h⟩
theorem W127 {p q : Prop} (h : q) (k : Hd q → p := by intro hQ; refine wlgv (op_fieldAddr fo123_3 (lt_ rfl) rfl) rfl rfl rfl ?_; exact hQ.1) : p := k ⟨h⟩
theorem W128 {p q : Prop} (h : q) (k : Hd q → p := by intro hQ; refine WX.regs (L' := [(1, _), (3, _), (4, _), (41, _)]) ?_; exact hQ.1) : p := k ⟨h⟩
theorem W129 {p q : Prop} (h : q) (k : Hd q → p := by intro hQ; refine WA.take (i := 4) rfl (by kernel_rfl) (fun _ _ _ h => h) rfl (op_load1 fl3 (lt_ rfl) rfl xM rfl) xT ?_; exact hQ.1) : p := k ⟨h⟩
theorem W130 {p q : Prop} (h : q) (k : Hd q → p := by intro hQ; refine WA.take (i := 2) rfl (by kernel_rfl) (fun _ _ _ h => h) rfl (op_load1 fl3 (lt_ rfl) rfl xM rfl) xT ?_; exact hQ.1) : p := k ⟨h⟩
theorem W131 {p q : Prop} (h : q) (k : Hd q → p := by intro hQ; refine WA.take (i := 4) rfl (by kernel_rfl) (fun _ _ _ h => h) rfl (op_nilCheck (lt_ rfl) rfl) xT ?_; exact hQ.1) : p := k ⟨h⟩
theorem W132 {p q : Prop} (h : q) (k : Hd q → p := by intro hQ; refine wlv (op_load1 fl34 (lt_ rfl) rfl xM rfl) rfl ?_; exact hQ.1) : p := k ⟨h⟩
theorem W133 {p q : Prop} (h : q) (k : Hd q → p := by intro hQ; refine wlv (op_fieldAddr fo92_3 (lt_ rfl) rfl) rfl ?_; exact hQ.1) : p := k ⟨h⟩
theorem W134 {p q : Prop} (h : q) (k : Hd q → p := by intro hQ; refine wl (op_store sz36 rfl rfl xK xL xO (by first | exact Nat.le_of_ble_eq_true rfl | (simp; omega))) rfl ?_; exact hQ.1) : p := k ⟨h⟩
theorem W135 {p q : Prop} (h : q) (k : Hd q → p := by intro hQ; refine WX.regs (L' := [(1, _), (2, _), (3, _), (4, _)]) ?_; exact hQ.1) : p := k ⟨h⟩
theorem W136 {p q : Prop} (h : q) (k : Hd q → p := by intro hQ; refine wl (op_store sz30 rfl rfl xK xL xO (by first | exact Nat.le_of_ble_eq_true rfl | (simp; omega))) rfl ?_; exact hQ.1) : p := k ⟨h⟩
theorem W137 {p q : Prop} (h : q) (k : Hd q → p := by intro hQ; refine wlgv (op_mul (lt_ rfl) rfl rfl (by omega)) rfl rfl rfl ?_; exact hQ.1) : p := k ⟨h⟩
theorem W138 {p q : Prop} (h : q) (k : Hd q → p := by intro hQ; refine wlgv (op_mul (lt_ rfl) rfl rfl (by simp only [fineP] at *; omega)) rfl rfl rfl ?_; exact hQ.1) : p := k ⟨h⟩
theorem W139 {p q : Prop} (h : q) (k : Hd q → p := by intro hQ; refine wlgv (op_add (lt_ rfl) rfl rfl (by simp only [fineP] at *; omega)) rfl rfl rfl ?_; exact hQ.1) : p := k ⟨h⟩
theorem W140 {p q : Prop} (h : q) (k : Hd q → p := by intro hQ; refine WA.take (i := 6) rfl (by kernel_rfl) (fun _ _ _ h => h) rfl (op_nilCheck (lt_ rfl) rfl) xT ?_; exact hQ.1) : p := k ⟨h⟩
theorem W141 {p q : Prop} (h : q) (k : Hd q → p := by intro hQ; refine wlv (op_loadS fl30 (lt_ rfl) rfl xS (rows_at' hri (by omega))) rfl ?_; exact hQ.1) : p := k ⟨h⟩
theorem W142 {p q : Prop} (h : q) (k : Hd q → p := by intro hQ; refine wlv (op_eqlnil Tryz.underlying34 (lt_ rfl) rfl rfl) rfl ?_; exact hQ.1) : p := k ⟨h⟩
theorem W143 {p q : Prop} (h : q) (k : Hd q → p := by intro hQ; refine wlv (op_index Tryz.underlying127 sz104 (lt_ rfl) rfl rfl (by omega) (by omega) (by decide) xS) rfl ?_; exact hQ.1) : p := k ⟨h⟩
theorem W144 {p q : Prop} (h : q) (k : Hd q → p := by intro hQ; refine WX.regs (L' := [(1, _), (8, _), (24, _), (25, _), (26, _)]) ?_; exact hQ.1) : p := k ⟨h⟩
theorem W145 {p q : Prop} (h : q) (k : Hd q → p := by intro hQ; refine WX.regs (L' := [(4, _), (8, _), (9, _), (12, _), (16, _), (115, _)]) ?_; exact hQ.1) : p := k ⟨h⟩
theorem W146 {p q : Prop} (h : q) (k : Hd q → p := by intro hQ; refine WX.regs (L' := [(4, _), (17, _), (124, _), (125, _), (126, _)]) ?_; exact hQ.1) : p := k ⟨h⟩
theorem W147 {p q : Prop} (h : q) (k : Hd q → p := by intro hQ; refine wlgv (op_fieldAddr fo92_1 (lt_ rfl) rfl) rfl rfl rfl ?_; exact hQ.1) : p := k ⟨h⟩
theorem W148 {p q : Prop} (h : q) (k : Hd q → p := by intro hQ; refine WA.take (i := 14) rfl (by kernel_rfl) (fun _ _ _ h => h) rfl (op_extract (lt_ rfl) rfl rfl) xT ?_; exact hQ.1) : p := k ⟨h⟩
theorem W149 {p q : Prop} (h : q) (k : Hd q → p := by intro hQ; refine WX.regs (L' := [(2, _), (3, _), (4, _), (6, _), (7, _)]) ?_; exact hQ.1) : p := k ⟨h⟩
theorem W150 {p q : Prop} (h : q) (k : Hd q → p := by intro hQ; refine WX.regs (L' := [(1, _), (2, _), (3, _), (6, _), (7, _), (11, _), (12, _), (13, _), (15, _), (16, _), (17, _), (69, _)]) ?_; exact hQ.1) : p := k ⟨h⟩
theorem W151 {p q : Prop} (h : q) (k : Hd q → p := by intro hQ; refine WA.stepo (i := 16) (by kernel_rfl) rfl rfl (op_storeAll sz39 rfl rfl xK xL xO xL) (fun _ => xT) ?_; exact hQ.1) : p := k ⟨h⟩
theorem W152 {p q : Prop} (h : q) (k : Hd q → p := by intro hQ; refine WA.stepo (i := 17) (by kernel_rfl) rfl rfl (op_storeAll sz41 rfl rfl xK xL xO xL) (fun _ => xT) ?_; exact hQ.1) : p := k ⟨h⟩
theorem W153 {p q : Prop} (h : q) (k : Hd q → p := by intro hQ; refine WA.stepo (i := 15) (by kernel_rfl) rfl rfl (op_storeAll sz39 rfl rfl xK xL xO xL) (fun _ => xT) ?_; exact hQ.1) : p := k ⟨h⟩
theorem W154 {p q : Prop} (h : q) (k : Hd q → p := by intro hQ; refine WA.stepo (i := 16) (by kernel_rfl) rfl rfl (op_storeAll sz41 rfl rfl xK xL xO xL) (fun _ => xT) ?_; exact hQ.1) : p := k ⟨h⟩
theorem W155 {p q : Prop} (h : q) (k : Hd q → p := by intro hQ; refine WA.take (i := 17) rfl (by kernel_rfl) (fun _ _ _ h => h) rfl (op_assign (lt_ rfl) rfl) xT ?_; exact hQ.1) : p := k ⟨h⟩
theorem W156 {p q : Prop} (h : q) (k : Hd q → p := by intro hQ; refine WA.take (i := 2) rfl (by kernel_rfl) (fun _ _ _ h => h) rfl (op_loadAll ag39 (lt_ rfl) rfl xM xL) xT ?_; exact hQ.1) : p := k ⟨h⟩
theorem W157 {p q : Prop} (h : q) (k : Hd q → p := by intro hQ; refine WA.take (i := 3) rfl (by kernel_rfl) (fun _ _ _ h => h) rfl (op_loadAll ag41 (lt_ rfl) rfl xM xL) xT ?_; exact hQ.1) : p := k ⟨h⟩
theorem W158 {p q : Prop} (h : q) (k : Hd q → p := by intro hQ; refine WA.take (i := 5) rfl (by kernel_rfl) (fun _ _ _ h => h) rfl (op_fieldAddr fo43_2 (lt_ rfl) rfl) xT ?_; exact hQ.1) : p := k ⟨h⟩
theorem W159 {p q : Prop} (h : q) (k : Hd q → p := by intro hQ; refine WA.stepo (i := 6) (by kernel_rfl) rfl rfl (op_store sz39 rfl rfl xK xL xO (by first | exact Nat.le_of_ble_eq_true rfl | (simp; omega))) (fun _ => xT) ?_; exact hQ.1) : p := k ⟨h⟩
theorem W160 {p q : Prop} (h : q) (k : Hd q → p := by intro hQ; refine WA.take (i := 7) rfl (by kernel_rfl) (fun _ _ _ h => h) rfl (op_nilCheck (lt_ rfl) rfl) xT ?_; exact hQ.1) : p := k ⟨h⟩
theorem W161 {p q : Prop} (h : q) (k : Hd q → p := by intro hQ; refine WA.take (i := 8) rfl (by kernel_rfl) (fun _ _ _ h => h) rfl (op_fieldAddr fo43_3 (lt_ rfl) rfl) xT ?_; exact hQ.1) : p := k ⟨h⟩
theorem W162 {p q : Prop} (h : q) (k : Hd q → p := by intro hQ; refine WA.stepo (i := 9) (by kernel_rfl) rfl rfl (op_store sz41 rfl rfl xK xL xO (by first | exact Nat.le_of_ble_eq_true rfl | (simp; omega))) (fun _ => xT) ?_; exact hQ.1) : p := k ⟨h⟩
theorem W163 {p q : Prop} (h : q) (k : Hd q → p := by intro hQ; refine WA.take (i := 10) rfl (by kernel_rfl) (fun _ _ _ h => h) rfl (op_assign (lt_ rfl) rfl) xT ?_; exact hQ.1) : p := k ⟨h⟩
theorem W164 {p q : Prop} (h : q) (k : Hd q → p := by intro hQ; refine wlv (op_conv328 (by kernel_rfl) Tryz.underlying5 (lt_ rfl) rfl) rfl ?_; exact hQ.1) : p := k ⟨h⟩
theorem W165 {p q : Prop} (h : q) (k : Hd q → p := by intro hQ; refine WA.take (i := 16) rfl (by kernel_rfl) (fun _ _ _ h => h) rfl (op_move (lt_ rfl) rfl) xT ?_; exact hQ.1) : p := k ⟨h⟩
theorem W166 {p q : Prop} (h : q) (k : Hd q → p := by intro hQ; refine wlv (op_conv8i (by kernel_rfl) Tryz.underlying3 (lt_ rfl) rfl) rfl ?_; exact hQ.1) : p := k ⟨h⟩
theorem W167 {p q : Prop} (h : q) (k : Hd q → p := by intro hQ; refine WA.take (i := 6) rfl (by kernel_rfl) (fun _ _ _ h => h) rfl (op_load1 fl3 (lt_ rfl) rfl xM rfl) xT ?_; exact hQ.1) : p := k ⟨h⟩
theorem W168 {p q : Prop} (h : q) (k : Hd q → p := by intro hQ; refine WA.take (i := 7) rfl (by kernel_rfl) (fun _ _ _ h => h) rfl (op_move (lt_ rfl) rfl) xT ?_; exact hQ.1) : p := k ⟨h⟩
theorem W169 {p q : Prop} (h : q) (k : Hd q → p := by intro hQ; refine WX.regs (L' := [(0, _), (2, _), (5, _), (7, _), (8, _), (9, _), (93, _)]) ?_; exact hQ.1) : p := k ⟨h⟩
theorem W170 {p q : Prop} (h : q) (k : Hd q → p := by intro hQ; refine WA.take (i := 12) rfl (by kernel_rfl) (fun _ _ _ h => h) rfl (op_nilCheck (lt_ rfl) rfl) xT ?_; exact hQ.1) : p := k ⟨h⟩
theorem W171 {p q : Prop} (h : q) (k : Hd q → p := by intro hQ; refine WA.take (i := 7) rfl (by kernel_rfl) (fun _ _ _ h => h) rfl (op_load1 fl3 (lt_ rfl) rfl xM rfl) xT ?_; exact hQ.1) : p := k ⟨h⟩
theorem W172 {p q : Prop} (h : q) (k : Hd q → p := by intro hQ; refine WA.take (i := 9) rfl (by kernel_rfl) (fun _ _ _ h => h) rfl (op_nilCheck (lt_ rfl) rfl) xT ?_; exact hQ.1) : p := k ⟨h⟩
theorem W173 {p q : Prop} (h : q) (k : Hd q → p := by intro hQ; refine WA.take (i := 13) rfl (by kernel_rfl) (fun _ _ _ h => h) rfl (op_assign (lt_ rfl) rfl) xT ?_; exact hQ.1) : p := k ⟨h⟩
theorem W174 {p q : Prop} (h : q) (k : Hd q → p := by intro hQ; refine WA.take (i := 2) rfl (by kernel_rfl) (fun _ _ _ h => h) rfl (op_fieldAddr fo43_2 (lt_ rfl) rfl) xT ?_; exact hQ.1) : p := k ⟨h⟩
theorem W175 {p q : Prop} (h : q) (k : Hd q → p := by intro hQ; refine WA.take (i := 3) rfl (by kernel_rfl) (fun _ _ _ h => h) rfl (op_loadN ag39 (lt_ rfl) rfl xM rfl) xT ?_; exact hQ.1) : p := k ⟨h⟩
theorem W176 {p q : Prop} (h : q) (k : Hd q → p := by intro hQ; refine wlv (op_rem (k := .u8) (a := (o.k.toNat : Int)) (lt_ rfl) rfl rfl (by omega) (by omega)) rfl ?_; exact hQ.1) : p := k ⟨h⟩
theorem W177 {p q : Prop} (h : q) (k : Hd q → p := by intro hQ; refine WA.take (i := 1) rfl (by kernel_rfl) (fun _ _ _ h => h) rfl (op_load1 fl181 (lt_ rfl) rfl xM rfl) xT ?_; exact hQ.1) : p := k ⟨h⟩
theorem W178 {p q : Prop} (h : q) (k : Hd q → p := by intro hQ; refine WA.take (i := 17) rfl (by kernel_rfl) (fun _ _ _ h => h) rfl (op_load1 fl181 (lt_ rfl) rfl xM rfl) xT ?_; exact hQ.1) : p := k ⟨h⟩
theorem W179 {p q : Prop} (h : q) (k : Hd q → p := by intro hQ; refine WA.take (i := 23) rfl (by kernel_rfl) (fun _ _ _ h => h) rfl (op_load1 fl181 (lt_ rfl) rfl xM rfl) xT ?_; exact hQ.1) : p := k ⟨h⟩
theorem W180 {p q : Prop} (h : q) (k : Hd q → p := by intro hQ; refine WA.take (i := 27) rfl (by kernel_rfl) (fun _ _ _ h => h) rfl (op_move (lt_ rfl) rfl) xT ?_; exact hQ.1) : p := k ⟨h⟩
theorem W181 {p q : Prop} (h : q) (k : Hd q → p := by intro hQ; refine WA.take (i := 21) rfl (by kernel_rfl) (fun _ _ _ h => h) rfl (op_xor32 (lt_ rfl) rfl rfl) xT ?_; exact hQ.1) : p := k ⟨h⟩
theorem W182 {p q : Prop} (h : q) (k : Hd q → p := by intro hQ; refine WA.take (i := 17) rfl (by kernel_rfl) (fun _ _ _ h => h) rfl (op_move (lt_ rfl) rfl) xT ?_; exact hQ.1) : p := k ⟨h⟩
theorem W183 {p q : Prop} (h : q) (k : Hd q → p := by intro hQ; refine WA.take (i := 11) rfl (by kernel_rfl) (fun _ _ _ h => h) rfl (op_assign (lt_ rfl) rfl) xT ?_; exact hQ.1) : p := k ⟨h⟩
theorem W184 {p q : Prop} (h : q) (k : Hd q → p := by intro hQ; refine wlv (op_slice_l Tryz.underlying30 sz5 (lt_ rfl) rfl rfl (by omega) (by omega)) rfl ?_; exact hQ.1) : p := k ⟨h⟩
theorem W185 {p q : Prop} (h : q) (k : Hd q → p := by intro hQ; refine wlv (op_indexArr Tryz.underlying191 sz5 (lt_ rfl) rfl rfl (by omega) (by omega)) rfl ?_; exact hQ.1) : p := k ⟨h⟩
theorem W186 {p q : Prop} (h : q) (k : Hd q → p := by intro hQ; refine wl (op_store sz5 rfl rfl xK xL xO (by rw [bvs_length]; simp only [List.length_set, hX]; omega)) rfl ?_; exact hQ.1) : p := k ⟨h⟩
theorem W187 {p q : Prop} (h : q) (k : Hd q → p := by intro hQ; refine WA.onex rfl rfl (op_call (f96_spec _ 2 _ ((bs.drop 28).take 2) (by simp; omega) (by decide)) ca96 (lt_ rfl) rfl) (fun _ r => xT) ?_; exact hQ.1) : p := k ⟨h⟩
theorem W188 {p q : Prop} (h : q) (k : Hd q → p := by intro hQ; refine WA.onex rfl rfl (op_call (f96_spec _ 2 _ ((bs.drop 26).take 2) (by simp; omega) (by decide)) ca96 (lt_ rfl) rfl) (fun _ r => xT) ?_; exact hQ.1) : p := k ⟨h⟩
theorem W189 {p q : Prop} (h : q) (k : Hd q → p := by intro hQ; refine WA.onex rfl rfl (op_call (f96_spec _ 2 _ ((bs.drop 24).take 2) (by simp; omega) (by decide)) ca96 (lt_ rfl) rfl) (fun _ r => xT) ?_; exact hQ.1) : p := k ⟨h⟩
theorem W190 {p q : Prop} (h : q) (k : Hd q → p := by intro hQ; refine WA.onex rfl rfl (op_call (f96_spec _ 4 _ ((bs.drop 20).take 4) (by simp; omega) (by decide)) ca96 (lt_ rfl) rfl) (fun _ r => xT) ?_; exact hQ.1) : p := k ⟨h⟩
theorem W191 {p q : Prop} (h : q) (k : Hd q → p := by intro hQ; refine WA.onex rfl rfl (op_call (f96_spec _ 4 _ ((bs.drop 16).take 4) (by simp; omega) (by decide)) ca96 (lt_ rfl) rfl) (fun _ r => xT) ?_; exact hQ.1) : p := k ⟨h⟩
theorem W192 {p q : Prop} (h : q) (k : Hd q → p := by intro hQ; refine WX.regs (L' := [(0, _), (2, _), (5, _), (6, _), (8, _), (27, _), (28, _), (32, _), (33, _)]) ?_; exact hQ.1) : p := k ⟨h⟩
theorem W193 {p q : Prop} (h : q) (k : Hd q → p := by intro hQ; refine WA.skipG (i := 12) rfl (by kernel_rfl) (fun _ _ _ h => h) rfl rfl rfl xI rfl (by decide) xT ?_; exact hQ.1) : p := k ⟨h⟩
theorem W194 {p q : Prop} (h : q) (k : Hd q → p := by intro hQ; refine WA.skipG (i := 13) rfl (by kernel_rfl) (fun _ _ _ h => h) rfl rfl rfl xI rfl (by decide) xT ?_; exact hQ.1) : p := k ⟨h⟩
theorem W195 {p q : Prop} (h : q) (k : Hd q → p := by intro hQ; refine WA.skipG (i := 14) rfl (by kernel_rfl) (fun _ _ _ h => h) rfl rfl rfl xI rfl (by decide) xT ?_; exact hQ.1) : p := k ⟨h⟩
theorem W196 {p q : Prop} (h : q) (k : Hd q → p := by intro hQ; refine WA.take (i := 27) rfl (by kernel_rfl) (fun _ _ _ h => h) rfl (op_assign (lt_ rfl) rfl) xT ?_; exact hQ.1) : p := k ⟨h⟩
theorem W197 {p q : Prop} (h : q) (k : Hd q → p := by intro hQ; refine wlv (op_loadSN ag104 (lt_ rfl) rfl xS (by rw [hx _ (by omega)]; rfl) (by decide)) rfl ?_; exact hQ.1) : p := k ⟨h⟩
theorem W198 {p q : Prop} (h : q) (k : Hd q → p := by intro hQ; refine WA.take (i := 3) rfl (by kernel_rfl) (fun _ _ _ h => h) rfl (op_load1 fl3 (lt_ rfl) rfl xM rfl) xT ?_; exact hQ.1) : p := k ⟨h⟩
theorem W199 {p q : Prop} (h : q) (k : Hd q → p := by intro hQ; refine WA.take (i := 3) rfl (by kernel_rfl) (fun _ _ _ h => h) rfl (op_loadAll ag39 (lt_ rfl) rfl xM xL) xT ?_; exact hQ.1) : p := k ⟨h⟩
theorem W200 {p q : Prop} (h : q) (k : Hd q → p := by intro hQ; refine WX.regs (L' := [(1, _), (2, _), (3, _), (6, _), (7, _), (11, _), (12, _), (13, _)]) ?_; exact hQ.1) : p := k ⟨h⟩
theorem W201 {p q : Prop} (h : q) (k : Hd q → p := by intro hQ; refine WA.take (i := 4) rfl (by kernel_rfl) (fun _ _ _ h => h) rfl (op_loadAll ag39 (lt_ rfl) rfl xM xL) xT ?_; exact hQ.1) : p := k ⟨h⟩
theorem W202 {p q : Prop} (h : q) (k : Hd q → p := by intro hQ; refine WA.take (i := 5) rfl (by kernel_rfl) (fun _ _ _ h => h) rfl (op_loadAll ag41 (lt_ rfl) rfl xM xL) xT ?_; exact hQ.1) : p := k ⟨h⟩
theorem W203 {p q : Prop} (h : q) (k : Hd q → p := by intro hQ; refine WA.take (i := 7) rfl (by kernel_rfl) (fun _ _ _ h => h) rfl (op_fieldAddr fo43_1 (lt_ rfl) rfl) xT ?_; exact hQ.1) : p := k ⟨h⟩
theorem W204 {p q : Prop} (h : q) (k : Hd q → p := by intro hQ; refine WA.stepo (i := 8) (by kernel_rfl) rfl rfl (op_store sz35 rfl rfl xK xL xO (by first | exact Nat.le_of_ble_eq_true rfl | (simp; omega))) (fun _ => xT) ?_; exact hQ.1) : p := k ⟨h⟩
theorem W205 {p q : Prop} (h : q) (k : Hd q → p := by intro hQ; refine WA.take (i := 10) rfl (by kernel_rfl) (fun _ _ _ h => h) rfl (op_fieldAddr fo43_2 (lt_ rfl) rfl) xT ?_; exact hQ.1) : p := k ⟨h⟩
theorem W206 {p q : Prop} (h : q) (k : Hd q → p := by intro hQ; refine WA.stepo (i := 11) (by kernel_rfl) rfl rfl (op_store sz39 rfl rfl xK xL xO (by first | exact Nat.le_of_ble_eq_true rfl | (simp; omega))) (fun _ => xT) ?_; exact hQ.1) : p := k ⟨h⟩
theorem W207 {p q : Prop} (h : q) (k : Hd q → p := by intro hQ; refine WA.take (i := 13) rfl (by kernel_rfl) (fun _ _ _ h => h) rfl (op_fieldAddr fo43_3 (lt_ rfl) rfl) xT ?_; exact hQ.1) : p := k ⟨h⟩
theorem W208 {p q : Prop} (h : q) (k : Hd q → p := by intro hQ; refine WA.stepo (i := 14) (by kernel_rfl) rfl rfl (op_store sz41 rfl rfl xK xL xO (by first | exact Nat.le_of_ble_eq_true rfl | (simp; omega))) (fun _ => xT) ?_; exact hQ.1) : p := k ⟨h⟩
theorem W209 {p q : Prop} (h : q) (k : Hd q → p := by intro hQ; refine WA.onex rfl rfl (op_call (f35_ok r hs.ok 3 k ⟨by omega, by omega, by rw [hs.n]; omega⟩ (by omega) g f es0 o1 o2) ca35 (lt_ rfl) rfl) (fun _ r => xT) ?_; exact hQ.1) : p := k ⟨h⟩
theorem W210 {p q : Prop} (h : q) (k : Hd q → p := by intro hQ; refine WA.onex rfl rfl (op_call (f35_bad r hs.ok 3 k ⟨by omega, by omega, by rw [hs.n]; omega⟩ (by omega) e hbad) ca35 (lt_ rfl) rfl) (fun _ r => xT) ?_; exact hQ.1) : p := k ⟨h⟩
theorem W211 {p q : Prop} (h : q) (k : Hd q → p := by intro hQ; refine WC.drawn (Hs := [blk b10 r2.cells 39, blk b11 (rjc J3 Ar2 cr2 es2.length) 41]) mo 999 ?_; exact hQ.1) : p := k ⟨h⟩
theorem W212 {p q : Prop} (h : q) (k : Hd q → p := by intro hQ; refine WX.blkEq (b := bx) (wcl bd (.pointer (some ⟨bj, 0, none⟩)) r2 (rjc J3 Ar2 cr2 es2.length) k) xK (by rfl) ?_; exact hQ.1) : p := k ⟨h⟩
theorem W213 {p q : Prop} (h : q) (k : Hd q → p := by intro hQ; refine WA.take (i := 16) rfl (by kernel_rfl) (fun _ _ _ h => h) rfl (op_extract (lt_ rfl) rfl rfl) xT ?_; exact hQ.1) : p := k ⟨h⟩
theorem W214 {p q : Prop} (h : q) (k : Hd q → p := by intro hQ; refine WA.take (i := 17) rfl (by kernel_rfl) (fun _ _ _ h => h) rfl (op_extract (lt_ rfl) rfl rfl) xT ?_; exact hQ.1) : p := k ⟨h⟩
theorem W215 {p q : Prop} (h : q) (k : Hd q → p := by intro hQ; refine WA.take (i := 18) rfl (by kernel_rfl) (fun _ _ _ h => h) rfl (op_extract (lt_ rfl) rfl rfl) xT ?_; exact hQ.1) : p := k ⟨h⟩
theorem W216 {p q : Prop} (h : q) (k : Hd q → p := by intro hQ; refine WA.onex rfl rfl (op_call (f26_any hS ⟨hN.1, by omega⟩ r hsame (by omega) Ar cr es hes (some ⟨bb2, 0, none⟩) (o.n % 1500) (o.n % 1500) (bytesM o.n o.b) hpl (by omega)) ca26 (lt_ rfl) rfl) (fun _ r => xT) ?_; exact hQ.1) : p := k ⟨h⟩
theorem W217 {p q : Prop} (h : q) (k : Hd q → p := by intro hQ; refine WA.onex rfl rfl (op_call (f25_spec o.n ho o.b) ca25 (lt_ rfl) rfl) (fun _ r => xT) ?_; exact hQ.1) : p := k ⟨h⟩
theorem W218 {p q : Prop} (h : q) (k : Hd q → p := by intro hQ; refine WA.onex rfl rfl (op_call (f28_spec r hsame.ok J Ar cr es.length hS.fl ⟨by omega, by omega, by omega⟩) ca28 (lt_ rfl) rfl) (fun _ r => xT) ?_; exact hQ.1) : p := k ⟨h⟩
theorem W219 {p q : Prop} (h : q) (k : Hd q → p := by intro hQ; refine WA.onex rfl rfl (op_call (f29_any hS ⟨hN.1, by omega⟩ r hsame (by omega) Ar cr es hes (J.first + ((o.n % 12 : Nat) : Int) - 2)) ca29 (lt_ rfl) rfl) (fun _ r => xT) ?_; exact hQ.1) : p := k ⟨h⟩
theorem W220 {p q : Prop} (h : q) (k : Hd q → p := by intro hQ; refine WA.take (i := 12) rfl (by kernel_rfl) (fun _ _ _ h => h) rfl (op_index Tryz.underlying30 sz5 (lt_ rfl) rfl rfl (by omega) (by omega) (by decide) xS) xT ?_; exact hQ.1) : p := k ⟨h⟩
theorem W221 {p q : Prop} (h : q) (k : Hd q → p := by intro hQ; refine wlv (op_convByte (by kernel_rfl) Tryz.underlying5 (lt_ rfl) rfl (Int.ediv_nonneg (by omega) (Int.natCast_nonneg _))) rfl ?_; exact hQ.1) : p := k ⟨h⟩
theorem W222 {p q : Prop} (h : q) (k : Hd q → p := by intro hQ; refine wlv (op_build (cs := [.pointer (some ⟨bd, 0, none⟩), .int .i64 fi, .int .i64 (k : Int)]) (pv := [(0, _), (1, _), (2, _)]) (lt_ rfl) rfl (by kernel_rfl)) rfl ?_; exact hQ.1) : p := k ⟨h⟩
theorem W223 {p q : Prop} (h : q) (k : Hd q → p := by intro hQ; refine WC.loop (X := Nat × Ar) (fun q => 2 - q.1) (fun q => q.1 ≤ 2 ∧ q.2.fits (pkM D fi k q.1)) (fun q => [(9, .pointer (some ⟨b1, 0, none⟩)), (11, .pointer (some ⟨b2, 0, none⟩)), (29, .int .i64 (q.1 : Int))]) (fun q => [blk b2 q.2.cells 92, own (.slice q.2.A q.2.es.length q.2.c) 30 1 q.2.es.length (q.2.es.map Bs.v), rowsC true q.2.es, blk b1 [.pointer (some ⟨bd, 0, none⟩), .int .i64 fi, .int .i64 (k : Int)] 88, blk bd (dcells D bm A c) 77, mapC bm (dmap D.dur), own (.slice A D.pend.length c) 80 257 D.pend.length (D.pend.flatMap wcs), frameC w0 (MutF [blk bd (dcells D bm A c) 77, mapC bm (dmap D.dur), own (.slice A D.pend.length c) 80 257 D.pend.length (D.pend.flatMap wcs)])]) ((0, Ar.zero)) (⟨Nat.zero_le _, rfl⟩) (fun a w hs => hs.sub xY xT) ?_; exact hQ.1) : p := k ⟨h⟩
theorem W224 {p q : Prop} (h : q) (k : Hd q → p := by intro hQ; refine wlx (op_call (f40_spec bd bm A c D fi (i : Int) k (by omega) hck2.2.2.2.2 (by omega) hn (by omega)) ca40 (lt_ rfl) rfl) rfl ?_; exact hQ.1) : p := k ⟨h⟩
theorem W225 {p q : Prop} (h : q) (k : Hd q → p := by intro hQ; refine (f17_spec bd bm A c D bj J Aj cj rs Ab p.length cb p rfl (by omega) hj.cur hj.gen hj.used (by omega) h4 (by omega)).conseq ?_; exact hQ.1) : p := k ⟨h⟩
theorem W226 {p q : Prop} (h : q) (k : Hd q → p := by intro hQ; refine WC.drawn (Hs := [blk bx (wcl bd (.pointer (some ⟨bj, 0, none⟩)) r (rjc J Ar cr es.length) k) 43, blk b1 o.cells 32]) mo 999 ?_; exact hQ.1) : p := k ⟨h⟩
theorem W227 {p q : Prop} (h : q) (k : Hd q → p := by intro hQ; refine wlv (op_build (cs := (wvs Kw)) (pv := [(0, _), (1, _), (2, _), (3, _), (4, _), (5, _), (6, _), (7, _), (8, _), (9, _), (10, _), (11, _), (12, _), (13, _), (14, _), (15, _), (16, _), (17, _), (18, _), (19, _), (20, _), (21, _), (22, _), (23, _), (24, _), (25, _), (26, _), (27, _), (28, _), (29, _), (30, _), (31, _), (32, _), (33, _), (34, _), (35, _), (36, _), (37, _), (38, _), (39, _), (40, _), (41, _), (42, _), (43, _), (44, _), (45, _), (46, _), (47, _), (48, _), (49, _), (50, _), (51, _), (52, _), (53, _), (54, _), (55, _), (56, _), (57, _), (58, _), (59, _), (60, _), (61, _), (62, _), (63, _)]) (lt_ rfl) rfl (by kernel_rfl)) rfl ?_; exact hQ.1) : p := k ⟨h⟩
theorem W228 {p q : Prop} (h : q) (k : Hd q → p := by intro hQ; refine WC.loop (X := Nat) (fun j => 256 - (32 + (fld bs 30 2) + j)) (fun j => 32 + (fld bs 30 2) + j ≤ 256 ∧ blank ((bs.drop (32 + (fld bs 30 2))).take j) = true) (fun j => [(0, .slice A 256 c), (2, .pointer (some ⟨b1, 0, none⟩)), (7, .pointer (some ⟨b4, 0, none⟩)), (8, .int .i64 ((32 + (fld bs 30 2) + j : Nat) : Int))]) (fun j => [blk b4 (pcells (fld bs 24 2 : Nat) (fld bs 16 4 : Nat) (fld bs 20 4 : Nat) (fld bs 26 2 : Nat) (fld bs 28 2 : Nat) (.slice A1 (fld bs 30 2) c1)) 139, own (.slice A1 (fld bs 30 2) c1) 5 1 (fld bs 30 2) (bvs ((bs.drop 32).take (fld bs 30 2))), blk b1 (pcells 0 0 0 0 0 (.slice none 0 0)) 139, rd (.slice A 256 c) 1 256 (bvs bs), frameC w0 (MutF [])]) (0) (⟨by omega, rfl⟩) (fun a w hs => hs.sub xY xT) ?_; exact hQ.1) : p := k ⟨h⟩
theorem W229 {p q : Prop} (h : q) (k : Hd q → p := by intro hQ; refine WA.take (i := 21) rfl (by kernel_rfl) (fun _ _ _ h => h) rfl (op_build (cs := (pcells (fld bs 24 2 : Nat) (fld bs 16 4 : Nat) (fld bs 20 4 : Nat) (fld bs 26 2 : Nat) (fld bs 28 2 : Nat) (.slice A1 (32 + fld bs 30 2 - 32) c1))) (pv := [(1, _), (2, _), (0, _), (3, _), (4, _), (5, _)]) (lt_ rfl) rfl (by kernel_rfl)) xT ?_; exact hQ.1) : p := k ⟨h⟩
theorem W230 {p q : Prop} (h : q) (k : Hd q → p := by intro hQ; refine WX.merge2 (c1 := rowsC true (l.map Rs.b)) (c2 := own (.slice Ar rec.p.length cr) 5 1 rec.p.length (bvs rec.p)) (d := rowsC true ((l ++ [(⟨rec.k, rec.g, rec.n, ⟨Ar, cr, rec.p⟩⟩ : Rs)]).map Rs.b)) xK xK (by rw [← bs_push]; exact rowsC_snoc (own_le_bs rfl) (fun _ => by simp)) ?_; exact hQ.1) : p := k ⟨h⟩
theorem W231 {p q : Prop} (h : q) (k : Hd q → p := by intro hQ; refine WC.dup (c := rd (.slice Al (t.length + 1) cl) 4 (t.length + 1) ((h :: t).flatMap Rs.cells)) (d := rd (sliced Al 1 (1 + ((t.map Rs.k).takeWhile (· == 2)).length) cl 4) 4 (1 + ((t.map Rs.k).takeWhile (· == 2)).length - 1) ((t.take ((t.map Rs.k).takeWhile (· == 2)).length).flatMap Rs.cells)) xM (by simp) (by simp) (rd_tailC htl) ?_; exact hQ.1) : p := k ⟨h⟩
theorem W232 {p q : Prop} (h : q) (k : Hd q → p := by intro hQ; refine WX.chEq (c := own (.slice Ao ((t.map Rs.k).takeWhile (· == 2)).length co) 30 1 ((t.map Rs.k).takeWhile (· == 2)).length ((((t.take ((t.map Rs.k).takeWhile (· == 2)).length).map Rs.b).take ((t.map Rs.k).takeWhile (· == 2)).length).map Bs.v)) (own (.slice Ao ((t.take ((t.map Rs.k).takeWhile (· == 2)).length).map Rs.b).length co) 30 1 ((t.take ((t.map Rs.k).takeWhile (· == 2)).length).map Rs.b).length (((t.take ((t.map Rs.k).takeWhile (· == 2)).length).map Rs.b).map Bs.v)) xK (by rw [hel, hek]) ?_; exact hQ.1) : p := k ⟨h⟩
theorem W233 {p q : Prop} (h : q) (k : Hd q → p := by intro hQ; refine WX.turn (c := rowsC true ((h :: t).map Rs.b)) (d := rowsC true ((t.take ((t.map Rs.k).takeWhile (· == 2)).length).map Rs.b)) xK (rowsC_sub fun r hr => by rw [List.map_cons]; exact List.mem_cons_of_mem _ (by rw [List.map_take] at hr; exact List.mem_of_mem_take hr)) ?_; exact hQ.1) : p := k ⟨h⟩
theorem W234 {p q : Prop} (h : q) (k : Hd q → p := by intro hQ; refine wlv (op_build (cs := [.pointer (some ⟨bd, 0, none⟩), .int .i64 fi, .int .i64 (k : Int), .int .i64 (best.g % 2), .int .i64 0, .int .i64 best.f, .slice none 0 0, .int .i64 0, .int .i64 0, .int .i64 0]) (pv := [(0, _), (1, _), (3, _)]) (lt_ rfl) rfl (by kernel_rfl)) rfl ?_; exact hQ.1) : p := k ⟨h⟩
theorem W235 {p q : Prop} (h : q) (k : Hd q → p := by intro hQ; refine wlx (op_call (f41_spec bd bm A c D b4 (jn0 fi (k : Int) best.g best.f) none best.A best.A 0 0 best.es.length best.c best.es.length best.c best.f best.es best.es own_le_rd (fun _ h => h) rfl rfl hck2.2.2.2.2 (by simp only [jn0]; omega) (by simp only [jn0]; omega) hn (by omega) (fun r hr => hes _ (List.mem_map_of_mem hr)) hesl hmx) ca41 (lt_ rfl) rfl) rfl ?_; exact hQ.1) : p := k ⟨h⟩
theorem W236 {p q : Prop} (h : q) (k : Hd q → p := by intro hQ; refine WA.onex rfl rfl (op_call (f51_spec r hr a k (nextF 0 (seenR r.V a k)) 0 none 0 [] ha ⟨by omega, hg⟩ ⟨by omega, by omega⟩ (fun b hb => by cases hb) (by simp only [List.map_nil, needs]; omega) hw) ca51 (lt_ rfl) rfl) (fun _ r => xT) ?_; exact hQ.1) : p := k ⟨h⟩
theorem W237 {p q : Prop} (h : q) (k : Hd q → p := by intro hQ; refine WA.onex rfl rfl (op_call (f51_spec r hr J.fi k (nextF (1 - J.gen % 2) (seenR r.V J.fi k)) (J.first + (m : Nat)) AX cX (es.drop m) ha ⟨by omega, hg.2⟩ ⟨by omega, by omega⟩ (fun b hb => hes b (List.mem_of_mem_drop hb)) (by omega) hw) ca51 (lt_ rfl) rfl) (fun _ r => xT) ?_; exact hQ.1) : p := k ⟨h⟩
theorem W238 {p q : Prop} (h : q) (k : Hd q → p := by intro hQ; refine WA.stepx (i := 12) (by kernel_rfl) rfl rfl (op_call (f51_spec r hr a k (nextF (1 - x.g % 2) (seenR r.V a k)) x.f x.A x.c x.es ha ⟨by omega, hgm⟩ ⟨by omega, by omega⟩ (fun b hb => hb3 _ (List.mem_map_of_mem hb)) hb4 hw) ca51 (lt_ rfl) rfl) (fun _ r => xT) ?_; exact hQ.1) : p := k ⟨h⟩
theorem W239 {p q : Prop} (h : q) (k : Hd q → p := by intro hQ; refine WX.chEq (c := blk bx (wcl bd (.pointer (some ⟨bj, 0, none⟩)) r2 (rjc { J with synced := J.first + es.length } Ar cr es.length) k) 43) (blk bx (wcl bd (.pointer (some ⟨bj, 0, none⟩)) r2 (rjc { J with synced := J.first + rs.length } Ar cr es.length) k) 43) xK (by rw [hel]) ?_; exact hQ.1) : p := k ⟨h⟩
theorem W240 {p q : Prop} (h : q) (k : Hd q → p := by intro hQ; refine W1 ?_; refine W3 ?_; exact hQ.1) : p := k ⟨h⟩
theorem W241 {p q : Prop} (h : q) (k : Hd q → p := by intro hQ; refine W5 ?_; refine W2 ?_; exact hQ.1) : p := k ⟨h⟩
theorem W242 {p q : Prop} (h : q) (k : Hd q → p := by intro hQ; refine W0 ?_; refine W7 ?_; exact hQ.1) : p := k ⟨h⟩
theorem W243 {p q : Prop} (h : q) (k : Hd q → p := by intro hQ; refine W6 ?_; refine W6 ?_; exact hQ.1) : p := k ⟨h⟩
theorem W244 {p q : Prop} (h : q) (k : Hd q → p := by intro hQ; refine W4 ?_; refine W4 ?_; exact hQ.1) : p := k ⟨h⟩
theorem W245 {p q : Prop} (h : q) (k : Hd q → p := by intro hQ; refine WC.exit ?_; refine W12 ?_; exact hQ.1) : p := k ⟨h⟩
theorem W246 {p q : Prop} (h : q) (k : Hd q → p := by intro hQ; refine W22 ?_; refine W9 ?_; exact hQ.1) : p := k ⟨h⟩
theorem W247 {p q : Prop} (h : q) (k : Hd q → p := by intro hQ; refine W23 ?_; refine W8 ?_; exact hQ.1) : p := k ⟨h⟩
theorem W248 {p q : Prop} (h : q) (k : Hd q → p := by intro hQ; refine W20 ?_; refine W20 ?_; exact hQ.1) : p := k ⟨h⟩
theorem W249 {p q : Prop} (h : q) (k : Hd q → p := by intro hQ; refine W0 ?_; refine W240 ?_; exact hQ.1) : p := k ⟨h⟩
theorem W250 {p q : Prop} (h : q) (k : Hd q → p := by intro hQ; refine W14 ?_; refine W242 ?_; exact hQ.1) : p := k ⟨h⟩
theorem W251 {p q : Prop} (h : q) (k : Hd q → p := by intro hQ; refine W5 ?_; refine W241 ?_; exact hQ.1) : p := k ⟨h⟩
theorem W252 {p q : Prop} (h : q) (k : Hd q → p := by intro hQ; refine W10 ?_; refine W2 ?_; exact hQ.1) : p := k ⟨h⟩
theorem W253 {p q : Prop} (h : q) (k : Hd q → p := by intro hQ; refine W245 ?_; refine W12 ?_; exact hQ.1) : p := k ⟨h⟩
theorem W254 {p q : Prop} (h : q) (k : Hd q → p := by intro hQ; refine W1 ?_; refine W11 ?_; exact hQ.1) : p := k ⟨h⟩
theorem W255 {p q : Prop} (h : q) (k : Hd q → p := by intro hQ; refine W243 ?_; refine W243 ?_; exact hQ.1) : p := k ⟨h⟩
theorem W256 {p q : Prop} (h : q) (k : Hd q → p := by intro hQ; refine W4 ?_; refine W24 ?_; exact hQ.1) : p := k ⟨h⟩
theorem W257 {p q : Prop} (h : q) (k : Hd q → p := by intro hQ; refine W6 ?_; refine W17 ?_; exact hQ.1) : p := k ⟨h⟩
theorem W258 {p q : Prop} (h : q) (k : Hd q → p := by intro hQ; refine W43 ?_; refine WX.nilown 30 1 ?_; exact hQ.1) : p := k ⟨h⟩
theorem W259 {p q : Prop} (h : q) (k : Hd q → p := by intro hQ; refine W1 ?_; refine W240 ?_; exact hQ.1) : p := k ⟨h⟩
theorem W260 {p q : Prop} (h : q) (k : Hd q → p := by intro hQ; refine W241 ?_; refine W250 ?_; exact hQ.1) : p := k ⟨h⟩
theorem W261 {p q : Prop} (h : q) (k : Hd q → p := by intro hQ; refine W249 ?_; refine W4 ?_; exact hQ.1) : p := k ⟨h⟩
theorem W262 {p q : Prop} (h : q) (k : Hd q → p := by intro hQ; refine W8 ?_; refine W0 ?_; exact hQ.1) : p := k ⟨h⟩
theorem W263 {p q : Prop} (h : q) (k : Hd q → p := by intro hQ; refine W242 ?_; refine W9 ?_; exact hQ.1) : p := k ⟨h⟩
theorem W264 {p q : Prop} (h : q) (k : Hd q → p := by intro hQ; refine W253 ?_; refine W26 ?_; exact hQ.1) : p := k ⟨h⟩
theorem W265 {p q : Prop} (h : q) (k : Hd q → p := by intro hQ; refine W25 ?_; refine W2 ?_; exact hQ.1) : p := k ⟨h⟩
theorem W266 {p q : Prop} (h : q) (k : Hd q → p := by intro hQ; refine W5 ?_; refine W251 ?_; exact hQ.1) : p := k ⟨h⟩
theorem W267 {p q : Prop} (h : q) (k : Hd q → p := by intro hQ; refine W243 ?_; refine W15 ?_; exact hQ.1) : p := k ⟨h⟩
theorem W268 {p q : Prop} (h : q) (k : Hd q → p := by intro hQ; refine wlgv (op_load1 fl36 (lt_ rfl) rfl xM rfl) rfl rfl rfl ?_; refine wlgv (op_len Tryz.underlying36 (lt_ rfl) rfl) rfl rfl rfl ?_; exact hQ.1) : p := k ⟨h⟩
theorem W269 {p q : Prop} (h : q) (k : Hd q → p := by intro hQ; refine W0 ?_; refine W259 ?_; exact hQ.1) : p := k ⟨h⟩
theorem W270 {p q : Prop} (h : q) (k : Hd q → p := by intro hQ; refine W262 ?_; refine W254 ?_; exact hQ.1) : p := k ⟨h⟩
theorem W271 {p q : Prop} (h : q) (k : Hd q → p := by intro hQ; refine W10 ?_; refine W241 ?_; exact hQ.1) : p := k ⟨h⟩
theorem W272 {p q : Prop} (h : q) (k : Hd q → p := by intro hQ; refine W4 ?_; refine W2 ?_; exact hQ.1) : p := k ⟨h⟩
theorem W273 {p q : Prop} (h : q) (k : Hd q → p := by intro hQ; refine W240 ?_; refine W260 ?_; exact hQ.1) : p := k ⟨h⟩
theorem W274 {p q : Prop} (h : q) (k : Hd q → p := by intro hQ; refine W8 ?_; refine W249 ?_; exact hQ.1) : p := k ⟨h⟩
theorem W275 {p q : Prop} (h : q) (k : Hd q → p := by intro hQ; refine W242 ?_; refine W246 ?_; exact hQ.1) : p := k ⟨h⟩
theorem W276 {p q : Prop} (h : q) (k : Hd q → p := by intro hQ; refine W3 ?_; refine W16 ?_; exact hQ.1) : p := k ⟨h⟩
theorem W277 {p q : Prop} (h : q) (k : Hd q → p := by intro hQ; refine WA.take (i := 6) rfl (by kernel_rfl) (fun _ _ _ h => h) rfl (op_fieldAddr fo43_3 (lt_ rfl) rfl) xT ?_; refine WA.take (i := 7) rfl (by kernel_rfl) (fun _ _ _ h => h) rfl (op_loadN ag41 (lt_ rfl) rfl xM rfl) xT ?_; exact hQ.1) : p := k ⟨h⟩
theorem W278 {p q : Prop} (h : q) (k : Hd q → p := by intro hQ; refine WA.take (i := 0) rfl (by kernel_rfl) (fun _ _ _ h => h) rfl (op_fieldAddr fo39_0 (lt_ rfl) rfl) xT ?_; refine WA.take (i := 1) rfl (by kernel_rfl) (fun _ _ _ h => h) rfl (op_load1 fl36 (lt_ rfl) rfl xM rfl) xT ?_; exact hQ.1) : p := k ⟨h⟩
theorem W279 {p q : Prop} (h : q) (k : Hd q → p := by intro hQ; refine WX.chEq (c := own (.slice Ao j co) 30 1 j (((t.map Rs.b).take j).map Bs.v)) (own (.slice Ao ((t.map Rs.b).take j).length co) 30 1 ((t.map Rs.b).take j).length (((t.map Rs.b).take j).map Bs.v)) xK (by rw [hel]) ?_; refine WX.turn (c := rowsC true ((h :: t).map Rs.b)) (d := rowsC true ((t.map Rs.b).take j)) xK (rowsC_sub fun r hr => by rw [List.map_cons]; exact List.mem_cons_of_mem _ (List.mem_of_mem_take hr)) ?_; exact hQ.1) : p := k ⟨h⟩
theorem W280 {p q : Prop} (h : q) (k : Hd q → p := by intro hQ; refine WA.skipG (i := 25) rfl (by kernel_rfl) (fun _ _ _ h => h) rfl rfl rfl xI rfl (by decide) xT ?_; refine WA.take (i := 26) rfl (by kernel_rfl) (fun _ _ _ h => h) rfl (op_pickT (lt_ rfl) rfl rfl) xT ?_; exact hQ.1) : p := k ⟨h⟩
theorem W281 {p q : Prop} (h : q) (k : Hd q → p := by intro hQ; refine W0 ?_; refine W247 ?_; exact hQ.1) : p := k ⟨h⟩
theorem W282 {p q : Prop} (h : q) (k : Hd q → p := by intro hQ; refine W269 ?_; refine W4 ?_; exact hQ.1) : p := k ⟨h⟩
theorem W283 {p q : Prop} (h : q) (k : Hd q → p := by intro hQ; refine W240 ?_; refine W241 ?_; exact hQ.1) : p := k ⟨h⟩
theorem W284 {p q : Prop} (h : q) (k : Hd q → p := by intro hQ; refine W264 ?_; refine W249 ?_; exact hQ.1) : p := k ⟨h⟩
theorem W285 {p q : Prop} (h : q) (k : Hd q → p := by intro hQ; refine W15 ?_; refine W2 ?_; exact hQ.1) : p := k ⟨h⟩
theorem W286 {p q : Prop} (h : q) (k : Hd q → p := by intro hQ; refine W276 ?_; refine W272 ?_; exact hQ.1) : p := k ⟨h⟩
theorem W287 {p q : Prop} (h : q) (k : Hd q → p := by intro hQ; refine WA.skipG (i := 23) rfl (by kernel_rfl) (fun _ _ _ h => h) rfl rfl rfl xI rfl (by decide) xT ?_; refine WA.skipG (i := 24) rfl (by kernel_rfl) (fun _ _ _ h => h) rfl rfl rfl xI rfl (by decide) xT ?_; exact hQ.1) : p := k ⟨h⟩
theorem W288 {p q : Prop} (h : q) (k : Hd q → p := by intro hQ; refine WA.skipG (i := 21) rfl (by kernel_rfl) (fun _ _ _ h => h) rfl rfl rfl xI rfl (by decide) xT ?_; refine WA.skipG (i := 22) rfl (by kernel_rfl) (fun _ _ _ h => h) rfl rfl rfl xI rfl (by decide) xT ?_; exact hQ.1) : p := k ⟨h⟩
theorem W289 {p q : Prop} (h : q) (k : Hd q → p := by intro hQ; refine WA.skipG (i := 19) rfl (by kernel_rfl) (fun _ _ _ h => h) rfl rfl rfl xI rfl (by decide) xT ?_; refine WA.skipG (i := 20) rfl (by kernel_rfl) (fun _ _ _ h => h) rfl rfl rfl xI rfl (by decide) xT ?_; exact hQ.1) : p := k ⟨h⟩
theorem W290 {p q : Prop} (h : q) (k : Hd q → p := by intro hQ; refine WA.skipG (i := 17) rfl (by kernel_rfl) (fun _ _ _ h => h) rfl rfl rfl xI rfl (by decide) xT ?_; refine WA.skipG (i := 18) rfl (by kernel_rfl) (fun _ _ _ h => h) rfl rfl rfl xI rfl (by decide) xT ?_; exact hQ.1) : p := k ⟨h⟩
theorem W291 {p q : Prop} (h : q) (k : Hd q → p := by intro hQ; refine W8 ?_; refine W18 ?_; exact hQ.1) : p := k ⟨h⟩
theorem W292 {p q : Prop} (h : q) (k : Hd q → p := by intro hQ; refine wlv (op_fieldAddr fo32_0 (lt_ rfl) rfl) rfl ?_; refine wlv (op_load1 fl5 (lt_ rfl) rfl xM rfl) rfl ?_; exact hQ.1) : p := k ⟨h⟩
theorem W293 {p q : Prop} (h : q) (k : Hd q → p := by intro hQ; refine WC.nilrows true ?_; refine WC.nilslice 30 1 ?_; exact hQ.1) : p := k ⟨h⟩
theorem W294 {p q : Prop} (h : q) (k : Hd q → p := by intro hQ; refine W0 ?_; refine W11 ?_; exact hQ.1) : p := k ⟨h⟩
theorem W295 {p q : Prop} (h : q) (k : Hd q → p := by intro hQ; refine W16 ?_; refine W241 ?_; exact hQ.1) : p := k ⟨h⟩
theorem W296 {p q : Prop} (h : q) (k : Hd q → p := by intro hQ; refine W4 ?_; refine W248 ?_; exact hQ.1) : p := k ⟨h⟩
theorem W297 {p q : Prop} (h : q) (k : Hd q → p := by intro hQ; refine W256 ?_; refine W2 ?_; exact hQ.1) : p := k ⟨h⟩
theorem W298 {p q : Prop} (h : q) (k : Hd q → p := by intro hQ; refine W270 ?_; refine W240 ?_; exact hQ.1) : p := k ⟨h⟩
theorem W299 {p q : Prop} (h : q) (k : Hd q → p := by intro hQ; refine W249 ?_; refine W244 ?_; exact hQ.1) : p := k ⟨h⟩
theorem W300 {p q : Prop} (h : q) (k : Hd q → p := by intro hQ; refine W283 ?_; refine W31 ?_; exact hQ.1) : p := k ⟨h⟩
theorem W301 {p q : Prop} (h : q) (k : Hd q → p := by intro hQ; refine W1 ?_; refine WC.drawnH mo 999 ?_; exact hQ.1) : p := k ⟨h⟩
theorem W302 {p q : Prop} (h : q) (k : Hd q → p := by intro hQ; refine W243 ?_; refine W257 ?_; exact hQ.1) : p := k ⟨h⟩
theorem W303 {p q : Prop} (h : q) (k : Hd q → p := by intro hQ; refine WX.blkEq (b := b10) r2.cells xK (by rfl) ?_; refine WX.blkEq (b := b11) (rjc J3 Ar2 cr2 es2.length) xK (by rfl) ?_; exact hQ.1) : p := k ⟨h⟩
theorem W304 {p q : Prop} (h : q) (k : Hd q → p := by intro hQ; refine W273 ?_; refine W246 ?_; exact hQ.1) : p := k ⟨h⟩
theorem W305 {p q : Prop} (h : q) (k : Hd q → p := by intro hQ; refine W10 ?_; refine W251 ?_; exact hQ.1) : p := k ⟨h⟩
theorem W306 {p q : Prop} (h : q) (k : Hd q → p := by intro hQ; refine wlv (op_load1 fl37 (lt_ rfl) rfl xM rfl) rfl ?_; refine wlv (op_len Tryz.underlying37 (lt_ rfl) rfl) rfl ?_; exact hQ.1) : p := k ⟨h⟩
theorem W307 {p q : Prop} (h : q) (k : Hd q → p := by intro hQ; refine wl (op_storeAll sz198 rfl rfl xK xL xO xL) rfl ?_; refine W252 ?_; exact hQ.1) : p := k ⟨h⟩
theorem W308 {p q : Prop} (h : q) (k : Hd q → p := by intro hQ; refine W18 ?_; refine W0 ?_; exact hQ.1) : p := k ⟨h⟩
theorem W309 {p q : Prop} (h : q) (k : Hd q → p := by intro hQ; refine W3 ?_; refine W4 ?_; exact hQ.1) : p := k ⟨h⟩
theorem W310 {p q : Prop} (h : q) (k : Hd q → p := by intro hQ; refine W269 ?_; refine W241 ?_; exact hQ.1) : p := k ⟨h⟩
theorem W311 {p q : Prop} (h : q) (k : Hd q → p := by intro hQ; refine W249 ?_; refine W260 ?_; exact hQ.1) : p := k ⟨h⟩
theorem W312 {p q : Prop} (h : q) (k : Hd q → p := by intro hQ; refine W240 ?_; refine W265 ?_; exact hQ.1) : p := k ⟨h⟩
theorem W313 {p q : Prop} (h : q) (k : Hd q → p := by intro hQ; refine W17 ?_; refine W2 ?_; exact hQ.1) : p := k ⟨h⟩
theorem W314 {p q : Prop} (h : q) (k : Hd q → p := by intro hQ; refine W259 ?_; refine W244 ?_; exact hQ.1) : p := k ⟨h⟩
theorem W315 {p q : Prop} (h : q) (k : Hd q → p := by intro hQ; refine W9 ?_; refine W246 ?_; exact hQ.1) : p := k ⟨h⟩
theorem W316 {p q : Prop} (h : q) (k : Hd q → p := by intro hQ; refine wlv (op_fieldAddr fo88_0 (lt_ rfl) rfl) rfl ?_; refine W132 ?_; exact hQ.1) : p := k ⟨h⟩
theorem W317 {p q : Prop} (h : q) (k : Hd q → p := by intro hQ; refine wlv (op_fieldAddr fo139_1 (lt_ rfl) rfl) rfl ?_; refine W21 ?_; exact hQ.1) : p := k ⟨h⟩
theorem W318 {p q : Prop} (h : q) (k : Hd q → p := by intro hQ; refine W110 ?_; refine wlv (op_loadS fl5 (lt_ rfl) rfl xS (bvs_at (k := i) (by omega) (by omega))) rfl ?_; exact hQ.1) : p := k ⟨h⟩
theorem W319 {p q : Prop} (h : q) (k : Hd q → p := by intro hQ; refine WX.blkEq (b := b5) (rjc (jrr J.fi k (nextF (1 - J.gen % 2) (seenR r.V J.fi k)) (J.first + (m : Nat)) (1 + needs ((es.drop m).map Bs.s)) (es.drop m).length) q.2.1 q.2.2 (es.drop m).length) xK (by rfl) ?_; refine WX.regs (L' := [(3, _), (4, _), (6, _), (7, _), (9, _), (10, _)]) ?_; exact hQ.1) : p := k ⟨h⟩
theorem W320 {p q : Prop} (h : q) (k : Hd q → p := by intro hQ; refine W255 ?_; refine W257 ?_; exact hQ.1) : p := k ⟨h⟩
theorem W321 {p q : Prop} (h : q) (k : Hd q → p := by intro hQ; refine wlv (op_fieldAddr fo92_0 (lt_ rfl) rfl) rfl ?_; refine W72 ?_; exact hQ.1) : p := k ⟨h⟩
theorem W322 {p q : Prop} (h : q) (k : Hd q → p := by intro hQ; refine W35 ?_; refine W242 ?_; exact hQ.1) : p := k ⟨h⟩
theorem W323 {p q : Prop} (h : q) (k : Hd q → p := by intro hQ; refine W261 ?_; refine W27 ?_; exact hQ.1) : p := k ⟨h⟩
theorem W324 {p q : Prop} (h : q) (k : Hd q → p := by intro hQ; refine W282 ?_; refine wlv (op_eqlnil Tryz.underlying35 (lt_ rfl) rfl rfl) rfl ?_; exact hQ.1) : p := k ⟨h⟩
theorem W325 {p q : Prop} (h : q) (k : Hd q → p := by intro hQ; refine WC.drawn (Hs := [blk b1 r.cells 39, blk b2 (rjc J A c es.length) 41]) mo 999 ?_; refine W70 ?_; exact hQ.1) : p := k ⟨h⟩
theorem W326 {p q : Prop} (h : q) (k : Hd q → p := by intro hQ; refine WA.take (i := 29) rfl (by kernel_rfl) (fun _ _ _ h => h) rfl (op_add (lt_ rfl) rfl rfl (by omega)) xT ?_; refine WA.take (i := 30) rfl (by kernel_rfl) (fun _ _ _ h => h) rfl (op_index Tryz.underlying30 sz5 (lt_ rfl) rfl rfl (by omega) (by omega) (by decide) xS) xT ?_; exact hQ.1) : p := k ⟨h⟩
theorem W327 {p q : Prop} (h : q) (k : Hd q → p := by intro hQ; refine W0 ?_; refine W1 ?_; exact hQ.1) : p := k ⟨h⟩
theorem W328 {p q : Prop} (h : q) (k : Hd q → p := by intro hQ; refine W259 ?_; refine W4 ?_; exact hQ.1) : p := k ⟨h⟩
theorem W329 {p q : Prop} (h : q) (k : Hd q → p := by intro hQ; refine W309 ?_; refine W295 ?_; exact hQ.1) : p := k ⟨h⟩
theorem W330 {p q : Prop} (h : q) (k : Hd q → p := by intro hQ; refine W308 ?_; refine W286 ?_; exact hQ.1) : p := k ⟨h⟩
theorem W331 {p q : Prop} (h : q) (k : Hd q → p := by intro hQ; refine W30 ?_; refine W240 ?_; exact hQ.1) : p := k ⟨h⟩
theorem W332 {p q : Prop} (h : q) (k : Hd q → p := by intro hQ; refine W269 ?_; refine W297 ?_; exact hQ.1) : p := k ⟨h⟩
theorem W333 {p q : Prop} (h : q) (k : Hd q → p := by intro hQ; refine W241 ?_; refine W46 ?_; exact hQ.1) : p := k ⟨h⟩
theorem W334 {p q : Prop} (h : q) (k : Hd q → p := by intro hQ; refine W3 ?_; refine W244 ?_; exact hQ.1) : p := k ⟨h⟩
theorem W335 {p q : Prop} (h : q) (k : Hd q → p := by intro hQ; refine wlv (op_fieldAddr fo123_1 (lt_ rfl) rfl) rfl ?_; refine W21 ?_; exact hQ.1) : p := k ⟨h⟩
theorem W336 {p q : Prop} (h : q) (k : Hd q → p := by intro hQ; refine W273 ?_; refine W9 ?_; exact hQ.1) : p := k ⟨h⟩
theorem W337 {p q : Prop} (h : q) (k : Hd q → p := by intro hQ; refine WA.take (i := 20) rfl (by kernel_rfl) (fun _ _ _ h => h) rfl (op_add (lt_ rfl) rfl rfl (by omega)) xT ?_; refine WA.take (i := 21) rfl (by kernel_rfl) (fun _ _ _ h => h) rfl (op_index Tryz.underlying30 sz5 (lt_ rfl) rfl rfl (by omega) (by omega) (by decide) xS) xT ?_; exact hQ.1) : p := k ⟨h⟩
theorem W338 {p q : Prop} (h : q) (k : Hd q → p := by intro hQ; refine WA.take (i := 3) rfl (by kernel_rfl) (fun _ _ _ h => h) rfl (op_mul (lt_ rfl) rfl rfl (by omega)) xT ?_; refine WA.take (i := 4) rfl (by kernel_rfl) (fun _ _ _ h => h) rfl (op_index Tryz.underlying30 sz5 (lt_ rfl) rfl rfl (by omega) (by omega) (by decide) xS) xT ?_; exact hQ.1) : p := k ⟨h⟩
theorem W339 {p q : Prop} (h : q) (k : Hd q → p := by intro hQ; refine wlgv (op_fieldAddr fo123_4 (lt_ rfl) rfl) rfl rfl rfl ?_; refine W28 ?_; exact hQ.1) : p := k ⟨h⟩
theorem W340 {p q : Prop} (h : q) (k : Hd q → p := by intro hQ; refine WL.dup (c := rd (.slice A M c) 1 M (rs.map Bs.v)) (d := rd (sliced A pos M c 1) 1 (M - pos) ((rs.drop pos).map Bs.v)) xM (by simp) (by simp) (rd_dropR hM (by omega)) ?_; refine WL.dup (c := rowsC false rs) (d := rowsC false (rs.drop pos)) xM rfl rfl rowsC_drop ?_; exact hQ.1) : p := k ⟨h⟩
theorem W341 {p q : Prop} (h : q) (k : Hd q → p := by intro hQ; refine W296 ?_; refine W251 ?_; exact hQ.1) : p := k ⟨h⟩
theorem W342 {p q : Prop} (h : q) (k : Hd q → p := by intro hQ; refine W305 ?_; refine W34 ?_; exact hQ.1) : p := k ⟨h⟩
theorem W343 {p q : Prop} (h : q) (k : Hd q → p := by intro hQ; refine W54 ?_; refine W58 ?_; exact hQ.1) : p := k ⟨h⟩
theorem W344 {p q : Prop} (h : q) (k : Hd q → p := by intro hQ; refine W29 ?_; refine W39 ?_; exact hQ.1) : p := k ⟨h⟩
theorem W345 {p q : Prop} (h : q) (k : Hd q → p := by intro hQ; refine W13 ?_; refine W13 ?_; exact hQ.1) : p := k ⟨h⟩
theorem W346 {p q : Prop} (h : q) (k : Hd q → p := by intro hQ; refine wlgv (op_loadAll ag41 (lt_ rfl) rfl xM xL) rfl rfl rfl ?_; refine wlgx (op_call (f36_spec (changeM D (jn0 3 (k : Int) g f) f es0).2.1 f v12 ⟨by omega, by omega⟩ Ar Ax cr cx es xs (by rw [hes, hxs]) (by omega)) ca36 (lt_ rfl) rfl) rfl rfl rfl ?_; exact hQ.1) : p := k ⟨h⟩
theorem W347 {p q : Prop} (h : q) (k : Hd q → p := by intro hQ; refine WA.take (i := 23) rfl (by kernel_rfl) (fun _ _ _ h => h) rfl (op_conv832 (by kernel_rfl) Tryz.underlying181 (lt_ rfl) rfl) xT ?_; refine WA.take (i := 24) rfl (by kernel_rfl) (fun _ _ _ h => h) rfl (op_shl32 (lt_ rfl) rfl rfl (by decide)) xT ?_; exact hQ.1) : p := k ⟨h⟩
theorem W348 {p q : Prop} (h : q) (k : Hd q → p := by intro hQ; refine WA.take (i := 14) rfl (by kernel_rfl) (fun _ _ _ h => h) rfl (op_conv832 (by kernel_rfl) Tryz.underlying181 (lt_ rfl) rfl) xT ?_; refine WA.take (i := 15) rfl (by kernel_rfl) (fun _ _ _ h => h) rfl (op_shl32 (lt_ rfl) rfl rfl (by decide)) xT ?_; exact hQ.1) : p := k ⟨h⟩
theorem W349 {p q : Prop} (h : q) (k : Hd q → p := by intro hQ; refine WC.drawn (Hs := [blk b1 q.1.cells 39, blk b5 (rjc (jrr J.fi k (nextF (1 - J.gen % 2) (seenR r.V J.fi k)) (J.first + (m : Nat)) (1 + needs ((es.drop m).map Bs.s)) (es.drop m).length) q.2.1 q.2.2 (es.drop m).length) 41]) mo 999 ?_; refine W70 ?_; exact hQ.1) : p := k ⟨h⟩
theorem W350 {p q : Prop} (h : q) (k : Hd q → p := by intro hQ; refine WA.take (i := 6) rfl (by kernel_rfl) (fun _ _ _ h => h) rfl (op_conv832 (by kernel_rfl) Tryz.underlying181 (lt_ rfl) rfl) xT ?_; refine WA.take (i := 7) rfl (by kernel_rfl) (fun _ _ _ h => h) rfl (op_shl32 (lt_ rfl) rfl rfl (by decide)) xT ?_; exact hQ.1) : p := k ⟨h⟩
theorem W351 {p q : Prop} (h : q) (k : Hd q → p := by intro hQ; refine W240 ?_; refine W4 ?_; exact hQ.1) : p := k ⟨h⟩
theorem W352 {p q : Prop} (h : q) (k : Hd q → p := by intro hQ; refine W308 ?_; refine W329 ?_; exact hQ.1) : p := k ⟨h⟩
theorem W353 {p q : Prop} (h : q) (k : Hd q → p := by intro hQ; refine W0 ?_; refine W331 ?_; exact hQ.1) : p := k ⟨h⟩
theorem W354 {p q : Prop} (h : q) (k : Hd q → p := by intro hQ; refine W269 ?_; refine wlv (op_fieldAddr fo41_8 (lt_ rfl) rfl) rfl ?_; exact hQ.1) : p := k ⟨h⟩
theorem W355 {p q : Prop} (h : q) (k : Hd q → p := by intro hQ; refine wlv (op_fieldAddr fo41_5 (lt_ rfl) rfl) rfl ?_; refine W21 ?_; exact hQ.1) : p := k ⟨h⟩
theorem W356 {p q : Prop} (h : q) (k : Hd q → p := by intro hQ; refine W342 ?_; refine W47 ?_; exact hQ.1) : p := k ⟨h⟩
theorem W357 {p q : Prop} (h : q) (k : Hd q → p := by intro hQ; refine WX.regs (L' := [(0, _), (3, _), (4, _), (5, _), (6, _), (7, _), (8, _)]) ?_; refine W327 ?_; exact hQ.1) : p := k ⟨h⟩
theorem W358 {p q : Prop} (h : q) (k : Hd q → p := by intro hQ; refine W241 ?_; refine WX.regs (L' := [(1, _)]) ?_; exact hQ.1) : p := k ⟨h⟩
theorem W359 {p q : Prop} (h : q) (k : Hd q → p := by intro hQ; refine W249 ?_; refine W297 ?_; exact hQ.1) : p := k ⟨h⟩
theorem W360 {p q : Prop} (h : q) (k : Hd q → p := by intro hQ; refine wl (op_storeAll sz183 rfl rfl xK xL xO xL) rfl ?_; refine W252 ?_; exact hQ.1) : p := k ⟨h⟩
theorem W361 {p q : Prop} (h : q) (k : Hd q → p := by intro hQ; refine W4 ?_; refine W13 ?_; exact hQ.1) : p := k ⟨h⟩
theorem W362 {p q : Prop} (h : q) (k : Hd q → p := by intro hQ; refine W0 ?_; refine W30 ?_; exact hQ.1) : p := k ⟨h⟩
theorem xG {p : Prop} (h : p := by apply Give.mk; (repeat (first | exact Takes.nil | exact Take.here | apply Takes.cons | apply Take.there)); repeat (first | exact Reads.nil | (apply Reads.rd; (focus (repeat (first | exact List.Mem.head _ | apply List.Mem.tail)); done)) | (apply Reads.own; (focus (repeat (first | exact List.Mem.head _ | apply List.Mem.tail)); done)) | (apply Reads.rx; (focus (repeat (first | exact List.Mem.head _ | apply List.Mem.tail)); done)) | (apply Reads.rows (e := false); (focus (repeat (first | exact List.Mem.head _ | apply List.Mem.tail)); done)) | (apply Reads.rows (e := true); (focus (repeat (first | exact List.Mem.head _ | apply List.Mem.tail)); done)))) : p := h
theorem xS {p : Prop} (h : p := by first | (apply Src.rd; (repeat (first | exact List.Mem.head _ | apply List.Mem.tail)); done) | (apply Src.own; (repeat (first | exact List.Mem.head _ | apply List.Mem.tail)); done) | (apply Src.rx; (repeat (first | exact List.Mem.head _ | apply List.Mem.tail)); done)) : p := h
theorem xY {p : Prop} (h : p := by repeat (first | exact RS.nil | refine RS.cons (by first | rfl | exact congrArg (fun z : Int => some (Value.int .i64 z)) (by omega)) ?_)) : p := h
theorem xR {p : Prop} (h : p := by repeat (first | exact RS.nil | refine RS.cons rfl ?_)) : p := h
theorem xT {p : Prop} (h : p := by repeat (first | exact Takes.nil | exact Take.here | apply Takes.cons | apply Take.there)) : p := h
theorem xL {p : Prop} (h : p := by first | rfl | (simp [Value.cells]; done) | (simp [Value.cells]; omega)) : p := h
theorem xO {p : Prop} (h : p := by first | rfl | exact wvs_one _ | exact bvs_one _) : p := h
theorem xC {p : Prop} (h : p := by first | rfl | exact congrArg (fun z : Int => some (Value.int .i64 z)) (by omega)) : p := h
theorem xM {p : Prop} (h : p := by repeat (first | exact List.Mem.head _ | apply List.Mem.tail)) : p := h
theorem xK {p : Prop} (h : p := by repeat (first | exact Take.here | apply Take.there)) : p := h
theorem xI {p : Prop} (h : p := by first | exact .inl rfl | exact .inr rfl) : p := h
open Go.RowKit
structure Chg (M : Nat → Prop) (w w' : World) : Prop where
 os : w'.os = w.os
 tape : w'.tape = w.tape
 output : w'.output = w.output
 size : w.heap.size ≤ w'.heap.size
 block : ∀ b, b < w.heap.size → ¬ M b → w'.heap[b]? = w.heap[b]?
theorem Chg.refl (M : Nat → Prop) (w : World) : Chg M w w := ⟨rfl, rfl, rfl, Nat.le_refl _, fun _ _ _ => rfl⟩
theorem Chg.mono {M N : Nat → Prop} {a b : World} (h : Chg M a b) (hs : ∀ i, M i → N i) : Chg N a b :=
 ⟨h.os, h.tape, h.output, h.size, fun i hi hm => h.block i hi (fun hx => hm (hs i hx))⟩
theorem Chg.drew (M : Nat → Prop) (w : World) : Chg M w w.drew := ⟨rfl, rfl, rfl, Nat.le_refl _, fun _ _ _ => rfl⟩
theorem Chg.alloc (M : Nat → Prop) (w : World) (o : Obj) : Chg M w (w.alloc o) :=
 ⟨rfl, rfl, rfl, by simp, fun b hb _ => Below.heap_alloc w o b hb⟩
theorem Chg.setRow (w : World) (g : Nat) (cs : Array Value) : Chg (· = g) w (w.setRow g cs) :=
 ⟨rfl, rfl, rfl, by simp, fun b _ hm => setRow_other w g b cs hm⟩
theorem Chg.grown {w w' : World} {row : Option Nat} (h : w.grownBy w' row) : Chg (fun b => row = some b) w w' :=
 ⟨h.os, h.tape, h.output, h.size, fun b hb hm => h.block b hb (fun e => hm e.symm)⟩
theorem Chg.below {w w' : World} (h : Chg (fun _ => False) w w') : Below w.heap.size w w' :=
 ⟨h.os, h.tape, h.output, h.size, fun k hk => h.block k hk id⟩
structure Ch where
 foot : Nat → Prop
 ex : Bool
 ok : World → Prop
 loc : ∀ w w', ok w → w'.os = w.os → w'.tape = w.tape → w'.output = w.output → w.heap.size ≤ w'.heap.size → (∀ b, foot b → w'.heap[b]? = w.heap[b]?) → ok w'
 inb : ∀ w, ok w → ∀ b, foot b → b < w.heap.size
def Ch.Apart (c d : Ch) : Prop := (c.ex = true ∨ d.ex = true) → ∀ b, c.foot b → ¬ d.foot b
theorem Ch.Apart.symm {c d : Ch} (h : c.Apart d) : d.Apart c := fun hm b hd hc => h hm.symm b hc hd
structure Sat (w : World) (H : List Ch) : Prop where
 ok : ∀ c ∈ H, c.ok w
 apart : H.Pairwise Ch.Apart
theorem Sat.perm {w : World} {H H' : List Ch} (h : Sat w H) (p : H.Perm H') : Sat w H' :=
 ⟨fun c hc => h.ok c (p.mem_iff.2 hc), (p.pairwise_iff (fun hx => hx.symm)).1 h.apart⟩
theorem Sat.sub {w : World} {H H' : List Ch} (h : Sat w H) (p : H'.Sublist H) : Sat w H' :=
 ⟨fun c hc => h.ok c (p.subset hc), h.apart.sublist p⟩
theorem Sat.head {w : World} {c : Ch} {H : List Ch} (h : Sat w (c :: H)) : c.ok w := h.ok c (List.mem_cons_self ..)
theorem Sat.tail {w : World} {c : Ch} {H : List Ch} (h : Sat w (c :: H)) : Sat w H := h.sub (List.sublist_cons_self c H)
theorem Sat.app_left {w : World} {T F : List Ch} (h : Sat w (T ++ F)) : Sat w T := h.sub (List.sublist_append_left T F)
def MutF (T : List Ch) (b : Nat) : Prop := ∃ c ∈ T, c.ex = true ∧ c.foot b
structure Ch.Le (d c : Ch) : Prop where
 ro : d.ex = true → c.ex = true
 foot : ∀ b, d.foot b → c.foot b
 ok : ∀ w, c.ok w → d.ok w
theorem Ch.Le.refl (c : Ch) : c.Le c := ⟨id, fun _ => id, fun _ => id⟩
theorem Sat.frame {w w' : World} {T F B : List Ch} (h : Sat w (T ++ F)) (hB : Sat w' B) (hc : Chg (MutF T) w w')
  (hn : ∀ c ∈ B, ∀ b, c.foot b → w.heap.size ≤ b ∨ MutF T b) : Sat w' (B ++ F) := by
 have hap := List.pairwise_append.1 h.apart
 refine ⟨fun c hm => ?_, ?_⟩
 ·rcases List.mem_append.1 hm with hm | hm
  ·exact hB.ok c hm
  ·refine c.loc w w' (h.ok c (List.mem_append.2 (.inr hm))) hc.os hc.tape hc.output hc.size fun b hb => ?_
   refine hc.block b (c.inb w (h.ok c (List.mem_append.2 (.inr hm))) b hb) ?_
   rintro ⟨t, ht, htm, htf⟩
   exact hap.2.2 t ht c hm (.inl htm) b htf hb
 ·refine List.pairwise_append.2 ⟨hB.apart, hap.2.1, fun c hcB d hd hm b hcf hdf => ?_⟩
  rcases hn c hcB b hcf with hlt | ⟨t, ht, htm, htf⟩
  ·have := d.inb w (h.ok d (List.mem_append.2 (.inr hd))) b hdf
   omega
  ·exact hap.2.2 t ht d hd (.inl htm) b htf hdf
inductive Weak : List Ch → List Ch → Prop
 | nil (H : List Ch) : Weak H []
 | drop {c : Ch} {H H' : List Ch} : Weak H H' → Weak (c :: H) H'
 | keep {c d : Ch} {H H' : List Ch} : d.Le c → Weak H H' → Weak (c :: H) (d :: H')
theorem Weak.mem {H H' : List Ch} (h : Weak H H') : ∀ d ∈ H', ∃ c ∈ H, d.Le c := by
 induction h with
 | nil H => intro d hd; cases hd
 | drop _ ih => intro d hd; obtain ⟨c, hc, hl⟩ := ih d hd; exact ⟨c, List.mem_cons_of_mem _ hc, hl⟩
 | keep hl _ ih =>
  intro d hd
  rcases List.mem_cons.1 hd with rfl | hd
  ·exact ⟨_, List.mem_cons_self .., hl⟩
  ·obtain ⟨c, hc, hl⟩ := ih d hd; exact ⟨c, List.mem_cons_of_mem _ hc, hl⟩
theorem Sat.weak {w : World} {H H' : List Ch} (h : Sat w H) (k : Weak H H') : Sat w H' := by
 induction k with
 | nil H => exact ⟨fun c hc => (by cases hc), .nil⟩
 | drop _ ih => exact ih h.tail
 | @keep c d H H' hl hw ih =>
  have ht := ih h.tail
  refine ⟨fun x hx => ?_, List.pairwise_cons.2 ⟨fun e he hm b hdf hef => ?_, ht.apart⟩⟩
  ·rcases List.mem_cons.1 hx with rfl | hx
   ·exact hl.ok w h.head
   ·exact ht.ok x hx
  ·obtain ⟨c', hc', hl'⟩ := hw.mem e he
   exact (List.pairwise_cons.1 h.apart).1 c' hc' (hm.imp hl.ro hl'.ro) b (hl.foot b hdf) (hl'.foot b hef)
theorem Sat.ros {w : World} {T F D : List Ch} (h : Sat w (T ++ F)) (hd : ∀ d ∈ D, d.ex = false ∧ ∃ c ∈ F, d.Le c) : Sat w (T ++ D) := by
 have hap := List.pairwise_append.1 h.apart
 refine ⟨fun c hm => ?_, List.pairwise_append.2 ⟨hap.1, ?_, fun c hc d hdD hm b hcf hdf => ?_⟩⟩
 ·rcases List.mem_append.1 hm with hm | hm
  ·exact h.ok c (List.mem_append.2 (.inl hm))
  ·obtain ⟨_, f, hf, hl⟩ := hd c hm
   exact hl.ok w (h.ok f (List.mem_append.2 (.inr hf)))
 ·refine List.Pairwise.imp_of_mem ?_ (List.pairwise_of_forall (R := fun _ _ => True) (fun _ _ => trivial))
  intro a b ha hb _ hm
  rcases hm with hm | hm
  ·rw [(hd a ha).1] at hm; cases hm
  ·rw [(hd b hb).1] at hm; cases hm
 ·obtain ⟨hro, f, hf, hl⟩ := hd d hdD
  exact hap.2.2 c hc f hf (hm.imp id (fun h' => by rw [hro] at h'; cases h')) b hcf (hl.foot b hdf)
theorem apart_of_mem {H : List Ch} (h : H.Pairwise Ch.Apart) {c d : Ch} (hc : c ∈ H) (hd : d ∈ H) (hne : c ≠ d) : c.Apart d := by
 induction H with
 | nil => cases hc
 | cons x H ih =>
  obtain ⟨h1, h2⟩ := List.pairwise_cons.1 h
  rcases List.mem_cons.1 hc with e1 | hc' <;> rcases List.mem_cons.1 hd with e2 | hd'
  ·exact absurd (e1.trans e2.symm) hne
  ·rw [e1]; exact h1 d hd'
  ·rw [e2]; exact (h1 c hc').symm
  ·exact ih h2 hc' hd'
theorem Sat.dup {w : World} {H : List Ch} (h : Sat w H) {d : Ch} (hro : d.ex = false) {c : Ch} (hc : c ∈ H) (hcr : c.ex = false) (hl : d.Le c) : Sat w (d :: H) := by
 refine ⟨fun x hx => ?_, List.pairwise_cons.2 ⟨fun e he hm b hdf hef => ?_, h.apart⟩⟩
 ·rcases List.mem_cons.1 hx with rfl | hx
  ·exact hl.ok w (h.ok c hc)
  ·exact h.ok x hx
 ·have hem : e.ex = true := hm.resolve_left (by rw [hro]; decide)
  have hne : c ≠ e := fun e' => by rw [e', hem] at hcr; cases hcr
  exact apart_of_mem h.apart hc he hne (.inr hem) b (hl.foot b hdf) hef
def frameC (w0 : World) (M0 : Nat → Prop) : Ch where
 foot b := b < w0.heap.size ∧ ¬ M0 b
 ex := false
 ok w := Chg M0 w0 w
 loc w w' h ho ht hu hs hb := ⟨ho.trans h.os, ht.trans h.tape, hu.trans h.output, Nat.le_trans h.size hs, fun b hl hm => (hb b ⟨hl, hm⟩).trans (h.block b hl hm)⟩
 inb w h b hb := Nat.lt_of_lt_of_le hb.1 h.size
def blk (g : Nat) (cs : List Value) (t : TypeId) : Ch where
 foot b := b = g
 ex := true
 ok w := w.heap[g]? = some (.cells cs.toArray t (0, 0))
 loc w w' h _ _ _ _ hb := (hb g rfl).trans h
 inb w h b hb := by subst hb; exact (Array.getElem?_eq_some_iff.1 h).1
def own (v : Value) (e : TypeId) (sz n : Nat) (xs : List Value) : Ch where
 foot b := v.ownBlock = some b
 ex := true
 ok w := w.ownsRow 0 e sz v n xs
 loc w w' h _ _ _ _ hb := by
  refine ⟨h.1, ?_⟩
  rcases h.2 with hn | ⟨g, cap, cur, rfl, hb0, hgg, rest⟩
  ·exact .inl hn
  ·exact .inr ⟨g, cap, cur, rfl, hb0, (hb g rfl).trans hgg, rest⟩
 inb w h b hb := (h.lt b hb).2
def rd (v : Value) (sz m : Nat) (xs : List Value) : Ch where
 foot b := 0 < xs.length ∧ v.ownBlock = some b
 ex := false
 ok w := xs.length = m * sz ∧ m ≤ maxLen ∧ ∃ A c, v = .slice A m c ∧ m ≤ c ∧ (0 < xs.length → ∃ b o, A = some ⟨b, o, none⟩ ∧ ∀ j u, xs[j]? = some u → w.cell? ⟨b, o + j, none⟩ = some u)
 loc w w' h _ _ _ _ hb := by
  obtain ⟨h1, h2, A, c, rfl, hc, h3⟩ := h
  refine ⟨h1, h2, A, c, rfl, hc, fun hp => ?_⟩
  obtain ⟨b, o, rfl, h4⟩ := h3 hp
  refine ⟨b, o, rfl, fun j u hu => ?_⟩
  rw [World.cell?_of_block (w := w) (w' := w') (a := ⟨b, o + j, none⟩) (hb _ ⟨hp, rfl⟩)]
  exact h4 j u hu
 inb w h b hb := by
  obtain ⟨h1, h2, A, c, rfl, hc, h3⟩ := h
  obtain ⟨hp, hb⟩ := hb
  obtain ⟨b', o, rfl, h4⟩ := h3 hp
  simp only [Value.ownBlock, Option.some.injEq] at hb
  rw [← hb]
  exact World.block_lt_of_cell? w ⟨b', o + 0, none⟩ (h4 0 _ (List.getElem?_eq_getElem hp))
def get : List (Nat × Value) → Nat → Option Value
 | [], _ => none
 | (e, x) :: l, d => bif Nat.beq e d then some x else get l d
abbrev upd (L : List (Nat × Value)) (d : Nat) (v : Value) : List (Nat × Value) := (d, v) :: L
def keep (ks : List Nat) : List (Nat × Value) → List (Nat × Value)
 | [] => []
 | (e, x) :: l => bif ks.any (Nat.beq e) then (e, x) :: keep ks l else keep ks l
def evr (L : List (Nat × Value)) : Operand → Option Value
 | .tmp t => get L t
 | .const v => some v
 | .global g => some (.pointer (some ⟨g, 0, none⟩))
 | .func f => some (.func (.func f) #[] #[])
theorem get_mem {L : List (Nat × Value)} {d : Nat} {v : Value} (h : get L d = some v) : (d, v) ∈ L := by
 induction L with
 | nil => cases h
 | cons p l ih =>
  obtain ⟨e, x⟩ := p
  simp only [get] at h
  cases hb : Nat.beq e d with
  | true =>
   have : e = d := Nat.eq_of_beq_eq_true hb
   rw [hb] at h
   simp only [cond_true, Option.some.injEq] at h
   rw [this, h]
   exact List.mem_cons_self ..
  | false =>
   rw [hb] at h
   exact List.mem_cons_of_mem _ (ih h)
def uniq : List (Nat × Value) → Bool
 | [] => true
 | (e, _) :: l => !(l.any fun p => Nat.beq p.1 e) && uniq l
structure Fr where
 n : Nat
 ds : List Deferred
theorem lt_ {d m : Nat} (h : Nat.ble (d + 1) m = true) : d < m := Nat.le_of_ble_eq_true h
structure Regs (n : Fr) (L : List (Nat × Value)) (a : Act) : Prop where
 size : a.tmps.size = n.n
 defers : a.defers = n.ds
 get : ∀ d v, get L d = some v → a.tmps[d]? = some v
theorem Regs.eval {n : Fr} {L : List (Nat × Value)} {a : Act} (h : Regs n L a) {x : Operand} {v : Value} (hx : evr L x = some v) : a.eval x = v := by
 cases x with
 | tmp t =>
  have := h.get t v hx
  simp [Act.eval, Array.getD_eq_getD_getElem?, this]
 | const c => simpa [evr, Act.eval] using hx
 | global g => simpa [evr, Act.eval] using hx
 | func f => simpa [evr, Act.eval] using hx
theorem get_upd {L : List (Nat × Value)} {d e : Nat} {v : Value} : get (upd L d v) e = if d = e then some v else get L e := by
 simp only [get]
 by_cases h : d = e
 ·subst h; simp
 ·have : Nat.beq d e = false := by cases hb : Nat.beq d e <;> simp_all [Nat.eq_of_beq_eq_true]
  simp [this, h]
theorem Regs.put {n : Fr} {L : List (Nat × Value)} {a : Act} (h : Regs n L a) {d : Nat} (hd : d < n.n) (v : Value) : Regs n (upd L d v) (a.put (some d) v) := by
 refine ⟨by simp [Act.put, h.size], h.defers, fun e u hu => ?_⟩
 rw [get_upd] at hu
 simp only [Act.put, Array.getElem?_setIfInBounds]
 by_cases hde : d = e
 ·rw [if_pos hde] at hu
  simp only [Option.some.injEq] at hu
  subst hde
  simp [h.size, hd, hu]
 ·rw [if_neg hde] at hu
  simp [hde, h.get e u hu]
structure St (n : Fr) (L : List (Nat × Value)) (H : List Ch) (a : Act) (w : World) : Prop where
 regs : Regs n L a
 sat : Sat w H
theorem St.eval {n : Fr} {L : List (Nat × Value)} {H : List Ch} {a : Act} {w : World} (h : St n L H a w) {x : Operand} {v : Value} (hx : evr L x = some v) : a.eval x = v := h.regs.eval hx
section
variable {P : Program} {Q : Exit → Act → World → Prop} {n : Fr} {L L' : List (Nat × Value)} {H H' : List Ch} {ops : Array Oper} {rest : List Oper} {o : Oper}
def Opn (P : Program) (Q : Exit → Act → World → Prop) (o : Oper) (n : Fr) (L : List (Nat × Value)) (H : List Ch) (Post : Act → World → Prop) : Prop :=
 ∀ a w, St n L H a w → ∀ K : Act → World → Prop, (∀ a' w', Post a' w' → K a' w') → o.wp P a w K Q
def WL (P : Program) (ops : Array Oper) (Q : Exit → Act → World → Prop) (rest : List Oper) (n : Fr) (L : List (Nat × Value)) (H : List Ch) : Prop :=
 ∀ a w, St n L H a w → wpList P ops Q rest a w
def WC (P : Program) (c : Code) (Q : Exit → Act → World → Prop) (n : Fr) (L : List (Nat × Value)) (H : List Ch) : Prop :=
 ∀ a w, St n L H a w → c.wp P Q a w
def WX (Q : Exit → Act → World → Prop) (e : Exit) (n : Fr) (L : List (Nat × Value)) (H : List Ch) : Prop :=
 ∀ a w, St n L H a w → Q e a w
theorem wl {Post : Act → World → Prop} (ho : Opn P Q o n L H Post) (hg : o.guard = none) (h : ∀ a w, Post a w → wpList P ops Q rest a w) : WL P ops Q (o :: rest) n L H :=
 fun a w hs => wpList_plain hg fun K hK => ho a w hs K (fun a' w' hp => hK a' w' (h a' w' hp))
structure Val (P : Program) (o : Oper) (n : Fr) (L : List (Nat × Value)) (H : List Ch) (d : Nat) (v : Value) : Prop where
 dst : o.dst = some d
 lt : d < n.n
 run : ∀ a w, St n L H a w → (execOp a.eval o).run P w = .ok (.value v) w
theorem Val.opn {d : Nat} {v : Value} (h : Val P o n L H d v) : Opn P Q o n L H (St n (upd L d v) H) := by
 intro a w hs K hK
 unfold Oper.wp
 rw [h.run a w hs, Oper.upon_value, h.dst]
 exact hK _ _ ⟨hs.regs.put h.lt v, hs.sat⟩
theorem wlv {d : Nat} {v : Value} (hv : Val P o n L H d v) (hg : o.guard = none) (h : WL P ops Q rest n (upd L d v) H) : WL P ops Q (o :: rest) n L H := wl hv.opn hg h
end
end Go.Proofs.YtkjlbedebmffgaaGreat.Sx
namespace Go.Proofs.YtkjlbedebmffgaaGreat.Sx
open Go.RowKit
inductive Take : List Ch → Ch → List Ch → Prop
 | here {c : Ch} {H : List Ch} : Take (c :: H) c H
 | there {x c : Ch} {H F : List Ch} : Take H c F → Take (x :: H) c (x :: F)
theorem Take.perm {H F : List Ch} {c : Ch} (h : Take H c F) : H.Perm (c :: F) := by
 induction h with
 | here => exact .refl _
 | there _ ih => exact (ih.cons _).trans (List.Perm.swap ..)
inductive Takes : List Ch → List Ch → List Ch → Prop
 | nil {H : List Ch} : Takes H [] H
 | cons {H G F T : List Ch} {c : Ch} : Take H c G → Takes G T F → Takes H (c :: T) F
theorem Takes.perm {H F T : List Ch} (h : Takes H T F) : H.Perm (T ++ F) := by
 induction h with
 | nil => exact .refl _
 | cons h1 _ ih => exact h1.perm.trans (ih.cons _)
theorem Sat.takes {w : World} {H T F : List Ch} (h : Sat w H) (k : Takes H T F) : Sat w (T ++ F) := h.perm k.perm
theorem Sat.only {w : World} {H T F : List Ch} (h : Sat w H) (k : Takes H T F) : Sat w T := (h.takes k).app_left
inductive Reads (F : List Ch) : List Ch → Prop
 | nil : Reads F []
 | cons {c d : Ch} {D : List Ch} : c ∈ F → d.ex = false → d.Le c → Reads F D → Reads F (d :: D)
theorem Reads.all {F D : List Ch} (h : Reads F D) : ∀ d ∈ D, d.ex = false ∧ ∃ c ∈ F, d.Le c := by
 induction h with
 | nil => intro d hd; cases hd
 | cons hc he hl _ ih =>
  intro d hd
  rcases List.mem_cons.1 hd with rfl | hd
  ·exact ⟨he, _, hc, hl⟩
  ·exact ih d hd
theorem Sat.swap {w w' : World} {H F : List Ch} {c c' : Ch} (h : Sat w H) (k : Take H c F) (hex : c.ex = true) (hok : c'.ok w') (hc : Chg c.foot w w')
  (hf : ∀ b, c'.foot b → w.heap.size ≤ b ∨ c.foot b) : Sat w' (c' :: F) := by
 have h1 : Sat w ([c] ++ F) := h.perm k.perm
 refine h1.frame (B := [c']) ⟨fun x hx => by rw [List.mem_singleton.1 hx]; exact hok, List.pairwise_singleton ..⟩ (hc.mono fun i hi => ⟨c, List.mem_cons_self .., hex, hi⟩) ?_
 intro x hx b hb
 rw [List.mem_singleton.1 hx] at hb
 exact (hf b hb).imp id fun hb => ⟨c, List.mem_cons_self .., hex, hb⟩
theorem Sat.grow {w w' : World} {H : List Ch} {c : Ch} (h : Sat w H) (hok : c.ok w') (hc : Chg (fun _ => False) w w') (hf : ∀ b, c.foot b → w.heap.size ≤ b) : Sat w' (c :: H) := by
 have h1 : Sat w ([] ++ H) := h
 refine h1.frame (B := [c]) ⟨fun x hx => by rw [List.mem_singleton.1 hx]; exact hok, List.pairwise_singleton ..⟩ (hc.mono fun i hi => hi.elim) ?_
 intro x hx b hb
 rw [List.mem_singleton.1 hx] at hb
 exact .inl (hf b hb)
theorem Sat.chg {w w' : World} {H : List Ch} (h : Sat w H) (hc : Chg (fun _ => False) w w') : Sat w' H := by
 have h1 : Sat w ([] ++ H) := h
 have := h1.frame (B := []) ⟨fun x hx => (by cases hx), List.Pairwise.nil⟩ (hc.mono fun i hi => hi.elim) (fun c hc => by cases hc)
 exact this
def TInf (P : Program) (t : TypeId) (sz bytes : Nat) (zero : List Value) : Prop :=
 (P.info? t).map (fun i => (i.size, i.bytes, i.zero.map (·.cells.toList))) = some (sz, bytes, some zero)
theorem TInf.open {P : Program} {t : TypeId} {sz bytes : Nat} {zero : List Value} (h : TInf P t sz bytes zero) :
  ∃ i z, P.info? t = some i ∧ i.size = sz ∧ i.bytes = bytes ∧ i.zero = some z ∧ z.cells.toList = zero := by
 obtain ⟨i, hi, hq⟩ := Option.map_eq_some_iff.1 h
 simp only [Prod.mk.injEq, Option.map_eq_some_iff] at hq
 obtain ⟨h1, h2, z, h3, h4⟩ := hq
 exact ⟨i, z, hi, h1, h2, h3, h4⟩
def aggD : TypeDesc → Bool
 | .struct _ | .array _ _ => true
 | _ => false
structure Flat (P : Program) (t : TypeId) : Prop where
 u : ∃ d, P.underlying t = some d ∧ aggD d = false
structure Agg (P : Program) (t : TypeId) (sz : Nat) : Prop where
 u : ∃ d, P.underlying t = some d ∧ aggD d = true
 i : (P.info? t).map (·.size) = some sz
theorem Flat.mk' {P : Program} {t : TypeId} {d : TypeDesc} (h : P.underlying t = some d) (hd : aggD d = false) : Flat P t := ⟨⟨d, h, hd⟩⟩
theorem Agg.mk' {P : Program} {t : TypeId} {sz : Nat} {d : TypeDesc} (h : P.underlying t = some d) (hd : aggD d = true) (hi : (P.info? t).map (·.size) = some sz) : Agg P t sz := ⟨⟨d, h, hd⟩, hi⟩
theorem Flat.isAgg {P : Program} {t : TypeId} (h : Flat P t) (w : World) : (isAgg t).run P w = .ok false w := by
 obtain ⟨d, hu, hd⟩ := h.u
 unfold Go.isAgg
 rw [Sem.run_bind, run_underlying hu w]
 cases d <;> simp_all [aggD]
theorem Agg.isAgg {P : Program} {t : TypeId} {sz : Nat} (h : Agg P t sz) (w : World) : (isAgg t).run P w = .ok true w := by
 obtain ⟨d, hu, hd⟩ := h.u
 unfold Go.isAgg
 rw [Sem.run_bind, run_underlying hu w]
 cases d <;> simp_all [aggD]
theorem run_sizeOf {P : Program} {t : TypeId} {sz : Nat} (h : (P.info? t).map (·.size) = some sz) (w : World) : (sizeOf t).run P w = .ok sz w := by
 obtain ⟨i, hi, hs⟩ := Option.map_eq_some_iff.1 h
 simp [sizeOf, typeInfo, hi, hs]
theorem add_block (a : Addr) (n : Nat) : (a.add n).block = a.block := by unfold Addr.add; split <;> rfl
theorem run_load1 {P : Program} {t : TypeId} (h : Flat P t) {a : Addr} {v : Value} {w : World} (hc : w.cell? a = some v) : (loadVar t a).run P w = .ok v w := by
 unfold loadVar
 rw [Sem.run_bind, h.isAgg w]
 simp [Result.andThen, hc]
theorem run_loadN {P : Program} {t : TypeId} {sz : Nat} (h : Agg P t sz) {a : Addr} {vs : List Value} {w : World} (hl : vs.length = sz) (hc : ∀ j v, vs[j]? = some v → w.cell? (a.add j) = some v) :
  (loadVar t a).run P w = .ok (.agg vs.toArray) w := by
 have hcells := run_loadCells_list (P := P) w a vs hc
 unfold loadVar
 rw [Sem.run_bind, h.isAgg w]
 simp [Result.andThen, Sem.run_bind, run_sizeOf h.i w, ← hl, hcells]
def FOff (P : Program) (s : TypeId) (f off : Nat) : Prop := ∀ (a : Addr) (w : World), a.spot = none → (Instr.fieldAt s (.pointer (some a)) f).run P w = .ok (.pointer (some ⟨a.block, a.off + off, none⟩)) w
theorem FOff.mk' {P : Program} {s : TypeId} {f off : Nat} {fs : Array Field} {fl : Field} (hu : P.underlying s = some (.struct fs)) (hf : fs[f]? = some fl) (ho : fl.offset = off)
  (hz : (P.info? fl.type).map (fun i => decide (i.size = 0)) = some false) : FOff P s f off := by
 intro a w hsp
 obtain ⟨i, hi, hs⟩ := Option.map_eq_some_iff.1 hz
 have hs' : ¬ i.size = 0 := by simpa using hs
 have he : a.add off = ⟨a.block, a.off + off, none⟩ := by
  unfold Addr.add
  split
  ·rename_i h0; subst h0; cases a; simp_all
  ·rfl
 simp [Instr.fieldAt, Sem.run_bind, run_underlying hu, hf, Instr.sureAddr, fieldPlace, sizeOf, typeInfo, hi, hs', ho, he]
section
variable {P : Program} {Q : Exit → Act → World → Prop} {n : Fr} {L L' : List (Nat × Value)} {H H' F : List Ch} {ops : Array Oper} {rest : List Oper} {o : Oper}
variable {d : Nat} {ty : TypeId} {pos : String} {af : Array Edge} {g : Option (Nat × Bool)} {x y z : Operand} {v u : Value}
theorem op_move (hn : d < n.n) (hx : evr L x = some v) : Val P ⟨some d, .move x, ty, pos, af, g⟩ n L H d (v) :=
 Val.mk rfl hn fun a w hs => by simp [execOp, hs.eval hx]
theorem op_assign (hn : d < n.n) (hx : evr L x = some v) : Val P ⟨some d, .assign x, ty, pos, af, g⟩ n L H d (v) :=
 Val.mk rfl hn fun a w hs => by simp [execOp, hs.eval hx]
theorem op_pickT (hn : d < n.n) (hc : evr L z = some (.bool true)) (hx : evr L x = some v) : Val P ⟨some d, .pick z x y, ty, pos, af, g⟩ n L H d (v) :=
 Val.mk rfl hn fun a w hs => by simp [execOp, hs.eval hx, hs.eval hc, asBool]
theorem op_pickF (hn : d < n.n) (hc : evr L z = some (.bool false)) (hx : evr L y = some v) : Val P ⟨some d, .pick z x y, ty, pos, af, g⟩ n L H d (v) :=
 Val.mk rfl hn fun a w hs => by simp [execOp, hs.eval hx, hs.eval hc, asBool]
theorem op_extract {vs : Array Value} {i : Nat} (hn : d < n.n) (hx : evr L x = some (.tuple vs)) (hi : vs[i]? = some v) : Val P ⟨some d, .extract x i, ty, pos, af, g⟩ n L H d (v) :=
 Val.mk rfl hn fun a w hs => by simp [execOp, hs.eval hx, Instr.extract, hi]
theorem op_nilCheck {a0 : Addr} (hn : d < n.n) (hx : evr L x = some (.pointer (some a0))) : Val P ⟨some d, .nilCheck x, ty, pos, af, g⟩ n L H d ((.pointer (some a0))) :=
 Val.mk rfl hn fun a w hs => by simp [execOp, hs.eval hx]
theorem op_fieldAddr {s : TypeId} {f off b k : Nat} (hf : FOff P s f off) (hn : d < n.n) (hx : evr L x = some (.pointer (some ⟨b, k, none⟩))) :
  Val P ⟨some d, .fieldAddr s x f, ty, pos, af, g⟩ n L H d ((.pointer (some ⟨b, k + off, none⟩))) :=
 Val.mk rfl hn fun a w hs => by simp [execOp, hs.eval hx, hf _ w]
section
variable {k : IntKind} {a b : Int} {xt yt : TypeId}
theorem binop_val {op : BinOp} (hn : d < n.n) (hx : evr L x = some v) (hy : evr L y = some u) {r : Value} (hg : ∀ X Y, eqGuard op xt X Y v u = pure ()) (hr : ∀ w, (binOp op xt v u).run P w = .ok r w) :
  Val P ⟨some d, .binOp op xt x y yt, ty, pos, af, g⟩ n L H d (r) :=
 Val.mk rfl hn fun a w hs => by simp [execOp, hs.eval hx, hs.eval hy, hg, hr]
theorem op_add (hn : d < n.n) (hx : evr L x = some (.int .i64 a)) (hy : evr L y = some (.int .i64 b)) (hr : -9223372036854775808 ≤ a + b ∧ a + b < 9223372036854775808) :
  Val P ⟨some d, .binOp .add xt x y yt, ty, pos, af, g⟩ n L H d ((.int .i64 (a + b))) :=
 binop_val hn hx hy (fun _ _ => rfl) fun w => by simp [binOp, Op.intArith, IntKind.wrap_i64]; omega
theorem op_sub (hn : d < n.n) (hx : evr L x = some (.int .i64 a)) (hy : evr L y = some (.int .i64 b)) (hr : -9223372036854775808 ≤ a - b ∧ a - b < 9223372036854775808) :
  Val P ⟨some d, .binOp .sub xt x y yt, ty, pos, af, g⟩ n L H d ((.int .i64 (a - b))) :=
 binop_val hn hx hy (fun _ _ => rfl) fun w => by simp [binOp, Op.intArith, IntKind.wrap_i64]; omega
theorem op_mul (hn : d < n.n) (hx : evr L x = some (.int .i64 a)) (hy : evr L y = some (.int .i64 b)) (hr : -9223372036854775808 ≤ a * b ∧ a * b < 9223372036854775808) :
  Val P ⟨some d, .binOp .mul xt x y yt, ty, pos, af, g⟩ n L H d ((.int .i64 (a * b))) :=
 binop_val hn hx hy (fun _ _ => rfl) fun w => by simp [binOp, Op.intArith, IntKind.wrap_i64]; omega
theorem op_quo (hn : d < n.n) (hx : evr L x = some (.int .i64 a)) (hy : evr L y = some (.int .i64 b)) (h0 : 0 < b) (ha : 0 ≤ a ∧ a < 9223372036854775808) :
  Val P ⟨some d, .binOp .quo xt x y yt, ty, pos, af, g⟩ n L H d ((.int .i64 (a / b))) :=
 binop_val hn hx hy (fun _ _ => rfl) fun w => by
  have h1 : ¬ b = 0 := by omega
  have h2 : a.tdiv b = a / b := Int.tdiv_eq_ediv_of_nonneg ha.1
  have h3 : 0 ≤ a / b := Int.ediv_nonneg ha.1 (by omega)
  have h4 : a / b ≤ a := Int.ediv_le_self _ ha.1
  simp [binOp, Op.intDiv, h1, h2, IntKind.wrap_i64]; omega
theorem op_rem (hn : d < n.n) (hx : evr L x = some (.int k a)) (hy : evr L y = some (.int k b)) (h0 : 0 < b) (ha : 0 ≤ a) :
  Val P ⟨some d, .binOp .rem xt x y yt, ty, pos, af, g⟩ n L H d ((.int k (a % b))) :=
 binop_val hn hx hy (fun _ _ => by rfl) fun w => by
  have h1 : ¬ b = 0 := by omega
  have h2 : a.tmod b = a % b := Int.tmod_eq_emod_of_nonneg ha
  cases k <;> simp [binOp, Op.intDiv, h1, h2]
theorem op_lss (hn : d < n.n) (hx : evr L x = some (.int k a)) (hy : evr L y = some (.int k b)) :
  Val P ⟨some d, .binOp .lss xt x y yt, ty, pos, af, g⟩ n L H d ((.bool (decide (a < b)))) :=
 binop_val hn hx hy (fun _ _ => rfl) fun w => by rw [binOp_lss]; rfl
theorem op_leq (hn : d < n.n) (hx : evr L x = some (.int k a)) (hy : evr L y = some (.int k b)) :
  Val P ⟨some d, .binOp .leq xt x y yt, ty, pos, af, g⟩ n L H d ((.bool (decide (a ≤ b)))) :=
 binop_val hn hx hy (fun _ _ => rfl) fun w => by rw [binOp_leq]; rfl
theorem op_gtr (hn : d < n.n) (hx : evr L x = some (.int k a)) (hy : evr L y = some (.int k b)) :
  Val P ⟨some d, .binOp .gtr xt x y yt, ty, pos, af, g⟩ n L H d ((.bool (decide (b < a)))) :=
 binop_val hn hx hy (fun _ _ => rfl) fun w => by rw [binOp_gtr]; rfl
theorem op_geq (hn : d < n.n) (hx : evr L x = some (.int k a)) (hy : evr L y = some (.int k b)) :
  Val P ⟨some d, .binOp .geq xt x y yt, ty, pos, af, g⟩ n L H d ((.bool (decide (b ≤ a)))) :=
 binop_val hn hx hy (fun _ _ => rfl) fun w => by rw [binOp_geq]; rfl
theorem op_eql (hn : d < n.n) (hx : evr L x = some (.int k a)) (hy : evr L y = some (.int k b)) :
  Val P ⟨some d, .binOp .eql xt x y yt, ty, pos, af, g⟩ n L H d ((.bool (decide (a = b)))) :=
 binop_val hn hx hy (fun _ _ => rfl) fun w => by rw [binOp_eql]; rfl
theorem op_neq (hn : d < n.n) (hx : evr L x = some (.int k a)) (hy : evr L y = some (.int k b)) :
  Val P ⟨some d, .binOp .neq xt x y yt, ty, pos, af, g⟩ n L H d ((.bool (decide (¬ a = b)))) :=
 binop_val hn hx hy (fun _ _ => rfl) fun w => by
  have : (a != b) = decide (¬ a = b) := by by_cases h : a = b <;> simp [h]
  rw [binOp_neq, this]; rfl
theorem op_not {p : Bool} (hn : d < n.n) (hx : evr L x = some (.bool p)) : Val P ⟨some d, .unOp .not xt x, ty, pos, af, g⟩ n L H d ((.bool (!p))) :=
 Val.mk rfl hn fun a w hs => by simp [execOp, hs.eval hx, Op.unary]
theorem op_notp {p : Prop} [Decidable p] (hn : d < n.n) (hx : evr L x = some (.bool (decide p))) : Val P ⟨some d, .unOp .not xt x, ty, pos, af, g⟩ n L H d ((.bool (decide (¬ p)))) :=
 Val.mk rfl hn fun a w hs => by simp [execOp, hs.eval hx, Op.unary]
theorem op_neg (hn : d < n.n) (hx : evr L x = some (.int .i64 a)) (hr : -9223372036854775808 < a ∧ a < 9223372036854775808) : Val P ⟨some d, .unOp .neg xt x, ty, pos, af, g⟩ n L H d ((.int .i64 (- a))) :=
 Val.mk rfl hn fun a w hs => by simp [execOp, hs.eval hx, Op.unary, Op.intArith, IntKind.wrap_i64]; omega
theorem op_conv {src dst : TypeId} {k' : IntKind} (hs : (P.underlying src).isSome = true) (hd : P.underlying dst = some (.int k')) (hn : d < n.n) (hx : evr L x = some (.int k a)) :
  Val P ⟨some d, .convert src dst x, ty, pos, af, g⟩ n L H d ((.int k' (k'.wrap a))) :=
 Val.mk rfl hn fun a w hst => by
  obtain ⟨ds, hs'⟩ := Option.isSome_iff_exists.1 hs
  simp [execOp, hst.eval hx, convert, Sem.run_bind, run_underlying hs', run_underlying hd, Conv.intToInt]
end
end
end Go.Proofs.YtkjlbedebmffgaaGreat.Sx
