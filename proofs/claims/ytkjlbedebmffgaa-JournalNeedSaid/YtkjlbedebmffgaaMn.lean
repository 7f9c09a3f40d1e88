import Derived.Test.YtkjlbedebmffgaaMh
set_option linter.unusedVariables false
set_option linter.unusedSimpArgs false
namespace Go.Proofs.Ytkjlbedebmffgaa.Sx
open Go.RowKit Go.Proofs.Ytkjlbedebmffgaa.Ty
attribute [local irreducible] blk own rd rx frameC
set_option maxHeartbeats 400000 in
set_option maxRecDepth 10000 in
theorem f5_spec (n : Int) : Spec Try.prog 5 [.int .i64 n] [] [] (R := Bool) (fun b => b = true) (fun b => .bool b) (fun _ => []) := by
  refine Spec.intro Try.func5 Try.ntmps5 rfl (by simp) (by simp) fun w0 => ?_
  refine WC.seq ?_
  refine WC.region ?_
  refine wlv (op_assign (lt_ rfl) rfl) rfl ?_
  refine WL.nil ?_
  refine WX.regs (L' := [(0, _)]) (by repeat (first | exact RS.nil | refine RS.cons rfl ?_)) ?_
  refine WX.next ?_
  refine WC.seq ?_
  refine WC.seq ?_
  refine WC.region ?_
  refine wlx (op_call (f9_spec) ca9 (lt_ rfl) rfl (by apply Give.mk; (repeat (first | exact Takes.nil | exact Take.here | apply Takes.cons | apply Take.there)); repeat (first | exact Reads.nil | (apply Reads.rd; (focus (repeat (first | exact List.Mem.head _ | apply List.Mem.tail)); done)) | (apply Reads.own; (focus (repeat (first | exact List.Mem.head _ | apply List.Mem.tail)); done)) | (apply Reads.rx; (focus (repeat (first | exact List.Mem.head _ | apply List.Mem.tail)); done)) | (apply Reads.rows (e := false); (focus (repeat (first | exact List.Mem.head _ | apply List.Mem.tail)); done)) | (apply Reads.rows (e := true); (focus (repeat (first | exact List.Mem.head _ | apply List.Mem.tail)); done))))) rfl ?_
  rintro _ _
  refine wlv (op_not (lt_ rfl) rfl) rfl ?_
  refine WL.nil ?_
  refine WX.regs (L' := [(0, _), (6, _)]) (by repeat (first | exact RS.nil | refine RS.cons rfl ?_)) ?_
  refine WX.next ?_
  refine WC.condF rfl ?_
  refine WC.skip ?_
  refine WX.next ?_
  refine WC.seq ?_
  refine WC.region ?_
  refine wlv (op_move (lt_ rfl) rfl) rfl ?_
  refine wlx (op_call (f25_spec n) ca25 (lt_ rfl) rfl (by apply Give.mk; (repeat (first | exact Takes.nil | exact Take.here | apply Takes.cons | apply Take.there)); repeat (first | exact Reads.nil | (apply Reads.rd; (focus (repeat (first | exact List.Mem.head _ | apply List.Mem.tail)); done)) | (apply Reads.own; (focus (repeat (first | exact List.Mem.head _ | apply List.Mem.tail)); done)) | (apply Reads.rx; (focus (repeat (first | exact List.Mem.head _ | apply List.Mem.tail)); done)) | (apply Reads.rows (e := false); (focus (repeat (first | exact List.Mem.head _ | apply List.Mem.tail)); done)) | (apply Reads.rows (e := true); (focus (repeat (first | exact List.Mem.head _ | apply List.Mem.tail)); done))))) rfl ?_
  rintro ⟨q1, q2⟩ hq
  dsimp only
  refine wlv (op_move (lt_ rfl) rfl) rfl ?_
  refine wlv (op_extract (lt_ rfl) rfl rfl) rfl ?_
  refine wlv (op_extract (lt_ rfl) rfl rfl) rfl ?_
  refine wlv (op_assign (lt_ rfl) rfl) rfl ?_
  refine wlv (op_assign (lt_ rfl) rfl) rfl ?_
  refine WL.nil ?_
  refine WX.regs (L' := [(0, _), (3, _), (4, _)]) (by repeat (first | exact RS.nil | refine RS.cons rfl ?_)) ?_
  refine WX.next ?_
  refine WC.seq ?_
  refine WC.seq ?_
  refine WC.region ?_
  refine wlv (op_move (lt_ rfl) rfl) rfl ?_
  refine wlv (op_lss (lt_ rfl) rfl rfl) rfl ?_
  refine wlv (op_move (lt_ rfl) rfl) rfl ?_
  refine WL.split (t := 14) rfl (fun g14 => ?_) (fun g14 => ?_)
  ·
    refine wlg_no rfl rfl rfl rfl rfl (by decide) ?_
    refine wlg_no rfl rfl rfl rfl rfl (by decide) ?_
    refine wlv (op_pickT (lt_ rfl) rfl rfl) rfl ?_
    refine WL.nil ?_
    refine WX.regs (L' := [(0, _), (3, _), (4, _), (17, _)]) (by repeat (first | exact RS.nil | refine RS.cons rfl ?_)) ?_
    refine WX.next ?_
    refine WC.condT rfl ?_
    refine WC.seq ?_
    refine WC.region ?_
    refine wlv (op_move (lt_ rfl) rfl) rfl ?_
    refine wlv (op_eql (lt_ rfl) rfl rfl) rfl ?_
    refine wlv (op_move (lt_ rfl) rfl) rfl ?_
    refine WL.split (t := 20) rfl (fun g20 => ?_) (fun g20 => ?_)
    ·
      rw [if_neg (by omega), Prod.mk.injEq] at hq
      refine wlgv (op_move (lt_ rfl) rfl) rfl rfl rfl ?_
      refine wlgv (op_eql (lt_ rfl) rfl rfl) rfl rfl rfl ?_
      refine wlv (op_pickT (lt_ rfl) rfl rfl) rfl ?_
      refine wlv (op_assign (lt_ rfl) rfl) rfl ?_
      refine WL.nil ?_
      refine WX.regs (L' := [(2, _)]) (by repeat (first | exact RS.nil | refine RS.cons rfl ?_)) ?_
      refine WX.next ?_
      refine WC.ret ?_
      refine WX.then_ret ?_
      exact Fin.ret1 (by first | exact .inl rfl | exact .inr rfl) (_) (decide_eq_true (by omega)) Try.results5 (.tmp rfl) (by repeat (first | exact Takes.nil | exact Take.here | apply Takes.cons | apply Take.there)) (by simp)
    ·
      rw [if_neg (by omega), Prod.mk.injEq] at hq
      omega
  ·
    refine wlgv (op_move (lt_ rfl) rfl) rfl rfl rfl ?_
    refine wlgv (op_gtr (lt_ rfl) rfl rfl) rfl rfl rfl ?_
    refine wlv (op_pickF (lt_ rfl) rfl rfl) rfl ?_
    refine WL.nil ?_
    refine WX.regs (L' := [(0, _), (3, _), (4, _), (17, _)]) (by repeat (first | exact RS.nil | refine RS.cons rfl ?_)) ?_
    refine WX.next ?_
    refine WC.cond rfl (fun h2 => ?_) (fun h2 => ?_)
    ·
      refine WC.seq ?_
      refine WC.region ?_
      refine wlv (op_move (lt_ rfl) rfl) rfl ?_
      refine wlv (op_eql (lt_ rfl) rfl rfl) rfl ?_
      refine wlv (op_move (lt_ rfl) rfl) rfl ?_
      refine WL.split (t := 20) rfl (fun g20 => ?_) (fun g20 => ?_)
      ·
        rw [if_neg (by omega), Prod.mk.injEq] at hq
        refine wlgv (op_move (lt_ rfl) rfl) rfl rfl rfl ?_
        refine wlgv (op_eql (lt_ rfl) rfl rfl) rfl rfl rfl ?_
        refine wlv (op_pickT (lt_ rfl) rfl rfl) rfl ?_
        refine wlv (op_assign (lt_ rfl) rfl) rfl ?_
        refine WL.nil ?_
        refine WX.regs (L' := [(2, _)]) (by repeat (first | exact RS.nil | refine RS.cons rfl ?_)) ?_
        refine WX.next ?_
        refine WC.ret ?_
        refine WX.then_ret ?_
        exact Fin.ret1 (by first | exact .inl rfl | exact .inr rfl) (_) (decide_eq_true (by omega)) Try.results5 (.tmp rfl) (by repeat (first | exact Takes.nil | exact Take.here | apply Takes.cons | apply Take.there)) (by simp)
      ·
        rw [if_neg (by omega), Prod.mk.injEq] at hq
        omega
    ·
      refine WC.skip ?_
      refine WX.next ?_
      refine WC.seq ?_
      refine WC.region ?_
      refine wlv (op_move (lt_ rfl) rfl) rfl ?_
      refine wlv (op_eql (lt_ rfl) rfl rfl) rfl ?_
      refine wlv (op_move (lt_ rfl) rfl) rfl ?_
      refine WL.split (t := 26) rfl (fun g26 => ?_) (fun g26 => ?_)
      ·
        rw [if_pos (by omega), Prod.mk.injEq] at hq
        refine wlgv (op_move (lt_ rfl) rfl) rfl rfl rfl ?_
        refine wlgv (op_move (lt_ rfl) rfl) rfl rfl rfl ?_
        refine wlgv (op_add (lt_ rfl) rfl rfl (by omega)) rfl rfl rfl ?_
        refine wlgv (op_quo (lt_ rfl) rfl rfl (by omega) (by omega)) rfl rfl rfl ?_
        refine wlgv (op_max (t := 0) (lt_ rfl) rfl rfl) rfl rfl rfl ?_
        refine wlgv (op_eql (lt_ rfl) rfl rfl) rfl rfl rfl ?_
        refine wlv (op_pickT (lt_ rfl) rfl rfl) rfl ?_
        refine wlv (op_assign (lt_ rfl) rfl) rfl ?_
        refine WL.nil ?_
        refine WX.regs (L' := [(2, _)]) (by repeat (first | exact RS.nil | refine RS.cons rfl ?_)) ?_
        refine WX.next ?_
        refine WC.ret ?_
        exact Fin.ret1 (by first | exact .inl rfl | exact .inr rfl) (_) (decide_eq_true (by have h := hq.1; unfold need at h; omega)) Try.results5 (.tmp rfl) (by repeat (first | exact Takes.nil | exact Take.here | apply Takes.cons | apply Take.there)) (by simp)
      ·
        rw [if_pos (by omega), Prod.mk.injEq] at hq
        omega
end Go.Proofs.Ytkjlbedebmffgaa.Sx

