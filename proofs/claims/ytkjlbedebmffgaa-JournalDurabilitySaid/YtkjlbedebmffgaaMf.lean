import Derived.Test.YtkjlbedebmffgaaMe
set_option linter.unusedVariables false
set_option linter.unusedSimpArgs false
namespace Go.Proofs.Ytkjlbedebmffgaa.Sx
open Go.RowKit Go.Proofs.Ytkjlbedebmffgaa.Ty
attribute [local irreducible] blk own rd rx frameC

def Dk.check (D : Dk) (fi se : Int) : Int := if fi < 0 ∨ se < 8 ∨ se > D.n ∨ fi > D.n - se then 2 else if D.down then 28 else 0
/-- Sectors as they are seen. -/
def Dk.seen (D : Dk) (a : Int) (k : Nat) : List (List UInt8) := (List.range k).map fun i : Nat => (D.vis (a + i)).s
theorem seen_succ (D : Dk) (a : Int) (k : Nat) : D.seen a (k + 1) = D.seen a k ++ [(D.vis (a + k)).s] := by simp [Dk.seen, List.range_succ]
/-- Sectors are written one after the other. -/
def putM : Dk → Int → List (List UInt8) → Dk × Int
  | D, _, [] => (D, 0)
  | D, a, s :: ss => if (D.write a s).2 = 0 then putM (D.write a s).1 (a + 1) ss else D.write a s
theorem putM_app {D : Dk} {a : Int} {ss ts : List (List UInt8)} : putM D a (ss ++ ts) = if (putM D a ss).2 = 0 then putM (putM D a ss).1 (a + ss.length) ts else putM D a ss := by
  induction ss generalizing D a with
  | nil => simp [putM]
  | cons s ss ih =>
    simp only [List.cons_append, putM]
    split
    · rw [ih, show a + ((s :: ss).length : Nat) = a + 1 + (ss.length : Nat) by simp; omega]
    · rfl
theorem write_keep (D : Dk) (a : Int) (s : List UInt8) : (D.write a s).1.n = D.n ∧ (D.write a s).1.dur = D.dur ∧ (D.write a s).1.pend.length ≤ D.pend.length + 1 := by
  have hk := op_keep D
  unfold Dk.write
  split
  · exact ⟨rfl, rfl, by simp only []; omega⟩
  · split
    · exact ⟨rfl, rfl, by simp only []; omega⟩
    · split
      · split
        · exact ⟨hk.2.2, hk.1, by simp⟩
        · exact ⟨hk.2.2, hk.1, by rw [hk.2.1]; omega⟩
      · exact ⟨rfl, rfl, by simp only []; omega⟩
theorem putM_len {ss : List (List UInt8)} : ∀ (D : Dk) (a : Int), (putM D a ss).1.pend.length ≤ D.pend.length + ss.length := by
  induction ss with
  | nil => intro D a; exact Nat.le_refl _
  | cons s ss ih =>
    intro D a
    have h := (write_keep D a s).2.2
    simp only [putM, List.length_cons]
    split
    · have := ih (D.write a s).1 (a + 1); omega
    · omega
theorem putM_keep {ss : List (List UInt8)} : ∀ (D : Dk) (a : Int), (putM D a ss).1.n = D.n ∧ (putM D a ss).1.dur = D.dur := by
  induction ss with
  | nil => intro D a; exact ⟨rfl, rfl⟩
  | cons s ss ih =>
    intro D a
    have h := write_keep D a s
    simp only [putM]
    split
    · exact ⟨(ih _ _).1.trans h.1, (ih _ _).2.trans h.2.1⟩
    · exact ⟨h.1, h.2.1⟩
set_option maxHeartbeats 400000 in
set_option maxRecDepth 10000 in
theorem f42_spec (bd : Nat) (fi se : Int) (h0 : 0 ≤ se) (h1 : se < 9223372036854775808) :
    Spec Try.prog 42 [.agg #[.pointer (some ⟨bd, 0, none⟩), .int .i64 fi, .int .i64 se]] [] [] (R := Unit) (fun _ => True) (fun _ => .int .i64 (se / 2)) (fun _ => []) := by
  refine Spec.intro Try.func42 Try.ntmps42 rfl (by simp) (by simp) fun w0 => ?_
  refine WC.seq ?_
  refine WC.region ?_
  refine wl1 (op_box (lt_ rfl) rfl rfl) rfl fun b1 => ?_
  refine wlv (op_assign (lt_ rfl) rfl) rfl ?_
  refine WL.nil ?_
  refine WX.regs (L' := [(1, _)]) ?_
  refine WX.next ?_
  refine WC.seq ?_
  refine WC.region ?_
  refine wlv (op_fieldAddr fo68_2 (lt_ rfl) rfl) rfl ?_
  refine wlv (op_load1 fl3 (lt_ rfl) rfl xM rfl) rfl ?_
  refine wlv (op_quo (lt_ rfl) rfl rfl (by omega) (by omega)) rfl ?_
  refine wlv (op_assign (lt_ rfl) rfl) rfl ?_
  refine WL.nil ?_
  refine WX.regs (L' := [(2, _)]) ?_
  refine WX.next ?_
  refine WC.ret ?_
  exact Fin.ret1 xI (()) (trivial) Try.results42 (.tmp rfl) xT (by simp)
set_option maxHeartbeats 400000 in
set_option maxRecDepth 10000 in
theorem f32_spec (bd bm : Nat) (A : Option Addr) (c : Nat) (D : Dk) (fi se : Int) (hn : D.n ≤ 1000000) (hfs : -1000000000 ≤ fi ∧ fi ≤ 1000000000 ∧ -1000000000 ≤ se ∧ se ≤ 1000000000) :
    Spec Try.prog 32 [.agg #[.pointer (some ⟨bd, 0, none⟩), .int .i64 fi, .int .i64 se]] [blk bd (dcells D bm A c) 66] [] (R := Unit) (fun _ => True) (fun _ => .int .i64 (D.check fi se)) (fun _ => [blk bd (dcells D bm A c) 66]) := by
  refine Spec.intro Try.func32 Try.ntmps32 rfl (by simp) (by simp) fun w0 => ?_
  refine WC.seq ?_
  refine WC.region ?_
  refine wl1 (op_box (lt_ rfl) rfl rfl) rfl fun b1 => ?_
  refine wlv (op_assign (lt_ rfl) rfl) rfl ?_
  refine WL.nil ?_
  refine WX.regs (L' := [(1, _)]) ?_
  refine WX.next ?_
  refine WC.seq ?_
  refine WC.block ?_
  refine WC.seq ?_
  refine WC.region ?_
  refine wlv (op_fieldAddr fo68_0 (lt_ rfl) rfl) rfl ?_
  refine wlv (op_load1 fl26 (lt_ rfl) rfl xM rfl) rfl ?_
  refine wlv (op_eqlnil Try.underlying26 (lt_ rfl) rfl rfl) rfl ?_
  refine wlv (op_assign (lt_ rfl) rfl) rfl ?_
  refine WL.nil ?_
  refine WX.regs (L' := [(1, _), (3, _)]) ?_
  refine WX.next ?_
  refine WC.condF rfl ?_
  refine WC.seq ?_
  refine WC.drawn (Hs := [blk b1 [.pointer (some ⟨bd, 0, none⟩), .int .i64 fi, .int .i64 se] 68]) mo 999 ?_
  refine WA.take (i := 0) rfl (by kernel_rfl) (fun _ _ _ h => h) rfl (op_fieldAddr fo68_1 (lt_ rfl) rfl) xT ?_
  refine WA.take (i := 1) rfl (by kernel_rfl) (fun _ _ _ h => h) rfl (op_load1 fl3 (lt_ rfl) rfl xM rfl) xT ?_
  refine WA.take (i := 2) rfl (by kernel_rfl) (fun _ _ _ h => h) rfl (op_lss (lt_ rfl) rfl rfl) xT ?_
  refine WA.take (i := 3) rfl (by kernel_rfl) (fun _ _ _ h => h) rfl (op_move (lt_ rfl) rfl) xT ?_
  refine WA.split (t := 11) rfl (fun g11 => ?_) (fun g11 => ?_)
  ·
    refine WA.skipG (i := 4) rfl (by kernel_rfl) (fun _ _ _ h => h) rfl rfl rfl xI rfl (by decide) xT ?_
    refine WA.skipG (i := 5) rfl (by kernel_rfl) (fun _ _ _ h => h) rfl rfl rfl xI rfl (by decide) xT ?_
    refine WA.skipG (i := 6) rfl (by kernel_rfl) (fun _ _ _ h => h) rfl rfl rfl xI rfl (by decide) xT ?_
    refine WA.take (i := 7) rfl (by kernel_rfl) (fun _ _ _ h => h) rfl (op_pickT (lt_ rfl) rfl rfl) xT ?_
    refine WA.take (i := 8) rfl (by kernel_rfl) (fun _ _ _ h => h) rfl (op_move (lt_ rfl) rfl) xT ?_
    refine WA.skipG (i := 9) rfl (by kernel_rfl) (fun _ _ _ h => h) rfl rfl rfl xI rfl (by decide) xT ?_
    refine WA.skipG (i := 10) rfl (by kernel_rfl) (fun _ _ _ h => h) rfl rfl rfl xI rfl (by decide) xT ?_
    refine WA.skipG (i := 11) rfl (by kernel_rfl) (fun _ _ _ h => h) rfl rfl rfl xI rfl (by decide) xT ?_
    refine WA.skipG (i := 12) rfl (by kernel_rfl) (fun _ _ _ h => h) rfl rfl rfl xI rfl (by decide) xT ?_
    refine WA.skipG (i := 13) rfl (by kernel_rfl) (fun _ _ _ h => h) rfl rfl rfl xI rfl (by decide) xT ?_
    refine WA.skipG (i := 14) rfl (by kernel_rfl) (fun _ _ _ h => h) rfl rfl rfl xI rfl (by decide) xT ?_
    refine WA.take (i := 15) rfl (by kernel_rfl) (fun _ _ _ h => h) rfl (op_pickT (lt_ rfl) rfl rfl) xT ?_
    refine WA.take (i := 16) rfl (by kernel_rfl) (fun _ _ _ h => h) rfl (op_move (lt_ rfl) rfl) xT ?_
    refine WA.skipG (i := 17) rfl (by kernel_rfl) (fun _ _ _ h => h) rfl rfl rfl xI rfl (by decide) xT ?_
    refine WA.skipG (i := 18) rfl (by kernel_rfl) (fun _ _ _ h => h) rfl rfl rfl xI rfl (by decide) xT ?_
    refine WA.skipG (i := 19) rfl (by kernel_rfl) (fun _ _ _ h => h) rfl rfl rfl xI rfl (by decide) xT ?_
    refine WA.skipG (i := 20) rfl (by kernel_rfl) (fun _ _ _ h => h) rfl rfl rfl xI rfl (by decide) xT ?_
    refine WA.skipG (i := 21) rfl (by kernel_rfl) (fun _ _ _ h => h) rfl rfl rfl xI rfl (by decide) xT ?_
    refine WA.skipG (i := 22) rfl (by kernel_rfl) (fun _ _ _ h => h) rfl rfl rfl xI rfl (by decide) xT ?_
    refine WA.skipG (i := 23) rfl (by kernel_rfl) (fun _ _ _ h => h) rfl rfl rfl xI rfl (by decide) xT ?_
    refine WA.skipG (i := 24) rfl (by kernel_rfl) (fun _ _ _ h => h) rfl rfl rfl xI rfl (by decide) xT ?_
    refine WA.skipG (i := 25) rfl (by kernel_rfl) (fun _ _ _ h => h) rfl rfl rfl xI rfl (by decide) xT ?_
    refine WA.take (i := 26) rfl (by kernel_rfl) (fun _ _ _ h => h) rfl (op_pickT (lt_ rfl) rfl rfl) xT ?_
    refine WA.take (i := 27) rfl (by kernel_rfl) (fun _ _ _ h => h) rfl (op_assign (lt_ rfl) rfl) xT ?_
    refine WA.done (by kernel_rfl) ?_
    refine WX.regs (L' := [(1, _), (7, _)]) ?_
    refine WX.next ?_
    refine WC.condT rfl ?_
    refine WC.seq ?_
    refine WC.region ?_
    refine wlv (op_assign (lt_ rfl) rfl) rfl ?_
    refine WL.nil ?_
    refine WX.regs (L' := [(2, _)]) ?_
    refine WX.next ?_
    refine WC.ret ?_
    refine WX.in_ret ?_
    refine WX.then_ret ?_
    first | (rw [show D.check fi se = 2 by unfold Dk.check; rw [if_pos (by omega)]]) | (rw [show D.check fi se = 28 by unfold Dk.check; rw [if_neg (by omega), if_pos (by assumption)]]) | (rw [show D.check fi se = 0 by unfold Dk.check; rw [if_neg (by omega), if_neg (by simp_all)]])
    exact Fin.ret1 xI (()) (trivial) Try.results32 (.tmp rfl) xT (by simp)
  ·
    refine WA.takeG (i := 4) rfl (by kernel_rfl) (fun _ _ _ h => h) rfl rfl rfl (op_fieldAddr fo68_2 (lt_ rfl) rfl) xT ?_
    refine WA.takeG (i := 5) rfl (by kernel_rfl) (fun _ _ _ h => h) rfl rfl rfl (op_load1 fl3 (lt_ rfl) rfl xM rfl) xT ?_
    refine WA.takeG (i := 6) rfl (by kernel_rfl) (fun _ _ _ h => h) rfl rfl rfl (op_lss (lt_ rfl) rfl rfl) xT ?_
    refine WA.take (i := 7) rfl (by kernel_rfl) (fun _ _ _ h => h) rfl (op_pickF (lt_ rfl) rfl rfl) xT ?_
    refine WA.take (i := 8) rfl (by kernel_rfl) (fun _ _ _ h => h) rfl (op_move (lt_ rfl) rfl) xT ?_
    refine WA.split (t := 16) rfl (fun g16 => ?_) (fun g16 => ?_)
    ·
      refine WA.skipG (i := 9) rfl (by kernel_rfl) (fun _ _ _ h => h) rfl rfl rfl xI rfl (by decide) xT ?_
      refine WA.skipG (i := 10) rfl (by kernel_rfl) (fun _ _ _ h => h) rfl rfl rfl xI rfl (by decide) xT ?_
      refine WA.skipG (i := 11) rfl (by kernel_rfl) (fun _ _ _ h => h) rfl rfl rfl xI rfl (by decide) xT ?_
      refine WA.skipG (i := 12) rfl (by kernel_rfl) (fun _ _ _ h => h) rfl rfl rfl xI rfl (by decide) xT ?_
      refine WA.skipG (i := 13) rfl (by kernel_rfl) (fun _ _ _ h => h) rfl rfl rfl xI rfl (by decide) xT ?_
      refine WA.skipG (i := 14) rfl (by kernel_rfl) (fun _ _ _ h => h) rfl rfl rfl xI rfl (by decide) xT ?_
      refine WA.take (i := 15) rfl (by kernel_rfl) (fun _ _ _ h => h) rfl (op_pickT (lt_ rfl) rfl rfl) xT ?_
      refine WA.take (i := 16) rfl (by kernel_rfl) (fun _ _ _ h => h) rfl (op_move (lt_ rfl) rfl) xT ?_
      refine WA.skipG (i := 17) rfl (by kernel_rfl) (fun _ _ _ h => h) rfl rfl rfl xI rfl (by decide) xT ?_
      refine WA.skipG (i := 18) rfl (by kernel_rfl) (fun _ _ _ h => h) rfl rfl rfl xI rfl (by decide) xT ?_
      refine WA.skipG (i := 19) rfl (by kernel_rfl) (fun _ _ _ h => h) rfl rfl rfl xI rfl (by decide) xT ?_
      refine WA.skipG (i := 20) rfl (by kernel_rfl) (fun _ _ _ h => h) rfl rfl rfl xI rfl (by decide) xT ?_
      refine WA.skipG (i := 21) rfl (by kernel_rfl) (fun _ _ _ h => h) rfl rfl rfl xI rfl (by decide) xT ?_
      refine WA.skipG (i := 22) rfl (by kernel_rfl) (fun _ _ _ h => h) rfl rfl rfl xI rfl (by decide) xT ?_
      refine WA.skipG (i := 23) rfl (by kernel_rfl) (fun _ _ _ h => h) rfl rfl rfl xI rfl (by decide) xT ?_
      refine WA.skipG (i := 24) rfl (by kernel_rfl) (fun _ _ _ h => h) rfl rfl rfl xI rfl (by decide) xT ?_
      refine WA.skipG (i := 25) rfl (by kernel_rfl) (fun _ _ _ h => h) rfl rfl rfl xI rfl (by decide) xT ?_
      refine WA.take (i := 26) rfl (by kernel_rfl) (fun _ _ _ h => h) rfl (op_pickT (lt_ rfl) rfl rfl) xT ?_
      refine WA.take (i := 27) rfl (by kernel_rfl) (fun _ _ _ h => h) rfl (op_assign (lt_ rfl) rfl) xT ?_
      refine WA.done (by kernel_rfl) ?_
      refine WX.regs (L' := [(1, _), (7, _)]) ?_
      refine WX.next ?_
      refine WC.condT rfl ?_
      refine WC.seq ?_
      refine WC.region ?_
      refine wlv (op_assign (lt_ rfl) rfl) rfl ?_
      refine WL.nil ?_
      refine WX.regs (L' := [(2, _)]) ?_
      refine WX.next ?_
      refine WC.ret ?_
      refine WX.in_ret ?_
      refine WX.then_ret ?_
      first | (rw [show D.check fi se = 2 by unfold Dk.check; rw [if_pos (by omega)]]) | (rw [show D.check fi se = 28 by unfold Dk.check; rw [if_neg (by omega), if_pos (by assumption)]]) | (rw [show D.check fi se = 0 by unfold Dk.check; rw [if_neg (by omega), if_neg (by simp_all)]])
      exact Fin.ret1 xI (()) (trivial) Try.results32 (.tmp rfl) xT (by simp)
    ·
      refine WA.takeG (i := 9) rfl (by kernel_rfl) (fun _ _ _ h => h) rfl rfl rfl (op_fieldAddr fo68_2 (lt_ rfl) rfl) xT ?_
      refine WA.takeG (i := 10) rfl (by kernel_rfl) (fun _ _ _ h => h) rfl rfl rfl (op_load1 fl3 (lt_ rfl) rfl xM rfl) xT ?_
      refine WA.takeG (i := 11) rfl (by kernel_rfl) (fun _ _ _ h => h) rfl rfl rfl (op_fieldAddr fo68_0 (lt_ rfl) rfl) xT ?_
      refine WA.takeG (i := 12) rfl (by kernel_rfl) (fun _ _ _ h => h) rfl rfl rfl (op_load1 fl26 (lt_ rfl) rfl xM rfl) xT ?_
      refine WA.stepGx (i := 13) (by kernel_rfl) rfl rfl rfl rfl (op_call (f50_spec bd bm A c D) ca50 (lt_ rfl) rfl) (fun _ r => xT) ?_
      rintro _ _
      refine WA.takeG (i := 14) rfl (by kernel_rfl) (fun _ _ _ h => h) rfl rfl rfl (op_gtr (lt_ rfl) rfl rfl) xT ?_
      refine WA.take (i := 15) rfl (by kernel_rfl) (fun _ _ _ h => h) rfl (op_pickF (lt_ rfl) rfl rfl) xT ?_
      refine WA.take (i := 16) rfl (by kernel_rfl) (fun _ _ _ h => h) rfl (op_move (lt_ rfl) rfl) xT ?_
      refine WA.split (t := 24) rfl (fun g24 => ?_) (fun g24 => ?_)
      ·
        refine WA.skipG (i := 17) rfl (by kernel_rfl) (fun _ _ _ h => h) rfl rfl rfl xI rfl (by decide) xT ?_
        refine WA.skipG (i := 18) rfl (by kernel_rfl) (fun _ _ _ h => h) rfl rfl rfl xI rfl (by decide) xT ?_
        refine WA.skipG (i := 19) rfl (by kernel_rfl) (fun _ _ _ h => h) rfl rfl rfl xI rfl (by decide) xT ?_
        refine WA.skipG (i := 20) rfl (by kernel_rfl) (fun _ _ _ h => h) rfl rfl rfl xI rfl (by decide) xT ?_
        refine WA.skipG (i := 21) rfl (by kernel_rfl) (fun _ _ _ h => h) rfl rfl rfl xI rfl (by decide) xT ?_
        refine WA.skipG (i := 22) rfl (by kernel_rfl) (fun _ _ _ h => h) rfl rfl rfl xI rfl (by decide) xT ?_
        refine WA.skipG (i := 23) rfl (by kernel_rfl) (fun _ _ _ h => h) rfl rfl rfl xI rfl (by decide) xT ?_
        refine WA.skipG (i := 24) rfl (by kernel_rfl) (fun _ _ _ h => h) rfl rfl rfl xI rfl (by decide) xT ?_
        refine WA.skipG (i := 25) rfl (by kernel_rfl) (fun _ _ _ h => h) rfl rfl rfl xI rfl (by decide) xT ?_
        refine WA.take (i := 26) rfl (by kernel_rfl) (fun _ _ _ h => h) rfl (op_pickT (lt_ rfl) rfl rfl) xT ?_
        refine WA.take (i := 27) rfl (by kernel_rfl) (fun _ _ _ h => h) rfl (op_assign (lt_ rfl) rfl) xT ?_
        refine WA.done (by kernel_rfl) ?_
        refine WX.regs (L' := [(1, _), (7, _)]) ?_
        refine WX.next ?_
        refine WC.condT rfl ?_
        refine WC.seq ?_
        refine WC.region ?_
        refine wlv (op_assign (lt_ rfl) rfl) rfl ?_
        refine WL.nil ?_
        refine WX.regs (L' := [(2, _)]) ?_
        refine WX.next ?_
        refine WC.ret ?_
        refine WX.in_ret ?_
        refine WX.then_ret ?_
        first | (rw [show D.check fi se = 2 by unfold Dk.check; rw [if_pos (by omega)]]) | (rw [show D.check fi se = 28 by unfold Dk.check; rw [if_neg (by omega), if_pos (by assumption)]]) | (rw [show D.check fi se = 0 by unfold Dk.check; rw [if_neg (by omega), if_neg (by simp_all)]])
        exact Fin.ret1 xI (()) (trivial) Try.results32 (.tmp rfl) xT (by simp)
      ·
        refine WA.takeG (i := 17) rfl (by kernel_rfl) (fun _ _ _ h => h) rfl rfl rfl (op_fieldAddr fo68_1 (lt_ rfl) rfl) xT ?_
        refine WA.takeG (i := 18) rfl (by kernel_rfl) (fun _ _ _ h => h) rfl rfl rfl (op_load1 fl3 (lt_ rfl) rfl xM rfl) xT ?_
        refine WA.takeG (i := 19) rfl (by kernel_rfl) (fun _ _ _ h => h) rfl rfl rfl (op_fieldAddr fo68_0 (lt_ rfl) rfl) xT ?_
        refine WA.takeG (i := 20) rfl (by kernel_rfl) (fun _ _ _ h => h) rfl rfl rfl (op_load1 fl26 (lt_ rfl) rfl xM rfl) xT ?_
        refine WA.takeG (i := 22) rfl (by kernel_rfl) (fun _ _ _ h => h) rfl rfl rfl (op_fieldAddr fo68_2 (lt_ rfl) rfl) xT ?_
        refine WA.takeG (i := 23) rfl (by kernel_rfl) (fun _ _ _ h => h) rfl rfl rfl (op_load1 fl3 (lt_ rfl) rfl xM rfl) xT ?_
        refine WA.stepGx (i := 21) (by kernel_rfl) rfl rfl rfl rfl (op_call (f50_spec bd bm A c D) ca50 (lt_ rfl) rfl) (fun _ r => xT) ?_
        rintro _ _
        refine WA.takeG (i := 24) rfl (by kernel_rfl) (fun _ _ _ h => h) rfl rfl rfl (op_sub (lt_ rfl) rfl rfl (by omega)) xT ?_
        refine WA.takeG (i := 25) rfl (by kernel_rfl) (fun _ _ _ h => h) rfl rfl rfl (op_gtr (lt_ rfl) rfl rfl) xT ?_
        refine WA.take (i := 26) rfl (by kernel_rfl) (fun _ _ _ h => h) rfl (op_pickF (lt_ rfl) rfl rfl) xT ?_
        refine WA.take (i := 27) rfl (by kernel_rfl) (fun _ _ _ h => h) rfl (op_assign (lt_ rfl) rfl) xT ?_
        refine WA.done (by kernel_rfl) ?_
        refine WX.regs (L' := [(1, _), (7, _)]) ?_
        refine WX.next ?_
        refine WC.cond rfl (fun h2 => ?_) (fun h2 => ?_)
        ·
          refine WC.seq ?_
          refine WC.region ?_
          refine wlv (op_assign (lt_ rfl) rfl) rfl ?_
          refine WL.nil ?_
          refine WX.regs (L' := [(2, _)]) ?_
          refine WX.next ?_
          refine WC.ret ?_
          refine WX.in_ret ?_
          refine WX.then_ret ?_
          first | (rw [show D.check fi se = 2 by unfold Dk.check; rw [if_pos (by omega)]]) | (rw [show D.check fi se = 28 by unfold Dk.check; rw [if_neg (by omega), if_pos (by assumption)]]) | (rw [show D.check fi se = 0 by unfold Dk.check; rw [if_neg (by omega), if_neg (by simp_all)]])
          exact Fin.ret1 xI (()) (trivial) Try.results32 (.tmp rfl) xT (by simp)
        ·
          refine WC.seq ?_
          refine WC.region ?_
          refine wlv (op_fieldAddr fo68_0 (lt_ rfl) rfl) rfl ?_
          refine wlv (op_load1 fl26 (lt_ rfl) rfl xM rfl) rfl ?_
          refine wlx (op_call (f51_spec bd bm A c D) ca51 (lt_ rfl) rfl) rfl ?_
          rintro _ _
          refine wlv (op_assign (lt_ rfl) rfl) rfl ?_
          refine WL.nil ?_
          refine WX.regs (L' := [(35, _)]) ?_
          refine WX.next ?_
          refine WC.condb rfl (fun h3 => ?_) (fun h3 => ?_)
          ·
            refine WC.seq ?_
            refine WC.region ?_
            refine wlv (op_assign (lt_ rfl) rfl) rfl ?_
            refine WL.nil ?_
            refine WX.regs (L' := [(2, _)]) ?_
            refine WX.next ?_
            refine WC.ret ?_
            refine WX.in_ret ?_
            refine WX.then_ret ?_
            first | (rw [show D.check fi se = 2 by unfold Dk.check; rw [if_pos (by omega)]]) | (rw [show D.check fi se = 28 by unfold Dk.check; rw [if_neg (by omega), if_pos (by assumption)]]) | (rw [show D.check fi se = 0 by unfold Dk.check; rw [if_neg (by omega), if_neg (by simp_all)]])
            exact Fin.ret1 xI (()) (trivial) Try.results32 (.tmp rfl) xT (by simp)
          ·
            refine WC.skip ?_
            refine WX.in_normal ?_
            refine WX.next ?_
            refine WC.seq ?_
            refine WC.region ?_
            refine wlv (op_assign (lt_ rfl) rfl) rfl ?_
            refine WL.nil ?_
            refine WX.regs (L' := [(2, _)]) ?_
            refine WX.next ?_
            refine WC.ret ?_
            first | (rw [show D.check fi se = 2 by unfold Dk.check; rw [if_pos (by omega)]]) | (rw [show D.check fi se = 28 by unfold Dk.check; rw [if_neg (by omega), if_pos (by assumption)]]) | (rw [show D.check fi se = 0 by unfold Dk.check; rw [if_neg (by omega), if_neg (by simp_all)]])
            exact Fin.ret1 xI (()) (trivial) Try.results32 (.tmp rfl) xT (by simp)
set_option maxHeartbeats 400000 in
set_option maxRecDepth 10000 in
theorem f52_spec (bd bm : Nat) (A : Option Addr) (c : Nat) (D : Dk) (fi se fr : Int) (k : Nat) (hk : k ≤ 1000000) (hdn : D.down = false) (hfr : 0 ≤ fi ∧ 0 ≤ fr ∧ fi + fr + k ≤ D.n) (hn : D.n ≤ 1000000) (hmx : D.pend.length ≤ 1000000) :
    Spec Try.prog 52 [.agg #[.pointer (some ⟨bd, 0, none⟩), .int .i64 fi, .int .i64 se], .int .i64 fr, .int .i64 (k : Int)] [blk bd (dcells D bm A c) 66, mapC bm (dmap D.dur), own (.slice A D.pend.length c) 84 257 D.pend.length (D.pend.flatMap wcs)] [] (R := Option Addr × Nat × List Bs) (fun q => q.2.2.map Bs.s = D.seen (fi + fr) k) (fun q => .tuple #[.slice q.1 q.2.2.length q.2.1, .int .i64 0])
      (fun q => [blk bd (dcells D bm A c) 66, mapC bm (dmap D.dur), own (.slice A D.pend.length c) 84 257 D.pend.length (D.pend.flatMap wcs), own (.slice q.1 q.2.2.length q.2.1) 23 1 q.2.2.length (q.2.2.map Bs.v), rowsC true q.2.2]) := by
  refine Spec.intro Try.func52 Try.ntmps52 rfl (by simp) (by simp) fun w0 => ?_
  refine WC.seq ?_
  refine WC.region ?_
  refine wl1 (op_box (lt_ rfl) rfl rfl) rfl fun b1 => ?_
  refine wlv (op_assign (lt_ rfl) rfl) rfl ?_
  refine wlv (op_assign (lt_ rfl) rfl) rfl ?_
  refine WL.nil ?_
  refine WX.regs (L' := [(1, _), (2, _), (3, _)]) ?_
  refine WX.next ?_
  refine WC.seq ?_
  refine WC.region ?_
  refine wlv (op_assign (lt_ rfl) rfl) rfl ?_
  refine WL.nil ?_
  refine WX.regs (L' := [(1, _), (2, _), (3, _), (8, _)]) ?_
  refine WX.next ?_
  refine WC.seq ?_
  refine WC.seq ?_
  refine WC.region ?_
  refine wlv (op_move (lt_ rfl) rfl) rfl ?_
  refine wlv (op_move (lt_ rfl) rfl) rfl ?_
  refine WL.nil ?_
  refine WX.regs (L' := [(1, _), (3, _), (8, _), (12, _), (13, _)]) ?_
  refine WX.next ?_
  refine WC.block ?_
  refine WC.nilrows true ?_
  refine WC.nilslice 23 1 ?_
  refine WC.loop (X := Nat × List Bs × Option Addr × Nat) (fun q => k - q.1) (fun q => q.1 ≤ k ∧ q.2.1.map Bs.s = D.seen (fi + fr) q.1) (fun q => [(1, .int .i64 fr), (3, .pointer (some ⟨b1, 0, none⟩)), (8, .slice q.2.2.1 q.2.1.length q.2.2.2), (12, .int .i64 (k : Int)), (13, .int .i64 (q.1 : Int))]) (fun q => [own (.slice q.2.2.1 q.2.1.length q.2.2.2) 23 1 q.2.1.length (q.2.1.map Bs.v), rowsC true q.2.1, blk b1 [.pointer (some ⟨bd, 0, none⟩), .int .i64 fi, .int .i64 se] 68, blk bd (dcells D bm A c) 66, mapC bm (dmap D.dur), own (.slice A D.pend.length c) 84 257 D.pend.length (D.pend.flatMap wcs), frameC w0 (MutF [blk bd (dcells D bm A c) 66, mapC bm (dmap D.dur), own (.slice A D.pend.length c) 84 257 D.pend.length (D.pend.flatMap wcs)])]) ((0, [], none, 0)) (⟨Nat.zero_le _, rfl⟩) (fun a w hs => hs.sub xY xT) ?_
  rintro ⟨i, rs, Ao, co⟩ ⟨hi, hrs⟩
  try dsimp only at hi hrs ⊢
  have hlen : rs.length = i := by have := congrArg List.length hrs; simpa [Dk.seen] using this
  refine WC.seq ?_
  refine WC.region ?_
  refine wlv (op_lss (lt_ rfl) rfl rfl) rfl ?_
  refine WL.nil ?_
  refine WX.regs (L' := [(1, _), (3, _), (8, _), (12, _), (13, _), (14, _)]) ?_
  refine WX.next ?_
  refine WC.seq ?_
  refine WC.cond rfl (fun h1 => ?_) (fun h1 => ?_)
  ·
    refine WC.skip ?_
    refine WX.next ?_
    refine WC.seq ?_
    refine WC.block ?_
    refine WC.seq ?_
    refine WC.region ?_
    refine wlv (op_move (lt_ rfl) rfl) rfl ?_
    refine wlv (op_assign (lt_ rfl) rfl) rfl ?_
    refine WL.nil ?_
    refine WX.regs (L' := [(1, _), (3, _), (8, _), (9, _), (12, _), (13, _)]) ?_
    refine WX.next ?_
    refine WC.seq ?_
    refine WC.region ?_
    refine wlv (op_fieldAddr fo68_0 (lt_ rfl) rfl) rfl ?_
    refine wlv (op_load1 fl26 (lt_ rfl) rfl xM rfl) rfl ?_
    refine wlv (op_fieldAddr fo68_1 (lt_ rfl) rfl) rfl ?_
    refine wlv (op_load1 fl3 (lt_ rfl) rfl xM rfl) rfl ?_
    refine wlv (op_move (lt_ rfl) rfl) rfl ?_
    refine wlv (op_add (lt_ rfl) rfl rfl (by omega)) rfl ?_
    refine wlv (op_move (lt_ rfl) rfl) rfl ?_
    refine wlv (op_add (lt_ rfl) rfl rfl (by omega)) rfl ?_
    refine wlx (op_call (f30_spec bd bm A c D (fi + fr + i) hmx) ca30 (lt_ rfl) rfl) rfl ?_
    rintro ⟨Ab, cb, lb, eb⟩ heb
    dsimp only at heb
    rw [read_ok hdn (by omega), Prod.mk.injEq] at heb
    obtain ⟨hlb, rfl⟩ := heb
    dsimp only
    refine wlv (op_move (lt_ rfl) rfl) rfl ?_
    refine wlv (op_extract (lt_ rfl) rfl rfl) rfl ?_
    refine wlv (op_extract (lt_ rfl) rfl rfl) rfl ?_
    refine wlv (op_assign (lt_ rfl) rfl) rfl ?_
    refine wlv (op_assign (lt_ rfl) rfl) rfl ?_
    refine WL.nil ?_
    refine WX.regs (L' := [(1, _), (3, _), (8, _), (10, _), (11, _), (12, _), (13, _)]) ?_
    refine WX.next ?_
    refine WC.seq ?_
    refine WC.seq ?_
    refine WC.region ?_
    refine wlv (op_move (lt_ rfl) rfl) rfl ?_
    refine wlv (op_neq (lt_ rfl) rfl rfl) rfl ?_
    refine WL.nil ?_
    refine WX.regs (L' := [(1, _), (3, _), (8, _), (10, _), (11, _), (12, _), (13, _), (29, _)]) ?_
    refine WX.next ?_
    refine WC.cond rfl (fun h2 => ?_) (fun h2 => ?_)
    ·
      exact absurd rfl h2
    ·
      refine WC.skip ?_
      refine WX.next ?_
      refine WC.region ?_
      refine wlv (op_move (lt_ rfl) rfl) rfl ?_
      refine wlv (op_move (lt_ rfl) rfl) rfl ?_
      refine wl1 (op_lit1 Try.underlying70 ti23 rfl (by decide) (lt_ rfl) rfl rfl) rfl fun b2 => ?_
      refine wl2 (op_append Try.underlying70 ti23 rfl (by decide) (lt_ rfl) rfl rfl xK xS (by rfl) (by omega) (by omega)) rfl fun A1 c1 => ?_
      refine wlv (op_assign (lt_ rfl) rfl) rfl ?_
      refine WL.nil ?_
      refine WX.regs (L' := [(1, _), (3, _), (8, _), (12, _), (13, _)]) ?_
      refine WX.in_normal ?_
      refine WX.next ?_
      refine WC.region ?_
      refine wlv (op_add (lt_ rfl) rfl rfl (by omega)) rfl ?_
      refine wlv (op_move (lt_ rfl) rfl) rfl ?_
      refine WL.nil ?_
      refine WX.regs (L' := [(1, _), (3, _), (8, _), (12, _), (13, _)]) ?_
      refine WX.ownEq (v := .slice A1 (rs.length + 1) c1) ((rs ++ [(⟨Ab, cb, lb⟩ : Bs)]).map Bs.v) xK (map_push rs ⟨Ab, cb, lb⟩) ?_
      refine WX.merge2 (c1 := rowsC true rs) (c2 := rx (.slice Ab lb.length cb) 1 lb.length (bvs lb)) (d := rowsC true (rs ++ [⟨Ab, cb, lb⟩])) xK xK (rowsC_snoc (rx_le_bs rfl) (fun _ => by simp)) ?_
      rw [len_push rs ⟨Ab, cb, lb⟩]
      refine WX.meet ((i + 1, rs ++ [⟨Ab, cb, lb⟩], A1, c1)) ⟨⟨by simp only []; omega, by rw [seen_succ, ← hrs, List.map_append, ← hlb]; rfl⟩, by simp only []; omega⟩ (fun a w hs => hs.sub xY xT)
  ·
    refine WC.exit ?_
    refine WX.then_exit ?_
    refine WX.then_exit ?_
    refine WX.in_hit ?_
    refine WX.next ?_
    refine WC.seq ?_
    refine WC.region ?_
    refine wlv (op_move (lt_ rfl) rfl) rfl ?_
    refine wlv (op_assign (lt_ rfl) rfl) rfl ?_
    refine wlv (op_assign (lt_ rfl) rfl) rfl ?_
    refine WL.nil ?_
    refine WX.regs (L' := [(6, _), (7, _)]) ?_
    refine WX.next ?_
    refine WC.ret ?_
    exact Fin.ret2 xI ((Ao, co, rs)) (by rw [hrs, show i = k by omega]) Try.results52 rfl (.tmp rfl) (.tmp rfl) xT (by simp)
set_option maxHeartbeats 400000 in
set_option maxRecDepth 10000 in
theorem f45_spec (bd bm : Nat) (A : Option Addr) (c : Nat) (D : Dk) (fi se po : Int) (AR : Option Addr) (M cR : Nat) (rs : List Bs) (hM : rs.length = M) (hfp : -1000000000 ≤ fi ∧ fi ≤ 1000000000 ∧ -1000000000 ≤ po ∧ po ≤ 1000000000) (hmx : D.pend.length + M ≤ 1000000) :
    Spec Try.prog 45 [.agg #[.pointer (some ⟨bd, 0, none⟩), .int .i64 fi, .int .i64 se], .int .i64 po, .slice AR M cR] [blk bd (dcells D bm A c) 66, mapC bm (dmap D.dur), own (.slice A D.pend.length c) 84 257 D.pend.length (D.pend.flatMap wcs)] [rd (.slice AR M cR) 1 M (rs.map Bs.v), rowsC false rs] (R := Option Addr × Nat) (fun _ => True) (fun _ => .int .i64 (putM D (fi + po) (rs.map Bs.s)).2)
      (fun q => [blk bd (dcells (putM D (fi + po) (rs.map Bs.s)).1 bm q.1 q.2) 66, mapC bm (dmap (putM D (fi + po) (rs.map Bs.s)).1.dur), own (.slice q.1 (putM D (fi + po) (rs.map Bs.s)).1.pend.length q.2) 84 257 (putM D (fi + po) (rs.map Bs.s)).1.pend.length ((putM D (fi + po) (rs.map Bs.s)).1.pend.flatMap wcs)]) := by
  refine Spec.intro Try.func45 Try.ntmps45 rfl (by simp) (by simp) fun w0 => ?_
  refine WC.seq ?_
  refine WC.region ?_
  refine wl1 (op_box (lt_ rfl) rfl rfl) rfl fun b1 => ?_
  refine wlv (op_assign (lt_ rfl) rfl) rfl ?_
  refine WL.nil ?_
  refine WX.regs (L' := [(1, _), (2, _), (3, _)]) ?_
  refine WX.next ?_
  refine WC.seq ?_
  refine WC.seq ?_
  refine WC.region ?_
  refine wlv (op_move (lt_ rfl) rfl) rfl ?_
  refine wlv (op_len Try.underlying70 (lt_ rfl) rfl) rfl ?_
  refine wlv (op_move (lt_ rfl) rfl) rfl ?_
  refine WL.nil ?_
  refine WX.regs (L' := [(1, _), (3, _), (10, _), (11, _), (12, _)]) ?_
  refine WX.next ?_
  refine WC.block ?_
  refine WC.loop (X := Nat × Option Addr × Nat) (fun q => M - q.1) (fun q => q.1 ≤ M ∧ (putM D (fi + po) ((rs.map Bs.s).take q.1)).2 = 0) (fun q => [(1, .int .i64 po), (3, .pointer (some ⟨b1, 0, none⟩)), (10, .slice AR M cR), (11, .int .i64 (M : Int)), (12, .int .i64 (q.1 : Int))]) (fun q => [blk bd (dcells (putM D (fi + po) ((rs.map Bs.s).take q.1)).1 bm q.2.1 q.2.2) 66, mapC bm (dmap (putM D (fi + po) ((rs.map Bs.s).take q.1)).1.dur), own (.slice q.2.1 (putM D (fi + po) ((rs.map Bs.s).take q.1)).1.pend.length q.2.2) 84 257 (putM D (fi + po) ((rs.map Bs.s).take q.1)).1.pend.length ((putM D (fi + po) ((rs.map Bs.s).take q.1)).1.pend.flatMap wcs), blk b1 [.pointer (some ⟨bd, 0, none⟩), .int .i64 fi, .int .i64 se] 68, rd (.slice AR M cR) 1 M (rs.map Bs.v), rowsC false rs, frameC w0 (MutF [blk bd (dcells D bm A c) 66, mapC bm (dmap D.dur), own (.slice A D.pend.length c) 84 257 D.pend.length (D.pend.flatMap wcs)])]) ((0, A, c)) (⟨Nat.zero_le _, rfl⟩) (fun a w hs => hs.sub xY xT) ?_
  rintro ⟨i, Ac, cc⟩ ⟨hi, hz⟩
  try dsimp only at hi hz ⊢
  refine WC.seq ?_
  refine WC.region ?_
  refine wlv (op_lss (lt_ rfl) rfl rfl) rfl ?_
  refine WL.nil ?_
  refine WX.regs (L' := [(1, _), (3, _), (10, _), (11, _), (12, _), (13, _)]) ?_
  refine WX.next ?_
  refine WC.seq ?_
  refine WC.cond rfl (fun h1 => ?_) (fun h1 => ?_)
  ·
    refine WC.skip ?_
    refine WX.next ?_
    refine WC.seq ?_
    refine WC.block ?_
    refine WC.seq ?_
    refine WC.region ?_
    obtain ⟨ri, hri⟩ : ∃ r, rs[i]? = some r := ⟨rs[i]'(by omega), List.getElem?_eq_getElem _⟩
    have hmi : ri ∈ rs := List.mem_of_getElem? hri
    have hstep : putM D (fi + po) ((rs.map Bs.s).take (i + 1)) = (putM D (fi + po) ((rs.map Bs.s).take i)).1.write (fi + po + i) ri.s := by
      rw [List.take_succ_eq_append_getElem (by rw [List.length_map]; omega), putM_app, if_pos hz]
      have hl : ((rs.map Bs.s).take i).length = i := by rw [List.length_take, List.length_map]; omega
      have hg : (rs.map Bs.s)[i]'(by rw [List.length_map]; omega) = ri.s := by simp [(List.getElem?_eq_some_iff.1 hri).2]
      rw [hl, hg]
      simp only [putM]
      split
      · rename_i h0
        exact Prod.ext rfl h0.symm
      · rfl
    refine WL.dup (c := rowsC false rs) (d := rd (.slice ri.A ri.s.length ri.c) 1 ri.s.length (bvs ri.s)) xM rfl (by simp) (rowsC_get (r := ri) hmi) ?_
    refine wlv (op_move (lt_ rfl) rfl) rfl ?_
    refine wlv (op_index Try.underlying70 sz23 (lt_ rfl) rfl rfl (by omega) (by omega) (by decide) (Src.rd (xs := rs.map Bs.v) xM)) rfl ?_
    refine wlv (op_loadS fl23 (lt_ rfl) rfl (Src.rd (xs := rs.map Bs.v) xM) (rows_at' hri (by omega))) rfl ?_
    refine wlv (op_assign (lt_ rfl) rfl) rfl ?_
    refine wlv (op_assign (lt_ rfl) rfl) rfl ?_
    refine WL.nil ?_
    refine WX.regs (L' := [(1, _), (3, _), (7, _), (8, _), (10, _), (11, _), (12, _)]) ?_
    refine WX.next ?_
    refine WC.seq ?_
    refine WC.region ?_
    refine wlv (op_fieldAddr fo68_0 (lt_ rfl) rfl) rfl ?_
    refine wlv (op_load1 fl26 (lt_ rfl) rfl xM rfl) rfl ?_
    refine wlv (op_fieldAddr fo68_1 (lt_ rfl) rfl) rfl ?_
    refine wlv (op_load1 fl3 (lt_ rfl) rfl xM rfl) rfl ?_
    refine wlv (op_move (lt_ rfl) rfl) rfl ?_
    refine wlv (op_add (lt_ rfl) rfl rfl (by omega)) rfl ?_
    refine wlv (op_move (lt_ rfl) rfl) rfl ?_
    refine wlv (op_add (lt_ rfl) rfl rfl (by omega)) rfl ?_
    refine wlv (op_move (lt_ rfl) rfl) rfl ?_
    refine wlx (op_call (f29_spec bd bm Ac cc (putM D (fi + po) ((rs.map Bs.s).take i)).1 (fi + po + i) ri.A ri.s.length ri.c ri.s rfl (by have := putM_len (ss := (rs.map Bs.s).take i) D (fi + po); simp only [List.length_take, List.length_map] at this; omega)) ca29 (lt_ rfl) rfl) rfl ?_
    rintro ⟨A2, c2⟩ _
    refine wlv (op_assign (lt_ rfl) rfl) rfl ?_
    refine WL.nil ?_
    refine WX.regs (L' := [(1, _), (3, _), (9, _), (10, _), (11, _), (12, _)]) ?_
    refine WX.next ?_
    refine WC.seq ?_
    refine WC.region ?_
    refine wlv (op_move (lt_ rfl) rfl) rfl ?_
    refine wlv (op_neq (lt_ rfl) rfl rfl) rfl ?_
    refine WL.nil ?_
    refine WX.regs (L' := [(1, _), (3, _), (9, _), (10, _), (11, _), (12, _), (28, _)]) ?_
    refine WX.next ?_
    refine WC.cond rfl (fun h2 => ?_) (fun h2 => ?_)
    ·
      refine WC.seq ?_
      refine WC.region ?_
      refine wlv (op_move (lt_ rfl) rfl) rfl ?_
      refine wlv (op_assign (lt_ rfl) rfl) rfl ?_
      refine WL.nil ?_
      refine WX.regs (L' := [(6, _)]) ?_
      refine WX.next ?_
      refine WC.ret ?_
      refine WX.in_ret ?_
      refine WX.then_ret ?_
      refine WX.then_ret ?_
      refine WX.in_ret ?_
      refine WX.then_ret ?_
      have hend : putM D (fi + po) (rs.map Bs.s) = (putM D (fi + po) ((rs.map Bs.s).take i)).1.write (fi + po + i) ri.s := by
        conv => lhs; rw [← List.take_append_drop (i + 1) (rs.map Bs.s)]
        rw [putM_app, if_neg (by rw [hstep]; omega), hstep]
      rw [hend]
      exact Fin.ret1 xI ((A2, c2)) (trivial) Try.results45 (.tmp rfl) xT (by simp)
    ·
      refine WC.skip ?_
      refine WX.in_normal ?_
      refine WX.next ?_
      refine WC.region ?_
      refine wlv (op_add (lt_ rfl) rfl rfl (by omega)) rfl ?_
      refine wlv (op_move (lt_ rfl) rfl) rfl ?_
      refine WL.nil ?_
      refine WX.regs (L' := [(1, _), (3, _), (10, _), (11, _), (12, _)]) ?_
      rw [← hstep]
      refine WX.meet ((i + 1, A2, c2)) ⟨⟨by simp only []; omega, by rw [hstep]; omega⟩, by simp only []; omega⟩ (fun a w hs => hs.sub xY xT)
  ·
    refine WC.exit ?_
    refine WX.then_exit ?_
    refine WX.then_exit ?_
    refine WX.in_hit ?_
    refine WX.next ?_
    refine WC.seq ?_
    refine WC.region ?_
    refine wlv (op_assign (lt_ rfl) rfl) rfl ?_
    refine WL.nil ?_
    refine WX.regs (L' := [(6, _)]) ?_
    refine WX.next ?_
    refine WC.ret ?_
    obtain rfl : i = M := by omega
    have hall : (rs.map Bs.s).take i = rs.map Bs.s := List.take_of_length_le (by rw [List.length_map]; omega)
    rw [hall] at hz
    rw [hz, hall]
    exact Fin.ret1 xI ((Ac, cc)) (trivial) Try.results45 (.tmp rfl) xT (by simp)
end Go.Proofs.Ytkjlbedebmffgaa.Sx

set_option linter.unusedVariables false
set_option linter.unusedSimpArgs false
namespace Go.Proofs.Ytkjlbedebmffgaa.Sx
open Go.RowKit Go.Proofs.Ytkjlbedebmffgaa.Ty
attribute [local irreducible] blk own rd rx frameC

structure Jn where
  (fi se cur gen first used synced failed : Int)
def jcells (J : Jn) (bd : Nat) (A : Option Addr) (m c : Nat) : List Value := [.pointer (some ⟨bd, 0, none⟩), .int .i64 J.fi, .int .i64 J.se, .int .i64 J.cur, .int .i64 J.gen, .int .i64 J.first, .slice A m c, .int .i64 J.used, .int .i64 J.synced, .int .i64 J.failed]
def wcur (n i : Nat) : List UInt8 := (be n 8).take i ++ List.replicate (8 - i) 0
theorem wcur_length {n i : Nat} (h : i ≤ 8) : (wcur n i).length = 8 := by simp [wcur]; omega
theorem wcur_set {n i : Nat} (h : i < 8) : (wcur n i).set i (UInt8.ofNat (n / 256 ^ (7 - i))) = wcur n (i + 1) := by
  have hl : ((be n 8).take i).length = i := by simp; omega
  unfold wcur
  rw [be_take n 8 i h, show 8 - i = (8 - (i + 1)) + 1 by omega, List.replicate_succ, List.set_append, if_neg (by omega), hl, Nat.sub_self, List.set_cons_zero, List.append_assoc]
  rfl
theorem bvs_rep0 (k : Nat) : (List.replicate k (Value.int .u8 0)) = bvs (List.replicate k 0) := by simp [bvs, bv]
theorem small_len {m : Nat} (h : m ≤ 1000000) : m ≤ maxLen := Nat.le_trans h (by decide)
theorem tw_step {ks : List Int} {i : Nat} (h : i < ks.length) (hi : i ≤ (ks.takeWhile (· == 2)).length) : (ks.takeWhile (· == 2)).length = i ∧ ¬ ks.getD i 0 = 2 ∨ ks.getD i 0 = 2 ∧ i + 1 ≤ (ks.takeWhile (· == 2)).length := by
  induction ks generalizing i with
  | nil => simp at h
  | cons k ks ih =>
    by_cases hk : k = 2
    · subst hk
      cases i with
      | zero => right; simp
      | succ i =>
        have hi' : i ≤ (ks.takeWhile (· == 2)).length := by simpa using hi
        rcases ih (by simpa using h) hi' with ⟨h1, h2⟩ | ⟨h1, h2⟩
        · left; refine ⟨by simp [h1], by simpa using h2⟩
        · right; refine ⟨by simpa using h1, by simpa using h2⟩
    · have hk' : (k == (2 : Int)) = false := by simpa using hk
      have hz : ((k :: ks).takeWhile (· == 2)) = [] := by simp [hk']
      rw [hz] at hi ⊢
      have : i = 0 := by simpa using hi
      subst this
      left
      exact ⟨rfl, by simpa using hk⟩
theorem rows_one (rs : List Bs) : (rs.map Bs.v).all (·.oneCell') = true := by
  rw [List.all_eq_true]
  intro x hx
  rw [List.mem_map] at hx
  obtain ⟨r, _, rfl⟩ := hx
  rfl
theorem tw_le (ks : List Int) : (ks.takeWhile (· == 2)).length ≤ ks.length := (List.takeWhile_sublist _).length_le
set_option maxHeartbeats 400000 in
set_option maxRecDepth 10000 in
theorem f54_spec (n : Nat) (hn : n < 9223372036854775808) :
    Spec Try.prog 54 [.int .i64 (n : Int)] [] [] (R := Nat) (fun _ => True) (fun r => .slice (some ⟨r, 0, none⟩) 8 8) (fun r => [own (.slice (some ⟨r, 0, none⟩) 8 8) 5 1 8 (bvs (be n 8))]) := by
  refine Spec.intro Try.func54 Try.ntmps54 rfl (by simp) (by simp) fun w0 => ?_
  refine WC.seq ?_
  refine WC.region ?_
  refine wlv (op_assign (lt_ rfl) rfl) rfl ?_
  refine WL.nil ?_
  refine WX.regs (L' := [(0, _)]) ?_
  refine WX.next ?_
  refine WC.seq ?_
  refine WC.region ?_
  refine wl1 (op_make (z1 := (.int .u8 0)) (sz := 1) (zero := []) Try.underlying23 ti5 (lt_ rfl) rfl rfl (by omega) (by omega) (by omega) (by omega)) rfl fun b1 => ?_
  refine WL.blkEq (b := b1) (bvs (wcur n 0)) xK (by simp only [wcur, List.take_zero, List.nil_append]; exact bvs_rep0 8) ?_
  refine WL.turn (c := blk b1 (bvs (wcur n 0)) 5) (d := own (.slice (some ⟨b1, 0, none⟩) 8 8) 5 1 8 (bvs (wcur n 0))) xK (own_le_blk (by rw [bvs_length, wcur_length (by omega)]) (small_len (by omega))) ?_
  refine wlv (op_assign (lt_ rfl) rfl) rfl ?_
  refine WL.nil ?_
  refine WX.regs (L' := [(0, _), (3, _)]) ?_
  refine WX.next ?_
  refine WC.seq ?_
  refine WC.seq ?_
  refine WC.region ?_
  refine wlv (op_move (lt_ rfl) rfl) rfl ?_
  refine wlv (op_len Try.underlying23 (lt_ rfl) rfl) rfl ?_
  refine wlv (op_move (lt_ rfl) rfl) rfl ?_
  refine WL.nil ?_
  refine WX.regs (L' := [(0, _), (3, _), (7, _), (8, _)]) ?_
  refine WX.next ?_
  refine WC.block ?_
  refine WC.loop (X := Nat) (fun q => 8 - q) (fun q => q ≤ 8) (fun q => [(0, .int .i64 (n : Int)), (3, .slice (some ⟨b1, 0, none⟩) 8 8), (7, .int .i64 8), (8, .int .i64 (q : Int))]) (fun q => [own (.slice (some ⟨b1, 0, none⟩) 8 8) 5 1 8 (bvs (wcur n q)), frameC w0 (MutF [])]) (0) (by omega) (fun a w hs => hs.sub xY xT) ?_
  rintro i hi
  try dsimp only
  refine WC.seq ?_
  refine WC.region ?_
  refine wlv (op_lss (lt_ rfl) rfl rfl) rfl ?_
  refine WL.nil ?_
  refine WX.regs (L' := [(0, _), (3, _), (7, _), (8, _), (9, _)]) ?_
  refine WX.next ?_
  refine WC.seq ?_
  refine WC.cond rfl (fun h1 => ?_) (fun h1 => ?_)
  ·
    refine WC.skip ?_
    refine WX.next ?_
    refine WC.seq ?_
    refine WC.block ?_
    refine WC.seq ?_
    refine WC.region ?_
    refine wlv (op_move (lt_ rfl) rfl) rfl ?_
    refine wlv (op_assign (lt_ rfl) rfl) rfl ?_
    refine WL.nil ?_
    refine WX.regs (L' := [(0, _), (3, _), (4, _), (7, _), (8, _)]) ?_
    refine WX.next ?_
    refine WC.region ?_
    refine wlv (op_move (lt_ rfl) rfl) rfl ?_
    refine wlv (op_move (lt_ rfl) rfl) rfl ?_
    refine wlv (op_move (lt_ rfl) rfl) rfl ?_
    refine wlv (op_move (lt_ rfl) rfl) rfl ?_
    refine wlv (op_sub (lt_ rfl) rfl rfl (by omega)) rfl ?_
    refine wlv (op_mul (lt_ rfl) rfl rfl (by omega)) rfl ?_
    refine wlv (op_shri (lt_ rfl) rfl rfl (by omega)) rfl ?_
    refine wlv (op_convByte (by kernel_rfl) Try.underlying5 (lt_ rfl) rfl (Int.ediv_nonneg (by omega) (Int.natCast_nonneg _))) rfl ?_
    refine wlv (op_index Try.underlying23 sz5 (lt_ rfl) rfl rfl (by omega) (by omega) (by decide) xS) rfl ?_
    refine wl (op_storeS sz5 rfl rfl xK rfl rfl (by rw [bvs_length, wcur_length (by omega)]; omega) (by decide)) rfl ?_
    change WL _ _ _ _ _ _ _
    refine WL.nil ?_
    refine WX.ownEq (v := .slice (some ⟨b1, 0, none⟩) 8 8) (bvs (wcur n (i + 1))) xK (by have e2 : (2 : Nat) ^ (8 * (7 - (i : Int))).toNat = 256 ^ (7 - i) := (by rw [show (8 * (7 - (i : Int))).toNat = 8 * (7 - i) by omega, Nat.pow_mul]); rw [e2, ← Int.natCast_ediv, Int.toNat_natCast, ← wcur_set (by omega)]; exact bvs_put (by omega) (by rw [wcur_length (by omega)]; omega)) ?_
    refine WX.regs (L' := [(0, _), (3, _), (7, _), (8, _)]) ?_
    refine WX.in_normal ?_
    refine WX.next ?_
    refine WC.region ?_
    refine wlv (op_add (lt_ rfl) rfl rfl (by omega)) rfl ?_
    refine wlv (op_move (lt_ rfl) rfl) rfl ?_
    refine WL.nil ?_
    refine WX.regs (L' := [(0, _), (3, _), (7, _), (8, _)]) ?_
    refine WX.meet (i + 1) ⟨by omega, by omega⟩ (fun a w hs => hs.sub xY xT)
  ·
    refine WC.exit ?_
    refine WX.then_exit ?_
    refine WX.then_exit ?_
    refine WX.in_hit ?_
    refine WX.next ?_
    refine WC.seq ?_
    refine WC.region ?_
    refine wlv (op_move (lt_ rfl) rfl) rfl ?_
    refine wlv (op_assign (lt_ rfl) rfl) rfl ?_
    refine WL.nil ?_
    refine WX.regs (L' := [(2, _)]) ?_
    refine WX.next ?_
    refine WC.ret ?_
    obtain rfl : i = 8 := by omega
    rw [show wcur n 8 = be n 8 by simp [wcur, List.take_of_length_le]]
    exact Fin.ret1 xI (b1) (trivial) Try.results54 (.tmp rfl) xT (by simp)
set_option maxHeartbeats 400000 in
set_option maxRecDepth 10000 in
theorem f57_spec (A : Option Addr) (c : Nat) (bs : List UInt8) (hb : bs.length = 8) :
    Spec Try.prog 57 [.slice A 8 c] [] [rd (.slice A 8 c) 1 8 (bvs bs)] (R := Unit) (fun _ => True) (fun _ => .tuple #[.int .i64 ((min (vl bs) 2147483647 : Nat) : Int), .bool (decide (vl bs ≤ 2147483647))]) (fun _ => []) := by
  refine Spec.intro Try.func57 Try.ntmps57 rfl (by simp) (by simp) fun w0 => ?_
  refine WC.seq ?_
  refine WC.region ?_
  refine wlv (op_assign (lt_ rfl) rfl) rfl ?_
  refine wlv (op_assign (lt_ rfl) rfl) rfl ?_
  refine WL.nil ?_
  refine WX.regs (L' := [(0, _)]) ?_
  refine WX.next ?_
  refine WC.seq ?_
  refine WC.region ?_
  refine wlv (op_assign (lt_ rfl) rfl) rfl ?_
  refine WL.nil ?_
  refine WX.regs (L' := [(0, _), (4, _)]) ?_
  refine WX.next ?_
  refine WC.seq ?_
  refine WC.seq ?_
  refine WC.region ?_
  refine wlv (op_move (lt_ rfl) rfl) rfl ?_
  refine wlv (op_len Try.underlying23 (lt_ rfl) rfl) rfl ?_
  refine wlv (op_move (lt_ rfl) rfl) rfl ?_
  refine WL.nil ?_
  refine WX.regs (L' := [(4, _), (7, _), (8, _), (9, _)]) ?_
  refine WX.next ?_
  refine WC.block ?_
  refine WC.loop (X := Nat) (fun q => 8 - q) (fun q => q ≤ 8) (fun q => [(4, .int .u64 ((vl (bs.take q) : Nat) : Int)), (7, .slice A 8 c), (8, .int .i64 8), (9, .int .i64 (q : Int))]) (fun q => [rd (.slice A 8 c) 1 8 (bvs bs), frameC w0 (MutF [])]) (0) (by omega) (fun a w hs => hs.sub xY xT) ?_
  rintro i hi
  try dsimp only
  refine WC.seq ?_
  refine WC.region ?_
  refine wlv (op_lss (lt_ rfl) rfl rfl) rfl ?_
  refine WL.nil ?_
  refine WX.regs (L' := [(4, _), (7, _), (8, _), (9, _), (10, _)]) ?_
  refine WX.next ?_
  refine WC.seq ?_
  refine WC.cond rfl (fun h1 => ?_) (fun h1 => ?_)
  ·
    refine WC.skip ?_
    refine WX.next ?_
    refine WC.seq ?_
    refine WC.block ?_
    refine WC.seq ?_
    refine WC.region ?_
    have hvl : vl (bs.take i) < 256 ^ 7 := Nat.lt_of_lt_of_le (vl_lt _) (Nat.pow_le_pow_right (by decide) (by rw [List.length_take]; omega))
    have hc := (bs.getD i 0).toNat_lt
    refine wlv (op_index Try.underlying23 sz5 (lt_ rfl) rfl rfl (by omega) (by omega) (by decide) xS) rfl ?_
    refine wlv (op_loadS fl5 (lt_ rfl) rfl xS (bvs_at (k := i) (by omega) (by omega))) rfl ?_
    refine wlv (op_assign (lt_ rfl) rfl) rfl ?_
    refine WL.nil ?_
    refine WX.regs (L' := [(4, _), (6, _), (7, _), (8, _), (9, _)]) ?_
    refine WX.next ?_
    refine WC.region ?_
    refine wlv (op_move (lt_ rfl) rfl) rfl ?_
    refine wlv (op_shl8u (lt_ rfl) rfl rfl (by omega)) rfl ?_
    refine wlv (op_move (lt_ rfl) rfl) rfl ?_
    refine wlv (op_conv8u (by kernel_rfl) Try.underlying127 (lt_ rfl) rfl) rfl ?_
    refine wlv (op_or8u (lt_ rfl) rfl rfl (by omega)) rfl ?_
    refine wlv (op_assign (lt_ rfl) rfl) rfl ?_
    refine WL.nil ?_
    refine WX.regs (L' := [(4, _), (7, _), (8, _), (9, _)]) ?_
    refine WX.in_normal ?_
    refine WX.next ?_
    refine WC.region ?_
    refine wlv (op_add (lt_ rfl) rfl rfl (by omega)) rfl ?_
    refine wlv (op_move (lt_ rfl) rfl) rfl ?_
    refine WL.nil ?_
    refine WX.regs (L' := [(4, _), (7, _), (8, _), (9, _)]) ?_
    rw [← vl_step bs i (by omega)]
    refine WX.meet (i + 1) ⟨by omega, by omega⟩ (fun a w hs => hs.sub xY xT)
  ·
    obtain rfl : i = 8 := by omega
    rw [show bs.take 8 = bs from List.take_of_length_le (by omega)]
    refine WC.exit ?_
    refine WX.then_exit ?_
    refine WX.then_exit ?_
    refine WX.in_hit ?_
    refine WX.next ?_
    refine WC.seq ?_
    refine WC.region ?_
    refine wlv (op_move (lt_ rfl) rfl) rfl ?_
    refine wlv (op_minN (a := vl bs) (b := 2147483647) (lt_ rfl) rfl rfl) rfl ?_
    refine wlv (op_convu64i (by kernel_rfl) Try.underlying3 (lt_ rfl) rfl (by omega)) rfl ?_
    refine wlv (op_move (lt_ rfl) rfl) rfl ?_
    refine wlv (op_leq (lt_ rfl) rfl rfl) rfl ?_
    refine wlv (op_assign (lt_ rfl) rfl) rfl ?_
    refine wlv (op_assign (lt_ rfl) rfl) rfl ?_
    refine WL.nil ?_
    refine WX.regs (L' := [(2, _), (3, _)]) ?_
    refine WX.next ?_
    refine WC.ret ?_
    have ed : decide (vl bs ≤ 2147483647) = decide (((vl bs : Nat) : Int) ≤ 2147483647) := decide_eq_decide.2 (by omega)
    rw [ed]
    exact Fin.ret2 xI (()) (trivial) Try.results57 rfl (.tmp rfl) (.tmp rfl) xT (by simp)
set_option maxHeartbeats 400000 in
set_option maxRecDepth 10000 in
theorem f37_spec (A : Option Addr) (m c : Nat) (bs : List UInt8) (hm : bs.length = m) (hmx : m ≤ 140737488355328) :
    Spec Try.prog 37 [.slice A m c] [] [rd (.slice A m c) 1 m (bvs bs)] (R := Option Addr × Nat) (fun _ => True) (fun r => .slice r.1 m r.2) (fun r => [own (.slice r.1 m r.2) 5 1 m (bvs bs)]) := by
  refine Spec.intro Try.func37 Try.ntmps37 rfl (by simp) (by simp) fun w0 => ?_
  refine WC.seq ?_
  refine WC.region ?_
  refine wlv (op_assign (lt_ rfl) rfl) rfl ?_
  refine WL.nil ?_
  refine WX.regs (L' := [(0, _)]) ?_
  refine WX.next ?_
  refine WC.seq ?_
  refine WC.seq ?_
  refine WC.region ?_
  refine wlv (op_move (lt_ rfl) rfl) rfl ?_
  refine wlv (op_eqlsnil Try.underlying23 (lt_ rfl) rfl rfl) rfl ?_
  refine WL.nil ?_
  refine WX.regs (L' := [(0, _), (4, _)]) ?_
  refine WX.next ?_
  refine WC.cond rfl (fun h1 => ?_) (fun h1 => ?_)
  ·
    subst h1
    refine WC.none0 xS (by decide) (fun hm0 => ?_)
    subst hm0
    obtain rfl : bs = [] := List.eq_nil_of_length_eq_zero hm
    refine WC.nilslice 5 1 ?_
    refine WC.seq ?_
    refine WC.region ?_
    refine wlv (op_assign (lt_ rfl) rfl) rfl ?_
    refine WL.nil ?_
    refine WX.regs (L' := [(2, _)]) ?_
    refine WX.next ?_
    refine WC.ret ?_
    refine WX.then_ret ?_
    exact Fin.ret1 xI ((none, 0)) (trivial) Try.results37 (.tmp rfl) xT (by simp)
  ·
    refine WC.skip ?_
    refine WX.next ?_
    refine WC.seq ?_
    refine WC.region ?_
    refine wl1 (op_lit0 Try.underlying23 ti5 (lt_ rfl)) rfl fun b1 => ?_
    refine wlv (op_move (lt_ rfl) rfl) rfl ?_
    refine wl2 (op_append0 Try.underlying23 ti5 rfl (by decide) (lt_ rfl) rfl rfl xK xS xO (by omega) (by omega)) rfl fun A1 c1 => ?_
    refine wlv (op_assign (lt_ rfl) rfl) rfl ?_
    refine WL.nil ?_
    refine WX.regs (L' := [(2, _)]) ?_
    refine WX.next ?_
    refine WC.ret ?_
    exact Fin.ret1 xI ((_, _)) (trivial) Try.results37 (.tmp rfl) xT (by simp)
set_option maxHeartbeats 400000 in
set_option maxRecDepth 10000 in
theorem f60_spec (A : Option Addr) (m c : Nat) (rs : List Bs) (hm : rs.length = m) (hmx : m ≤ 1000000) :
    Spec Try.prog 60 [.slice A m c] [] [rd (.slice A m c) 1 m (rs.map Bs.v)] (R := Option Addr × Nat) (fun _ => True) (fun r => .slice r.1 m r.2) (fun r => [own (.slice r.1 m r.2) 23 1 m (rs.map Bs.v)]) := by
  refine Spec.intro Try.func60 Try.ntmps60 rfl (by simp) (by simp) fun w0 => ?_
  refine WC.seq ?_
  refine WC.region ?_
  refine wlv (op_assign (lt_ rfl) rfl) rfl ?_
  refine WL.nil ?_
  refine WX.regs (L' := [(0, _)]) ?_
  refine WX.next ?_
  refine WC.seq ?_
  refine WC.seq ?_
  refine WC.region ?_
  refine wlv (op_move (lt_ rfl) rfl) rfl ?_
  refine wlv (op_eqlsnil Try.underlying70 (lt_ rfl) rfl rfl) rfl ?_
  refine WL.nil ?_
  refine WX.regs (L' := [(0, _), (4, _)]) ?_
  refine WX.next ?_
  refine WC.cond rfl (fun h1 => ?_) (fun h1 => ?_)
  ·
    subst h1
    refine WC.none0 xS (by decide) (fun hm0 => ?_)
    subst hm0
    obtain rfl : rs = [] := List.eq_nil_of_length_eq_zero hm
    refine WC.nilslice 23 1 ?_
    refine WC.seq ?_
    refine WC.region ?_
    refine wlv (op_assign (lt_ rfl) rfl) rfl ?_
    refine WL.nil ?_
    refine WX.regs (L' := [(2, _)]) ?_
    refine WX.next ?_
    refine WC.ret ?_
    refine WX.then_ret ?_
    exact Fin.ret1 xI ((none, 0)) (trivial) Try.results60 (.tmp rfl) xT (by simp)
  ·
    refine WC.skip ?_
    refine WX.next ?_
    refine WC.seq ?_
    refine WC.region ?_
    refine wl1 (op_lit0 Try.underlying70 ti23 (lt_ rfl)) rfl fun b1 => ?_
    refine wlv (op_move (lt_ rfl) rfl) rfl ?_
    refine wl2 (op_append0 Try.underlying70 ti23 rfl (by decide) (lt_ rfl) rfl rfl xK xS (rows_one _) (by omega) (by omega)) rfl fun A1 c1 => ?_
    refine wlv (op_assign (lt_ rfl) rfl) rfl ?_
    refine WL.nil ?_
    refine WX.regs (L' := [(2, _)]) ?_
    refine WX.next ?_
    refine WC.ret ?_
    exact Fin.ret1 xI ((_, _)) (trivial) Try.results60 (.tmp rfl) xT (by simp)
set_option maxHeartbeats 400000 in
set_option maxRecDepth 10000 in
theorem f46_spec (A : Option Addr) (m c : Nat) (hc : m ≤ c) :
    Spec Try.prog 46 [.slice A m c] [] [] (R := Unit) (fun _ => True) (fun _ => .slice A m m) (fun _ => []) := by
  refine Spec.intro Try.func46 Try.ntmps46 rfl (by simp) (by simp) fun w0 => ?_
  refine WC.seq ?_
  refine WC.region ?_
  refine wlv (op_assign (lt_ rfl) rfl) rfl ?_
  refine WL.nil ?_
  refine WX.regs (L' := [(0, _)]) ?_
  refine WX.next ?_
  refine WC.seq ?_
  refine WC.region ?_
  refine wlv (op_move (lt_ rfl) rfl) rfl ?_
  refine wlv (op_move (lt_ rfl) rfl) rfl ?_
  refine wlv (op_len Try.underlying70 (lt_ rfl) rfl) rfl ?_
  refine wlv (op_move (lt_ rfl) rfl) rfl ?_
  refine wlv (op_len Try.underlying70 (lt_ rfl) rfl) rfl ?_
  refine wlv (op_clip Try.underlying70 sz23 (lt_ rfl) rfl rfl rfl hc) rfl ?_
  refine wlv (op_assign (lt_ rfl) rfl) rfl ?_
  refine WL.nil ?_
  refine WX.regs (L' := [(2, _)]) ?_
  refine WX.next ?_
  refine WC.ret ?_
  exact Fin.ret1 xI (()) (trivial) Try.results46 (.tmp rfl) xT (by simp)
set_option maxHeartbeats 400000 in
set_option maxRecDepth 10000 in
theorem f59_spec (r : Rs) :
    Spec Try.prog 59 [.agg r.cells.toArray] [] [] (R := Unit) (fun _ => True) (fun _ => .bool (decide (¬ r.k = 2))) (fun _ => []) := by
  refine Spec.intro Try.func59 Try.ntmps59 rfl (by simp) (by simp) fun w0 => ?_
  refine WC.seq ?_
  refine WC.region ?_
  refine wl1 (op_box (lt_ rfl) rfl rfl) rfl fun b1 => ?_
  refine wlv (op_assign (lt_ rfl) rfl) rfl ?_
  refine WL.nil ?_
  refine WX.regs (L' := [(1, _)]) ?_
  refine WX.next ?_
  refine WC.seq ?_
  refine WC.region ?_
  refine wlv (op_fieldAddr fo89_0 (lt_ rfl) rfl) rfl ?_
  refine wlv (op_load1 fl3 (lt_ rfl) rfl xM rfl) rfl ?_
  refine wlv (op_neq (lt_ rfl) rfl rfl) rfl ?_
  refine wlv (op_assign (lt_ rfl) rfl) rfl ?_
  refine WL.nil ?_
  refine WX.regs (L' := [(2, _)]) ?_
  refine WX.next ?_
  refine WC.ret ?_
  exact Fin.ret1 xI (()) (trivial) Try.results59 (.tmp rfl) xT (by simp)
set_option maxHeartbeats 400000 in
set_option maxRecDepth 10000 in
theorem f58_spec (A : Option Addr) (m c : Nat) (l : List Rs) (hm : l.length = m) (hmx : m ≤ 1000000) :
    Spec Try.prog 58 [.slice A m c, .func (.func 59) #[] #[]] [] [rd (.slice A m c) 4 m (l.flatMap Rs.cells)] (R := Unit) (fun _ => True) (fun _ => .int .i64 (if ((l.map Rs.k).takeWhile (· == 2)).length = m then -1 else ((((l.map Rs.k).takeWhile (· == 2)).length : Nat) : Int))) (fun _ => []) := by
  have hcl : ∀ r : Rs, r.cells.length = 4 := fun _ => rfl
  have htl := tw_le (l.map Rs.k)
  rw [List.length_map, hm] at htl
  refine Spec.intro Try.func58 Try.ntmps58 rfl (by simp) (by simp) fun w0 => ?_
  refine WC.seq ?_
  refine WC.region ?_
  refine wlv (op_assign (lt_ rfl) rfl) rfl ?_
  refine WL.nil ?_
  refine WX.regs (L' := [(0, _), (1, _)]) ?_
  refine WX.next ?_
  refine WC.seq ?_
  refine WC.seq ?_
  refine WC.region ?_
  refine wlv (op_move (lt_ rfl) rfl) rfl ?_
  refine wlv (op_len Try.underlying100 (lt_ rfl) rfl) rfl ?_
  refine wlv (op_move (lt_ rfl) rfl) rfl ?_
  refine WL.nil ?_
  refine WX.regs (L' := [(0, _), (1, _), (7, _), (8, _)]) ?_
  refine WX.next ?_
  refine WC.block ?_
  refine WC.loop (X := Nat) (fun q => m - q) (fun q => q ≤ ((l.map Rs.k).takeWhile (· == 2)).length) (fun q => [(0, .slice A m c), (1, .func (.func 59) #[] #[]), (7, .int .i64 (m : Int)), (8, .int .i64 (q : Int))]) (fun q => [rd (.slice A m c) 4 m (l.flatMap Rs.cells), frameC w0 (MutF [])]) (0) (Nat.zero_le _) (fun a w hs => hs.sub xY xT) ?_
  rintro i hi
  try dsimp only
  refine WC.seq ?_
  refine WC.region ?_
  refine wlv (op_lss (lt_ rfl) rfl rfl) rfl ?_
  refine WL.nil ?_
  refine WX.regs (L' := [(0, _), (1, _), (7, _), (8, _), (9, _)]) ?_
  refine WX.next ?_
  refine WC.seq ?_
  refine WC.cond rfl (fun h1 => ?_) (fun h1 => ?_)
  ·
    refine WC.skip ?_
    refine WX.next ?_
    refine WC.seq ?_
    refine WC.block ?_
    refine WC.seq ?_
    refine WC.region ?_
    obtain ⟨r, hr⟩ : ∃ r, l[i]? = some r := ⟨l[i]'(by omega), List.getElem?_eq_getElem _⟩
    have hx : ∀ j, j = i * 4 → ((l.flatMap Rs.cells).drop j).take 4 = r.cells := fun j hj => by rw [hj]; exact flat_at hcl l i r hr
    have hgd : (l.map Rs.k).getD i 0 = r.k := by simp [List.getD_eq_getElem?_getD, hr]
    have hst := tw_step (ks := l.map Rs.k) (i := i) (by rw [List.length_map]; omega) hi
    refine wlv (op_move (lt_ rfl) rfl) rfl ?_
    refine wlv (op_assign (lt_ rfl) rfl) rfl ?_
    refine WL.nil ?_
    refine WX.regs (L' := [(0, _), (1, _), (5, _), (7, _), (8, _)]) ?_
    refine WX.next ?_
    refine WC.seq ?_
    refine WC.region ?_
    refine wlv (op_move (lt_ rfl) rfl) rfl ?_
    refine wlv (op_move (lt_ rfl) rfl) rfl ?_
    refine wlv (op_move (lt_ rfl) rfl) rfl ?_
    refine wlv (op_index Try.underlying100 sz89 (lt_ rfl) rfl rfl (by omega) (by omega) (by decide) xS) rfl ?_
    refine wlv (op_loadSN ag89 (lt_ rfl) rfl xS (by rw [hx _ (by omega)]; rfl) (by decide)) rfl ?_
    rw [hx _ (by omega)]
    refine wlx (op_callv (f59_spec r) (by unfold Callable; kernel_rfl) (lt_ rfl) rfl rfl xG) rfl ?_
    rintro _ _
    refine WL.nil ?_
    refine WX.regs (L' := [(0, _), (1, _), (5, _), (7, _), (8, _), (16, _)]) ?_
    refine WX.next ?_
    refine WC.cond rfl (fun h2 => ?_) (fun h2 => ?_)
    ·
      refine WC.seq ?_
      refine WC.region ?_
      refine wlv (op_move (lt_ rfl) rfl) rfl ?_
      refine wlv (op_assign (lt_ rfl) rfl) rfl ?_
      refine WL.nil ?_
      refine WX.regs (L' := [(4, _)]) ?_
      refine WX.next ?_
      refine WC.ret ?_
      refine WX.in_ret ?_
      refine WX.then_ret ?_
      refine WX.then_ret ?_
      refine WX.in_ret ?_
      refine WX.then_ret ?_
      have e : ((l.map Rs.k).takeWhile (· == 2)).length = i := by rcases hst with ⟨h1, _⟩ | ⟨h1, _⟩; exact h1; (exfalso; rw [hgd] at h1; exact h2 h1)
      rw [e, if_neg (by omega)]
      exact Fin.ret1 xI (()) (trivial) Try.results58 (.tmp rfl) xT (by simp)
    ·
      have h2c := h2
      refine WC.skip ?_
      refine WX.in_normal ?_
      refine WX.next ?_
      refine WC.region ?_
      refine wlv (op_add (lt_ rfl) rfl rfl (by omega)) rfl ?_
      refine wlv (op_move (lt_ rfl) rfl) rfl ?_
      refine WL.nil ?_
      refine WX.regs (L' := [(0, _), (1, _), (7, _), (8, _)]) ?_
      refine WX.meet (i + 1) ⟨by rcases hst with ⟨h1, h2⟩ | ⟨h1, h2⟩; (exfalso; exact h2 (by rw [hgd]; exact Decidable.not_not.1 h2c)); exact h2, by omega⟩ (fun a w hs => hs.sub xY xT)
  ·
    refine WC.exit ?_
    refine WX.then_exit ?_
    refine WX.then_exit ?_
    refine WX.in_hit ?_
    refine WX.next ?_
    refine WC.seq ?_
    refine WC.region ?_
    refine wlv (op_assign (lt_ rfl) rfl) rfl ?_
    refine WL.nil ?_
    refine WX.regs (L' := [(4, _)]) ?_
    refine WX.next ?_
    refine WC.ret ?_
    rw [if_pos (by omega)]
    exact Fin.ret1 xI (()) (trivial) Try.results58 (.tmp rfl) xT (by simp)
set_option maxHeartbeats 400000 in
set_option maxRecDepth 10000 in
theorem f25_spec (m : Int) :
    Spec Try.prog 25 [.int .i64 m] [] [] (R := Int × Int) (fun q => q = if 0 ≤ m ∧ m ≤ 100000 then ((((need m.toNat : Nat) : Int), 0) : Int × Int) else (0, 2)) (fun q => .tuple #[.int .i64 q.1, .int .i64 q.2]) (fun _ => []) := by
  refine Spec.intro Try.func25 Try.ntmps25 rfl (by simp) (by simp) fun w0 => ?_
  refine WC.seq ?_
  refine WC.region ?_
  refine wlv (op_assign (lt_ rfl) rfl) rfl ?_
  refine wlv (op_assign (lt_ rfl) rfl) rfl ?_
  refine WL.nil ?_
  refine WX.regs (L' := [(0, _)]) ?_
  refine WX.next ?_
  refine WC.seq ?_
  refine WC.seq ?_
  refine WC.region ?_
  refine wlv (op_move (lt_ rfl) rfl) rfl ?_
  refine wlv (op_lss (lt_ rfl) rfl rfl) rfl ?_
  refine wlv (op_move (lt_ rfl) rfl) rfl ?_
  refine WL.split (t := 6) rfl (fun g6 => ?_) (fun g6 => ?_)
  ·
    refine wlg_no rfl rfl rfl rfl rfl (by decide) ?_
    refine wlg_no rfl rfl rfl rfl rfl (by decide) ?_
    refine wlv (op_pickT (lt_ rfl) rfl rfl) rfl ?_
    refine WL.nil ?_
    refine WX.regs (L' := [(0, _), (9, _)]) ?_
    refine WX.next ?_
    refine WC.condT rfl ?_
    refine WC.seq ?_
    refine WC.region ?_
    refine wlv (op_assign (lt_ rfl) rfl) rfl ?_
    refine wlv (op_assign (lt_ rfl) rfl) rfl ?_
    refine WL.nil ?_
    refine WX.regs (L' := [(2, _), (3, _)]) ?_
    refine WX.next ?_
    refine WC.ret ?_
    refine WX.then_ret ?_
    exact Fin.ret2 xI ((0, 2)) (by rw [if_neg (by omega)]) Try.results25 rfl (.tmp rfl) (.tmp rfl) xT (by simp)
  ·
    refine wlgv (op_move (lt_ rfl) rfl) rfl rfl rfl ?_
    refine wlgv (op_gtr (lt_ rfl) rfl rfl) rfl rfl rfl ?_
    refine wlv (op_pickF (lt_ rfl) rfl rfl) rfl ?_
    refine WL.nil ?_
    refine WX.regs (L' := [(0, _), (9, _)]) ?_
    refine WX.next ?_
    refine WC.cond rfl (fun h1 => ?_) (fun h1 => ?_)
    ·
      refine WC.seq ?_
      refine WC.region ?_
      refine wlv (op_assign (lt_ rfl) rfl) rfl ?_
      refine wlv (op_assign (lt_ rfl) rfl) rfl ?_
      refine WL.nil ?_
      refine WX.regs (L' := [(2, _), (3, _)]) ?_
      refine WX.next ?_
      refine WC.ret ?_
      refine WX.then_ret ?_
      exact Fin.ret2 xI ((0, 2)) (by rw [if_neg (by omega)]) Try.results25 rfl (.tmp rfl) (.tmp rfl) xT (by simp)
    ·
      refine WC.skip ?_
      refine WX.next ?_
      refine WC.seq ?_
      refine WC.region ?_
      refine wlv (op_move (lt_ rfl) rfl) rfl ?_
      refine wlx (op_call (f41_spec m) ca41 (lt_ rfl) rfl) rfl ?_
      rintro ⟨q1, q2⟩ hq
      dsimp only
      refine wlv (op_extract (lt_ rfl) rfl rfl) rfl ?_
      refine wlv (op_extract (lt_ rfl) rfl rfl) rfl ?_
      refine wlv (op_assign (lt_ rfl) rfl) rfl ?_
      refine wlv (op_assign (lt_ rfl) rfl) rfl ?_
      refine WL.nil ?_
      refine WX.regs (L' := [(2, _), (3, _)]) ?_
      refine WX.next ?_
      refine WC.ret ?_
      exact Fin.ret2 xI ((q1, q2)) (by rw [if_pos (by omega)] at hq; rw [if_pos (by omega)]; exact hq) Try.results25 rfl (.tmp rfl) (.tmp rfl) xT (by simp)
set_option maxHeartbeats 400000 in
set_option maxRecDepth 10000 in
theorem f16_spec (bj bd : Nat) (J : Jn) (Ae : Option Addr) (me ce : Nat) :
    Spec Try.prog 16 [.pointer (some ⟨bj, 0, none⟩)] [blk bj (jcells J bd Ae me ce) 76] [] (R := Unit) (fun _ => True) (fun _ => .int .i64 J.failed) (fun _ => [blk bj (jcells J bd Ae me ce) 76]) := by
  refine Spec.intro Try.func16 Try.ntmps16 rfl (by simp) (by simp) fun w0 => ?_
  refine WC.seq ?_
  refine WC.region ?_
  refine wlv (op_assign (lt_ rfl) rfl) rfl ?_
  refine WL.nil ?_
  refine WX.regs (L' := [(0, _)]) ?_
  refine WX.next ?_
  refine WC.seq ?_
  refine WC.seq ?_
  refine WC.region ?_
  refine wlv (op_move (lt_ rfl) rfl) rfl ?_
  refine wlv (op_eqlnil Try.underlying32 (lt_ rfl) rfl rfl) rfl ?_
  refine WL.nil ?_
  refine WX.regs (L' := [(0, _), (4, _)]) ?_
  refine WX.next ?_
  refine WC.condF rfl ?_
  refine WC.skip ?_
  refine WX.next ?_
  refine WC.seq ?_
  refine WC.region ?_
  refine wlv (op_move (lt_ rfl) rfl) rfl ?_
  refine wlv (op_nilCheck (lt_ rfl) rfl) rfl ?_
  refine wlv (op_fieldAddr fo76_7 (lt_ rfl) rfl) rfl ?_
  refine wlv (op_load1 fl27 (lt_ rfl) rfl xM rfl) rfl ?_
  refine wlv (op_assign (lt_ rfl) rfl) rfl ?_
  refine WL.nil ?_
  refine WX.regs (L' := [(2, _)]) ?_
  refine WX.next ?_
  refine WC.ret ?_
  exact Fin.ret1 xI (()) (trivial) Try.results16 (.tmp rfl) xT (by simp)
set_option maxHeartbeats 400000 in
set_option maxRecDepth 10000 in
theorem f18_spec (bj bd : Nat) (J : Jn) (Ae : Option Addr) (me ce : Nat) :
    Spec Try.prog 18 [.pointer (some ⟨bj, 0, none⟩)] [blk bj (jcells J bd Ae me ce) 76] [] (R := Unit) (fun _ => True) (fun _ => .int .i64 J.first) (fun _ => [blk bj (jcells J bd Ae me ce) 76]) := by
  refine Spec.intro Try.func18 Try.ntmps18 rfl (by simp) (by simp) fun w0 => ?_
  refine WC.seq ?_
  refine WC.region ?_
  refine wlv (op_assign (lt_ rfl) rfl) rfl ?_
  refine WL.nil ?_
  refine WX.regs (L' := [(0, _)]) ?_
  refine WX.next ?_
  refine WC.seq ?_
  refine WC.seq ?_
  refine WC.region ?_
  refine wlv (op_move (lt_ rfl) rfl) rfl ?_
  refine wlv (op_eqlnil Try.underlying32 (lt_ rfl) rfl rfl) rfl ?_
  refine WL.nil ?_
  refine WX.regs (L' := [(0, _), (4, _)]) ?_
  refine WX.next ?_
  refine WC.condF rfl ?_
  refine WC.skip ?_
  refine WX.next ?_
  refine WC.seq ?_
  refine WC.region ?_
  refine wlv (op_move (lt_ rfl) rfl) rfl ?_
  refine wlv (op_nilCheck (lt_ rfl) rfl) rfl ?_
  refine wlv (op_fieldAddr fo76_3 (lt_ rfl) rfl) rfl ?_
  refine wlv (op_load1 fl3 (lt_ rfl) rfl xM rfl) rfl ?_
  refine wlv (op_assign (lt_ rfl) rfl) rfl ?_
  refine WL.nil ?_
  refine WX.regs (L' := [(2, _)]) ?_
  refine WX.next ?_
  refine WC.ret ?_
  exact Fin.ret1 xI (()) (trivial) Try.results18 (.tmp rfl) xT (by simp)
set_option maxHeartbeats 400000 in
set_option maxRecDepth 10000 in
theorem f21_spec (bj bd : Nat) (J : Jn) (Ae : Option Addr) (me ce : Nat) :
    Spec Try.prog 21 [.pointer (some ⟨bj, 0, none⟩)] [blk bj (jcells J bd Ae me ce) 76] [] (R := Unit) (fun _ => True) (fun _ => .int .i64 J.synced) (fun _ => [blk bj (jcells J bd Ae me ce) 76]) := by
  refine Spec.intro Try.func21 Try.ntmps21 rfl (by simp) (by simp) fun w0 => ?_
  refine WC.seq ?_
  refine WC.region ?_
  refine wlv (op_assign (lt_ rfl) rfl) rfl ?_
  refine WL.nil ?_
  refine WX.regs (L' := [(0, _)]) ?_
  refine WX.next ?_
  refine WC.seq ?_
  refine WC.seq ?_
  refine WC.region ?_
  refine wlv (op_move (lt_ rfl) rfl) rfl ?_
  refine wlv (op_eqlnil Try.underlying32 (lt_ rfl) rfl rfl) rfl ?_
  refine WL.nil ?_
  refine WX.regs (L' := [(0, _), (4, _)]) ?_
  refine WX.next ?_
  refine WC.condF rfl ?_
  refine WC.skip ?_
  refine WX.next ?_
  refine WC.seq ?_
  refine WC.region ?_
  refine wlv (op_move (lt_ rfl) rfl) rfl ?_
  refine wlv (op_nilCheck (lt_ rfl) rfl) rfl ?_
  refine wlv (op_fieldAddr fo76_6 (lt_ rfl) rfl) rfl ?_
  refine wlv (op_load1 fl3 (lt_ rfl) rfl xM rfl) rfl ?_
  refine wlv (op_assign (lt_ rfl) rfl) rfl ?_
  refine WL.nil ?_
  refine WX.regs (L' := [(2, _)]) ?_
  refine WX.next ?_
  refine WC.ret ?_
  exact Fin.ret1 xI (()) (trivial) Try.results21 (.tmp rfl) xT (by simp)
set_option maxHeartbeats 400000 in
set_option maxRecDepth 10000 in
theorem f31_spec (bj bd : Nat) (J : Jn) (Ae : Option Addr) (me ce : Nat) :
    Spec Try.prog 31 [.pointer (some ⟨bj, 0, none⟩)] [blk bj (jcells J bd Ae me ce) 76] [] (R := Unit) (fun _ => True) (fun _ => .int .i64 J.gen) (fun _ => [blk bj (jcells J bd Ae me ce) 76]) := by
  refine Spec.intro Try.func31 Try.ntmps31 rfl (by simp) (by simp) fun w0 => ?_
  refine WC.seq ?_
  refine WC.region ?_
  refine wlv (op_assign (lt_ rfl) rfl) rfl ?_
  refine WL.nil ?_
  refine WX.regs (L' := [(0, _)]) ?_
  refine WX.next ?_
  refine WC.seq ?_
  refine WC.seq ?_
  refine WC.region ?_
  refine wlv (op_move (lt_ rfl) rfl) rfl ?_
  refine wlv (op_eqlnil Try.underlying32 (lt_ rfl) rfl rfl) rfl ?_
  refine WL.nil ?_
  refine WX.regs (L' := [(0, _), (4, _)]) ?_
  refine WX.next ?_
  refine WC.condF rfl ?_
  refine WC.skip ?_
  refine WX.next ?_
  refine WC.seq ?_
  refine WC.region ?_
  refine wlv (op_move (lt_ rfl) rfl) rfl ?_
  refine wlv (op_nilCheck (lt_ rfl) rfl) rfl ?_
  refine wlv (op_fieldAddr fo76_2 (lt_ rfl) rfl) rfl ?_
  refine wlv (op_load1 fl3 (lt_ rfl) rfl xM rfl) rfl ?_
  refine wlv (op_assign (lt_ rfl) rfl) rfl ?_
  refine WL.nil ?_
  refine WX.regs (L' := [(2, _)]) ?_
  refine WX.next ?_
  refine WC.ret ?_
  exact Fin.ret1 xI (()) (trivial) Try.results31 (.tmp rfl) xT (by simp)
set_option maxHeartbeats 400000 in
set_option maxRecDepth 10000 in
theorem f17_spec (bj bd : Nat) (J : Jn) (Ae : Option Addr) (me ce : Nat) (h : -1000000000000 ≤ J.first ∧ J.first ≤ 1000000000000 ∧ me ≤ 1000000) :
    Spec Try.prog 17 [.pointer (some ⟨bj, 0, none⟩)] [blk bj (jcells J bd Ae me ce) 76] [] (R := Unit) (fun _ => True) (fun _ => .int .i64 (J.first + me)) (fun _ => [blk bj (jcells J bd Ae me ce) 76]) := by
  refine Spec.intro Try.func17 Try.ntmps17 rfl (by simp) (by simp) fun w0 => ?_
  refine WC.seq ?_
  refine WC.region ?_
  refine wlv (op_assign (lt_ rfl) rfl) rfl ?_
  refine WL.nil ?_
  refine WX.regs (L' := [(0, _)]) ?_
  refine WX.next ?_
  refine WC.seq ?_
  refine WC.seq ?_
  refine WC.region ?_
  refine wlv (op_move (lt_ rfl) rfl) rfl ?_
  refine wlv (op_eqlnil Try.underlying32 (lt_ rfl) rfl rfl) rfl ?_
  refine WL.nil ?_
  refine WX.regs (L' := [(0, _), (4, _)]) ?_
  refine WX.next ?_
  refine WC.condF rfl ?_
  refine WC.skip ?_
  refine WX.next ?_
  refine WC.seq ?_
  refine WC.drawnH mo 999 ?_
  refine WA.take (i := 0) rfl (by kernel_rfl) (fun _ _ _ h => h) rfl (op_move (lt_ rfl) rfl) xT ?_
  refine WA.take (i := 1) rfl (by kernel_rfl) (fun _ _ _ h => h) rfl (op_nilCheck (lt_ rfl) rfl) xT ?_
  refine WA.take (i := 2) rfl (by kernel_rfl) (fun _ _ _ h => h) rfl (op_fieldAddr fo76_3 (lt_ rfl) rfl) xT ?_
  refine WA.take (i := 3) rfl (by kernel_rfl) (fun _ _ _ h => h) rfl (op_load1 fl3 (lt_ rfl) rfl xM rfl) xT ?_
  refine WA.take (i := 4) rfl (by kernel_rfl) (fun _ _ _ h => h) rfl (op_move (lt_ rfl) rfl) xT ?_
  refine WA.take (i := 5) rfl (by kernel_rfl) (fun _ _ _ h => h) rfl (op_nilCheck (lt_ rfl) rfl) xT ?_
  refine WA.take (i := 6) rfl (by kernel_rfl) (fun _ _ _ h => h) rfl (op_fieldAddr fo76_4 (lt_ rfl) rfl) xT ?_
  refine WA.take (i := 7) rfl (by kernel_rfl) (fun _ _ _ h => h) rfl (op_load1 fl70 (lt_ rfl) rfl xM rfl) xT ?_
  refine WA.take (i := 8) rfl (by kernel_rfl) (fun _ _ _ h => h) rfl (op_len Try.underlying70 (lt_ rfl) rfl) xT ?_
  refine WA.take (i := 9) rfl (by kernel_rfl) (fun _ _ _ h => h) rfl (op_add (lt_ rfl) rfl rfl (by omega)) xT ?_
  refine WA.take (i := 10) rfl (by kernel_rfl) (fun _ _ _ h => h) rfl (op_assign (lt_ rfl) rfl) xT ?_
  refine WA.done (by kernel_rfl) ?_
  refine WX.regs (L' := [(2, _)]) ?_
  refine WX.next ?_
  refine WC.ret ?_
  exact Fin.ret1 xI (()) (trivial) Try.results17 (.tmp rfl) xT (by simp)
set_option maxHeartbeats 400000 in
set_option maxRecDepth 10000 in
theorem f26_spec (bj bd : Nat) (J : Jn) (Ae : Option Addr) (me ce : Nat) (h : 0 ≤ J.se ∧ J.se ≤ 1000000 ∧ 0 ≤ J.used ∧ J.used ≤ 1000000) :
    Spec Try.prog 26 [.pointer (some ⟨bj, 0, none⟩)] [blk bj (jcells J bd Ae me ce) 76] [] (R := Unit) (fun _ => True) (fun _ => .int .i64 (J.se / 2 - J.used)) (fun _ => [blk bj (jcells J bd Ae me ce) 76]) := by
  refine Spec.intro Try.func26 Try.ntmps26 rfl (by simp) (by simp) fun w0 => ?_
  refine WC.seq ?_
  refine WC.region ?_
  refine wlv (op_assign (lt_ rfl) rfl) rfl ?_
  refine WL.nil ?_
  refine WX.regs (L' := [(0, _)]) ?_
  refine WX.next ?_
  refine WC.seq ?_
  refine WC.seq ?_
  refine WC.region ?_
  refine wlv (op_move (lt_ rfl) rfl) rfl ?_
  refine wlv (op_eqlnil Try.underlying32 (lt_ rfl) rfl rfl) rfl ?_
  refine WL.nil ?_
  refine WX.regs (L' := [(0, _), (4, _)]) ?_
  refine WX.next ?_
  refine WC.condF rfl ?_
  refine WC.skip ?_
  refine WX.next ?_
  refine WC.seq ?_
  refine WC.drawnH mo 999 ?_
  refine WA.take (i := 0) rfl (by kernel_rfl) (fun _ _ _ h => h) rfl (op_move (lt_ rfl) rfl) xT ?_
  refine WA.take (i := 1) rfl (by kernel_rfl) (fun _ _ _ h => h) rfl (op_nilCheck (lt_ rfl) rfl) xT ?_
  refine WA.take (i := 2) rfl (by kernel_rfl) (fun _ _ _ h => h) rfl (op_fieldAddr fo76_0 (lt_ rfl) rfl) xT ?_
  refine WA.take (i := 3) rfl (by kernel_rfl) (fun _ _ _ h => h) rfl (op_loadN ag68 (lt_ rfl) rfl xM rfl) xT ?_
  refine WA.take (i := 5) rfl (by kernel_rfl) (fun _ _ _ h => h) rfl (op_move (lt_ rfl) rfl) xT ?_
  refine WA.take (i := 6) rfl (by kernel_rfl) (fun _ _ _ h => h) rfl (op_nilCheck (lt_ rfl) rfl) xT ?_
  refine WA.take (i := 7) rfl (by kernel_rfl) (fun _ _ _ h => h) rfl (op_fieldAddr fo76_5 (lt_ rfl) rfl) xT ?_
  refine WA.take (i := 8) rfl (by kernel_rfl) (fun _ _ _ h => h) rfl (op_load1 fl3 (lt_ rfl) rfl xM rfl) xT ?_
  refine WA.stepx (i := 4) (by kernel_rfl) rfl rfl (op_call (f42_spec bd J.fi J.se (by omega) (by omega)) ca42 (lt_ rfl) rfl) (fun _ r => xT) ?_
  rintro _ _
  refine WA.take (i := 9) rfl (by kernel_rfl) (fun _ _ _ h => h) rfl (op_sub (lt_ rfl) rfl rfl (by omega)) xT ?_
  refine WA.take (i := 10) rfl (by kernel_rfl) (fun _ _ _ h => h) rfl (op_assign (lt_ rfl) rfl) xT ?_
  refine WA.done (by kernel_rfl) ?_
  refine WX.regs (L' := [(2, _)]) ?_
  refine WX.next ?_
  refine WC.ret ?_
  exact Fin.ret1 xI (()) (trivial) Try.results26 (.tmp rfl) xT (by simp)
end Go.Proofs.Ytkjlbedebmffgaa.Sx

set_option linter.unusedVariables false
set_option linter.unusedSimpArgs false
namespace Go.Proofs.Ytkjlbedebmffgaa.Sx
open Go.RowKit Go.Proofs.Ytkjlbedebmffgaa.Ty
attribute [local irreducible] blk own rd rx frameC

theorem vl_take_lt (bs : List UInt8) (o l : Nat) : vl ((bs.drop o).take l) < 256 ^ l := Nat.lt_of_lt_of_le (vl_lt _) (Nat.pow_le_pow_right (by decide) (by rw [List.length_take]; omega))
theorem dec_g (bs : List UInt8) : 0 ≤ (dec bs).1.g ∧ (dec bs).1.g < 4294967296 := by
  have h := vl_take_lt bs 16 4
  unfold dec
  repeat (split; · exact ⟨Int.le_refl _, by decide⟩)
  simp only [decP, fld]
  omega
/-- The next generation, as it is found sector by sector. -/
def nstep (n g : Int) (b : List UInt8) : Int := if (dec b).2 = 0 ∧ g ≤ (dec b).1.g then (dec b).1.g + 1 + ((dec b).1.g + 1 + n) % 2 else g
def nextF (n : Int) (ss : List (List UInt8)) : Int := ss.foldl (nstep n) n
def nextM (n : Int) (ss : List (List UInt8)) : Int × Int := if nextF n ss > 2147483647 then (0, 9) else (nextF n ss, 0)
theorem nstep_le {n g : Int} {b : List UInt8} (h : 0 ≤ g ∧ g ≤ 4294967298) : 0 ≤ nstep n g b ∧ nstep n g b ≤ 4294967298 := by
  have := dec_g b
  unfold nstep
  split <;> omega
theorem nextF_snoc (n : Int) (ss : List (List UInt8)) (s : List UInt8) : nextF n (ss ++ [s]) = nstep n (nextF n ss) s := by simp [nextF]
theorem take_snoc {α : Type} {l : List α} {i : Nat} {x : α} (h : l[i]? = some x) : l.take (i + 1) = l.take i ++ [x] := by
  obtain ⟨hi, rfl⟩ := List.getElem?_eq_some_iff.1 h
  exact List.take_succ_eq_append_getElem hi
set_option maxHeartbeats 400000 in
set_option maxRecDepth 10000 in
theorem f33_spec (bd bm : Nat) (A : Option Addr) (c : Nat) (D : Dk) (fi se n : Int) (hn01 : 0 ≤ n ∧ n ≤ 1) (hdn : D.down = false) (hfs : 0 ≤ fi ∧ 0 ≤ se ∧ fi + se ≤ D.n) (hn : D.n ≤ 1000000) (hmx : D.pend.length ≤ 1000000) :
    Spec Try.prog 33 [.agg #[.pointer (some ⟨bd, 0, none⟩), .int .i64 fi, .int .i64 se], .int .i64 n] [blk bd (dcells D bm A c) 66, mapC bm (dmap D.dur), own (.slice A D.pend.length c) 84 257 D.pend.length (D.pend.flatMap wcs)] [] (R := Int × Int) (fun q => q = nextM n (D.seen fi se.toNat)) (fun q => .tuple #[.int .i64 q.1, .int .i64 q.2]) (fun _ => [blk bd (dcells D bm A c) 66, mapC bm (dmap D.dur), own (.slice A D.pend.length c) 84 257 D.pend.length (D.pend.flatMap wcs)]) := by
  obtain ⟨k, rfl⟩ := Int.eq_ofNat_of_zero_le hfs.2.1
  rw [Int.toNat_natCast]
  refine Spec.intro Try.func33 Try.ntmps33 rfl (by simp) (by simp) fun w0 => ?_
  refine WC.seq ?_
  refine WC.region ?_
  refine wl1 (op_box (lt_ rfl) rfl rfl) rfl fun b1 => ?_
  refine wlv (op_assign (lt_ rfl) rfl) rfl ?_
  refine wlv (op_assign (lt_ rfl) rfl) rfl ?_
  refine WL.nil ?_
  refine WX.regs (L' := [(1, _), (2, _)]) ?_
  refine WX.next ?_
  refine WC.seq ?_
  refine WC.region ?_
  refine wlv (op_loadAll ag68 (lt_ rfl) rfl xM xL) rfl ?_
  refine wlv (op_fieldAddr fo68_2 (lt_ rfl) rfl) rfl ?_
  refine wlv (op_load1 fl3 (lt_ rfl) rfl xM rfl) rfl ?_
  refine wlx (op_call (f52_spec bd bm A c D fi (k : Int) 0 k (by omega) hdn (by omega) hn hmx) ca52 (lt_ rfl) rfl) rfl ?_
  rintro ⟨A2, c2, rs⟩ hrs
  dsimp only at hrs
  rw [Int.add_zero] at hrs
  have hk2 : rs.length = k := by have := congrArg List.length hrs; simpa [Dk.seen] using this
  dsimp only
  refine wlv (op_move (lt_ rfl) rfl) rfl ?_
  refine wlv (op_extract (lt_ rfl) rfl rfl) rfl ?_
  refine wlv (op_extract (lt_ rfl) rfl rfl) rfl ?_
  refine wlv (op_assign (lt_ rfl) rfl) rfl ?_
  refine wlv (op_assign (lt_ rfl) rfl) rfl ?_
  refine WL.nil ?_
  refine WX.turn (c := rowsC true rs) (d := rowsC false rs) xK (rowsC_read fun _ h => h) ?_
  refine WX.regs (L' := [(1, _), (6, _), (7, _)]) ?_
  refine WX.next ?_
  refine WC.seq ?_
  refine WC.seq ?_
  refine WC.region ?_
  refine wlv (op_move (lt_ rfl) rfl) rfl ?_
  refine wlv (op_neq (lt_ rfl) rfl rfl) rfl ?_
  refine WL.nil ?_
  refine WX.regs (L' := [(1, _), (6, _), (7, _), (21, _)]) ?_
  refine WX.next ?_
  refine WC.cond rfl (fun h1 => ?_) (fun h1 => ?_)
  ·
    exact absurd rfl h1
  ·
    refine WC.skip ?_
    refine WX.next ?_
    refine WC.seq ?_
    refine WC.region ?_
    refine wlv (op_move (lt_ rfl) rfl) rfl ?_
    refine wlv (op_assign (lt_ rfl) rfl) rfl ?_
    refine WL.nil ?_
    refine WX.regs (L' := [(1, _), (6, _), (8, _)]) ?_
    refine WX.next ?_
    refine WC.seq ?_
    refine WC.seq ?_
    refine WC.region ?_
    refine wlv (op_move (lt_ rfl) rfl) rfl ?_
    refine wlv (op_len Try.underlying70 (lt_ rfl) rfl) rfl ?_
    refine wlv (op_move (lt_ rfl) rfl) rfl ?_
    refine WL.nil ?_
    refine WX.regs (L' := [(1, _), (8, _), (24, _), (25, _), (26, _)]) ?_
    refine WX.next ?_
    refine WC.block ?_
    refine WC.loop (X := Nat × Int) (fun q => rs.length - q.1) (fun q => q.1 ≤ rs.length ∧ q.2 = nextF n ((rs.map Bs.s).take q.1) ∧ 0 ≤ q.2 ∧ q.2 ≤ 4294967298) (fun q => [(1, .int .i64 n), (8, .int .i64 q.2), (24, .slice A2 rs.length c2), (25, .int .i64 (rs.length : Int)), (26, .int .i64 (q.1 : Int))]) (fun q => [own (.slice A2 rs.length c2) 23 1 rs.length (rs.map Bs.v), rowsC false rs, blk bd (dcells D bm A c) 66, mapC bm (dmap D.dur), own (.slice A D.pend.length c) 84 257 D.pend.length (D.pend.flatMap wcs), frameC w0 (MutF [blk bd (dcells D bm A c) 66, mapC bm (dmap D.dur), own (.slice A D.pend.length c) 84 257 D.pend.length (D.pend.flatMap wcs)])]) ((0, n)) (⟨Nat.zero_le _, rfl, by simp only []; omega, by simp only []; omega⟩) (fun a w hs => hs.sub xY xT) ?_
    rintro ⟨i, g⟩ ⟨hi, hg, hg0, hg1⟩
    try dsimp only at hi hg hg0 hg1 ⊢
    refine WC.seq ?_
    refine WC.region ?_
    refine wlv (op_lss (lt_ rfl) rfl rfl) rfl ?_
    refine WL.nil ?_
    refine WX.regs (L' := [(1, _), (8, _), (24, _), (25, _), (26, _), (27, _)]) ?_
    refine WX.next ?_
    refine WC.seq ?_
    refine WC.cond rfl (fun h2 => ?_) (fun h2 => ?_)
    ·
      obtain ⟨ri, hri⟩ : ∃ r, rs[i]? = some r := ⟨rs[i]'(by omega), List.getElem?_eq_getElem _⟩
      have hmi : ri ∈ rs := List.mem_of_getElem? hri
      have hgs : ∀ x, x = nstep n g ri.s → x = nextF n ((rs.map Bs.s).take (i + 1)) := by
        intro x hx
        rw [take_snoc (x := ri.s) (by simp [hri]), nextF_snoc, ← hg, hx]
      refine WC.dup (c := rowsC false rs) (d := rd (.slice ri.A ri.s.length ri.c) 1 ri.s.length (bvs ri.s)) xM rfl (by simp) (rowsC_get (r := ri) hmi) ?_
      refine WC.skip ?_
      refine WX.next ?_
      refine WC.seq ?_
      refine WC.block ?_
      refine WC.seq ?_
      refine WC.region ?_
      refine wlv (op_index Try.underlying70 sz23 (lt_ rfl) rfl rfl (by omega) (by omega) (by decide) xS) rfl ?_
      refine wlv (op_loadS fl23 (lt_ rfl) rfl xS (rows_at' hri (by omega))) rfl ?_
      refine wlv (op_assign (lt_ rfl) rfl) rfl ?_
      refine WL.nil ?_
      refine WX.regs (L' := [(1, _), (8, _), (10, _), (24, _), (25, _), (26, _)]) ?_
      refine WX.next ?_
      refine WC.seq ?_
      refine WC.region ?_
      refine wlv (op_move (lt_ rfl) rfl) rfl ?_
      refine wlx (op_call (f53_spec ri.A ri.s.length ri.c ri.s rfl) ca53 (lt_ rfl) rfl) rfl ?_
      rintro ⟨A3, c3, m3, p, e⟩ hpe
      dsimp only at hpe
      obtain ⟨hpe, rfl⟩ := hpe
      have hpg := dec_g ri.s
      rw [← hpe] at hpg
      dsimp only at hpg
      have hdc := hpe.symm
      dsimp only
      refine wlv (op_move (lt_ rfl) rfl) rfl ?_
      refine wlv (op_extract (lt_ rfl) rfl rfl) rfl ?_
      refine wlv (op_extract (lt_ rfl) rfl rfl) rfl ?_
      refine wl1 (op_alloc ti96 (lt_ rfl)) rfl fun b2 => ?_
      refine wl (op_storeAll sz96 rfl rfl xK xL xO xL) rfl ?_
      change WL _ _ _ _ _ _ _
      refine wlv (op_assign (lt_ rfl) rfl) rfl ?_
      refine WL.nil ?_
      refine WX.regs (L' := [(1, _), (8, _), (11, _), (12, _), (24, _), (25, _), (26, _)]) ?_
      refine WX.next ?_
      refine WC.seq ?_
      refine WC.region ?_
      refine wlv (op_move (lt_ rfl) rfl) rfl ?_
      refine wlv (op_eql (lt_ rfl) rfl rfl) rfl ?_
      refine wlv (op_move (lt_ rfl) rfl) rfl ?_
      refine WL.split (t := 37) rfl (fun g37 => ?_) (fun g37 => ?_)
      ·
        refine wlgv (op_fieldAddr fo96_1 (lt_ rfl) rfl) rfl rfl rfl ?_
        refine wlgv (op_load1 fl3 (lt_ rfl) rfl xM rfl) rfl rfl rfl ?_
        refine wlgv (op_move (lt_ rfl) rfl) rfl rfl rfl ?_
        refine wlgv (op_geq (lt_ rfl) rfl rfl) rfl rfl rfl ?_
        refine wlv (op_pickT (lt_ rfl) rfl rfl) rfl ?_
        refine WL.nil ?_
        refine WX.regs (L' := [(1, _), (8, _), (11, _), (24, _), (25, _), (26, _), (42, _)]) ?_
        refine WX.next ?_
        refine WC.cond rfl (fun h3 => ?_) (fun h3 => ?_)
        ·
          refine WC.seq ?_
          refine WC.region ?_
          refine wlv (op_fieldAddr fo96_1 (lt_ rfl) rfl) rfl ?_
          refine wlv (op_load1 fl3 (lt_ rfl) rfl xM rfl) rfl ?_
          refine wlv (op_add (lt_ rfl) rfl rfl (by omega)) rfl ?_
          refine wlv (op_assign (lt_ rfl) rfl) rfl ?_
          refine WL.nil ?_
          refine WX.regs (L' := [(1, _), (8, _), (24, _), (25, _), (26, _)]) ?_
          refine WX.next ?_
          refine WC.region ?_
          refine wlv (op_move (lt_ rfl) rfl) rfl ?_
          refine wlv (op_move (lt_ rfl) rfl) rfl ?_
          refine wlv (op_move (lt_ rfl) rfl) rfl ?_
          refine wlv (op_add (lt_ rfl) rfl rfl (by omega)) rfl ?_
          refine wlv (op_rem (lt_ rfl) rfl rfl (by omega) (by omega)) rfl ?_
          refine wlv (op_add (lt_ rfl) rfl rfl (by omega)) rfl ?_
          refine wlv (op_assign (lt_ rfl) rfl) rfl ?_
          refine WL.nil ?_
          refine WX.regs (L' := [(1, _), (8, _), (24, _), (25, _), (26, _)]) ?_
          refine WX.in_normal ?_
          refine WX.next ?_
          refine WC.region ?_
          refine wlv (op_add (lt_ rfl) rfl rfl (by omega)) rfl ?_
          refine wlv (op_move (lt_ rfl) rfl) rfl ?_
          refine WL.nil ?_
          refine WX.regs (L' := [(1, _), (8, _), (24, _), (25, _), (26, _)]) ?_
          refine WX.meet ((i + 1, p.g + 1 + (p.g + 1 + n) % 2)) ⟨⟨by simp only []; omega, hgs _ (by unfold nstep; rw [hdc]; dsimp only; first | rw [if_pos (by omega)] | rw [if_neg (by omega)]), by simp only []; omega, by simp only []; omega⟩, by simp only []; omega⟩ (fun a w hs => hs.sub xY xT)
        ·
          refine WC.skip ?_
          refine WX.in_normal ?_
          refine WX.next ?_
          refine WC.region ?_
          refine wlv (op_add (lt_ rfl) rfl rfl (by omega)) rfl ?_
          refine wlv (op_move (lt_ rfl) rfl) rfl ?_
          refine WL.nil ?_
          refine WX.regs (L' := [(1, _), (8, _), (24, _), (25, _), (26, _)]) ?_
          refine WX.meet ((i + 1, g)) ⟨⟨by simp only []; omega, hgs _ (by unfold nstep; rw [hdc]; dsimp only; first | rw [if_pos (by omega)] | rw [if_neg (by omega)]), by simp only []; omega, by simp only []; omega⟩, by simp only []; omega⟩ (fun a w hs => hs.sub xY xT)
      ·
        refine wlg_no rfl rfl rfl rfl rfl (by decide) ?_
        refine wlg_no rfl rfl rfl rfl rfl (by decide) ?_
        refine wlg_no rfl rfl rfl rfl rfl (by decide) ?_
        refine wlg_no rfl rfl rfl rfl rfl (by decide) ?_
        refine wlv (op_pickF (lt_ rfl) rfl rfl) rfl ?_
        refine WL.nil ?_
        refine WX.regs (L' := [(1, _), (8, _), (11, _), (24, _), (25, _), (26, _), (42, _)]) ?_
        refine WX.next ?_
        refine WC.condF rfl ?_
        refine WC.skip ?_
        refine WX.in_normal ?_
        refine WX.next ?_
        refine WC.region ?_
        refine wlv (op_add (lt_ rfl) rfl rfl (by omega)) rfl ?_
        refine wlv (op_move (lt_ rfl) rfl) rfl ?_
        refine WL.nil ?_
        refine WX.regs (L' := [(1, _), (8, _), (24, _), (25, _), (26, _)]) ?_
        refine WX.meet ((i + 1, g)) ⟨⟨by simp only []; omega, hgs _ (by unfold nstep; rw [hdc]; dsimp only; first | rw [if_pos (by omega)] | rw [if_neg (by omega)]), by simp only []; omega, by simp only []; omega⟩, by simp only []; omega⟩ (fun a w hs => hs.sub xY xT)
    ·
      refine WC.exit ?_
      refine WX.then_exit ?_
      refine WX.then_exit ?_
      refine WX.in_hit ?_
      refine WX.next ?_
      refine WC.seq ?_
      refine WC.seq ?_
      refine WC.region ?_
      refine wlv (op_move (lt_ rfl) rfl) rfl ?_
      refine wlv (op_gtr (lt_ rfl) rfl rfl) rfl ?_
      refine WL.nil ?_
      refine WX.regs (L' := [(8, _), (54, _)]) ?_
      refine WX.next ?_
      refine WC.cond rfl (fun h4 => ?_) (fun h4 => ?_)
      ·
        refine WC.seq ?_
        refine WC.region ?_
        refine wlv (op_assign (lt_ rfl) rfl) rfl ?_
        refine wlv (op_assign (lt_ rfl) rfl) rfl ?_
        refine WL.nil ?_
        refine WX.regs (L' := [(4, _), (5, _)]) ?_
        refine WX.next ?_
        refine WC.ret ?_
        refine WX.then_ret ?_
        exact Fin.ret2 xI ((0, 9)) (by unfold nextM; rw [← hrs, show (nextF n (rs.map Bs.s)) = g from by rw [hg, List.take_of_length_le (by rw [List.length_map]; omega)], if_pos (by omega)]) Try.results33 rfl (.tmp rfl) (.tmp rfl) xT (by simp)
      ·
        refine WC.skip ?_
        refine WX.next ?_
        refine WC.seq ?_
        refine WC.region ?_
        refine wlv (op_move (lt_ rfl) rfl) rfl ?_
        refine wlv (op_assign (lt_ rfl) rfl) rfl ?_
        refine wlv (op_assign (lt_ rfl) rfl) rfl ?_
        refine WL.nil ?_
        refine WX.regs (L' := [(4, _), (5, _)]) ?_
        refine WX.next ?_
        refine WC.ret ?_
        exact Fin.ret2 xI ((g, 0)) (by unfold nextM; rw [← hrs, show (nextF n (rs.map Bs.s)) = g from by rw [hg, List.take_of_length_le (by rw [List.length_map]; omega)], if_neg (by omega)]) Try.results33 rfl (.tmp rfl) (.tmp rfl) xT (by simp)
end Go.Proofs.Ytkjlbedebmffgaa.Sx

set_option linter.unusedVariables false
set_option linter.unusedSimpArgs false
namespace Go.Proofs.Ytkjlbedebmffgaa.Sx
open Go.RowKit Go.Proofs.Ytkjlbedebmffgaa.Ty
attribute [local irreducible] blk own rd rx frameC

/-- An area's contents, or none. -/
def bodies (t : List Rcd) : Nat := ((t.map Rcd.k).takeWhile (· == 2)).length
def areaL (g : Int) : List Rcd → Option (Int × Int × List (List UInt8))
  | [] => none
  | h :: t => if h.k = 1 ∧ h.p.length = 16 ∧ vl (h.p.take 8) ≤ 2147483647 ∧ vl (h.p.drop 8) ≤ 2147483647 ∧ vl (h.p.drop 8) ≤ bodies t then some (g, ((vl (h.p.take 8) : Nat) : Int), (t.take (bodies t)).map Rcd.p) else none
def areaM (n : Int) (ss : List (List UInt8)) : Option (Int × Int × List (List UInt8)) :=
  if (dec (ss.getD 0 [])).2 = 0 ∧ (dec (ss.getD 0 [])).1.g % 2 = n then areaL (dec (ss.getD 0 [])).1.g (scan (dec (ss.getD 0 [])).1.g 0 ss).1 else none
structure Ar where
  ok : Bool
  (g f : Int)
  A : Option Addr
  c : Nat
  es : List Bs
def Ar.cells (a : Ar) : List Value := [.bool a.ok, .int .i64 a.g, .int .i64 a.f, .slice a.A a.es.length a.c]
def Ar.zero : Ar := ⟨false, 0, 0, none, 0, []⟩
def Ar.fits (a : Ar) : Option (Int × Int × List (List UInt8)) → Prop
  | none => a = Ar.zero
  | some (g, f, es) => a.ok = true ∧ a.g = g ∧ a.f = f ∧ a.es.map Bs.s = es
theorem areaM_none {n : Int} {ss : List (List UInt8)} (h : ¬ ((dec (ss.getD 0 [])).2 = 0 ∧ (dec (ss.getD 0 [])).1.g % 2 = n)) : areaM n ss = none := by unfold areaM; rw [if_neg h]
theorem areaM_scan {n : Int} {ss : List (List UInt8)} (h : (dec (ss.getD 0 [])).2 = 0 ∧ (dec (ss.getD 0 [])).1.g % 2 = n) : areaM n ss = areaL (dec (ss.getD 0 [])).1.g (scan (dec (ss.getD 0 [])).1.g 0 ss).1 := by unfold areaM; rw [if_pos h]
theorem areaL_none {g : Int} {h : Rs} {t : List Rs} (hn : ¬ (h.k = 1 ∧ h.b.s.length = 16 ∧ vl (h.b.s.take 8) ≤ 2147483647 ∧ vl (h.b.s.drop 8) ≤ 2147483647 ∧ vl (h.b.s.drop 8) ≤ ((t.map Rs.k).takeWhile (· == 2)).length)) : areaL g ((h :: t).map Rs.r) = none := by
  have e : bodies (t.map Rs.r) = ((t.map Rs.k).takeWhile (· == 2)).length := by unfold bodies; rw [List.map_map]; rfl
  simp only [List.map_cons, areaL, e]
  exact if_neg hn
theorem areaL_some {g : Int} {h : Rs} {t : List Rs} (hn : h.k = 1 ∧ h.b.s.length = 16 ∧ vl (h.b.s.take 8) ≤ 2147483647 ∧ vl (h.b.s.drop 8) ≤ 2147483647 ∧ vl (h.b.s.drop 8) ≤ ((t.map Rs.k).takeWhile (· == 2)).length) :
    areaL g ((h :: t).map Rs.r) = some (g, ((vl (h.b.s.take 8) : Nat) : Int), ((t.take ((t.map Rs.k).takeWhile (· == 2)).length).map Rs.b).map Bs.s) := by
  have e : bodies (t.map Rs.r) = ((t.map Rs.k).takeWhile (· == 2)).length := by unfold bodies; rw [List.map_map]; rfl
  simp only [List.map_cons, areaL, e]
  refine (if_pos hn).trans ?_
  simp only [← List.map_take, List.map_map]
  rfl
theorem scanF_len {ss : List (List UInt8)} {g n : Int} : ∀ (fuel pos : Nat) (acc : List Rcd), acc.length ≤ pos → pos ≤ ss.length → (scanF ss g n fuel pos acc).1.length ≤ ss.length := by
  intro fuel
  induction fuel with
  | zero => intro pos acc h1 h2; exact Nat.le_trans h1 h2
  | succ f ih =>
    intro pos acc h1 h2
    unfold scanF
    split
    · exact Nat.le_trans h1 h2
    · split
      · exact Nat.le_trans h1 h2
      · split
        · exact Nat.le_trans h1 h2
        · rename_i h3 h4 h5
          obtain ⟨q1, q2⟩ := join_ok (q := (join (ss.drop pos)).1) (c := (join (ss.drop pos)).2.1) (ss := ss.drop pos) (by rw [← Decidable.not_not.1 h4])
          rw [List.length_drop] at q2
          exact ih _ _ (by simp only [List.length_append, List.length_singleton]; omega) (by omega)
theorem scan_len (g n : Int) (ss : List (List UInt8)) : (scan g n ss).1.length ≤ ss.length := by
  unfold scan
  split
  · exact Nat.zero_le _
  · exact scanF_len _ _ _ (Nat.le_refl _) (Nat.zero_le _)
theorem cells_len (l : List Rs) : (l.flatMap Rs.cells).length = l.length * 4 := flat_len (f := Rs.cells) (sz := 4) (fun _ => rfl) l
theorem cells_drop1 (h : Rs) (t : List Rs) : ((h :: t).flatMap Rs.cells).drop (1 * 4) = t.flatMap Rs.cells := rfl
theorem cells_take : ∀ (t : List Rs) (e : Nat), (t.flatMap Rs.cells).take (e * 4) = (t.take e).flatMap Rs.cells := by
  intro t
  induction t with
  | nil => intro e; simp
  | cons r t ih =>
    intro e
    cases e with
    | zero => simp
    | succ e =>
      rw [List.take_succ_cons, List.flatMap_cons, List.flatMap_cons, ← ih e, show (e + 1) * 4 = e * 4 + 4 by omega]
      rfl
theorem rd_tailA {A : Option Addr} {c : Nat} {h : Rs} {t : List Rs} : (rd (sliced A 1 (t.length + 1) c 4) 4 t.length (t.flatMap Rs.cells)).Le (rd (.slice A (h :: t).length c) 4 (h :: t).length ((h :: t).flatMap Rs.cells)) := by
  have k := rd_sub (A := A) (c := c) (m := t.length + 1) (sz := 4) (l := 1) (h := t.length + 1) (xs := (h :: t).flatMap Rs.cells) (by omega) (Nat.le_refl _)
  rwa [cells_drop1, Nat.add_sub_cancel, cells_take, List.take_of_length_le (Nat.le_refl _)] at k
theorem ch16 (r : Bs) (h : r.s.length = 16) : (rd (sliced r.A 8 16 r.c 1) 1 8 (bvs (r.s.drop 8))).Le r.ch := by
  have k := rd_dropB (A := r.A) (c := r.c) (m := 16) (l := 8) h (by decide)
  unfold Bs.ch Bs.v
  rw [h]
  exact k
theorem rd_tailC {A : Option Addr} {c e : Nat} {h : Rs} {t : List Rs} (he : e ≤ t.length) : (rd (sliced A 1 (1 + e) c 4) 4 (1 + e - 1) ((t.take e).flatMap Rs.cells)).Le (rd (.slice A (t.length + 1) c) 4 (t.length + 1) ((h :: t).flatMap Rs.cells)) := by
  have k := rd_sub (A := A) (c := c) (m := t.length + 1) (sz := 4) (l := 1) (h := 1 + e) (xs := (h :: t).flatMap Rs.cells) (by omega) (by omega)
  have e1 : 1 + e - 1 = e := by omega
  rw [cells_drop1, e1, cells_take] at k
  rw [e1]
  exact k
set_option maxHeartbeats 400000 in
set_option maxRecDepth 10000 in
theorem f35_spec (bd bm : Nat) (A : Option Addr) (c : Nat) (D : Dk) (fi n : Int) (k : Nat) (hn01 : 0 ≤ n ∧ n ≤ 1) (hdn : D.down = false) (hfs : 0 ≤ fi ∧ 8 ≤ k ∧ fi + k ≤ D.n) (hn : D.n ≤ 1000000) (hmx : D.pend.length ≤ 1000000) :
    Spec Try.prog 35 [.agg #[.pointer (some ⟨bd, 0, none⟩), .int .i64 fi, .int .i64 (k : Int)], .int .i64 n] [blk bd (dcells D bm A c) 66, mapC bm (dmap D.dur), own (.slice A D.pend.length c) 84 257 D.pend.length (D.pend.flatMap wcs)] [] (R := Ar) (fun a => a.fits (areaM n (D.seen (fi + n * ((k / 2 : Nat) : Int)) (k / 2)))) (fun a => .tuple #[.agg a.cells.toArray, .int .i64 0]) (fun a => [blk bd (dcells D bm A c) 66, mapC bm (dmap D.dur), own (.slice A D.pend.length c) 84 257 D.pend.length (D.pend.flatMap wcs), own (.slice a.A a.es.length a.c) 23 1 a.es.length (a.es.map Bs.v), rowsC true a.es]) := by
  have hnh : 0 ≤ n * ((k / 2 : Nat) : Int) ∧ n * ((k / 2 : Nat) : Int) ≤ ((k / 2 : Nat) : Int) := by
    rcases (show n = 0 ∨ n = 1 by omega) with rfl | rfl
    · rw [Int.zero_mul]; omega
    · rw [Int.one_mul]; omega
  refine Spec.intro Try.func35 Try.ntmps35 rfl (by simp) (by simp) fun w0 => ?_
  refine WC.seq ?_
  refine WC.region ?_
  refine wl1 (op_box (lt_ rfl) rfl rfl) rfl fun b1 => ?_
  refine wl1 (op_alloc ti72 (lt_ rfl)) rfl fun b2 => ?_
  refine wlv (op_assign (lt_ rfl) rfl) rfl ?_
  refine WL.nil ?_
  refine WX.regs (L' := [(1, _), (2, _), (4, _)]) ?_
  refine WX.next ?_
  refine WC.seq ?_
  refine WC.drawnH mo 999 ?_
  refine WA.take (i := 0) rfl (by kernel_rfl) (fun _ _ _ h => h) rfl (op_loadAll ag68 (lt_ rfl) rfl xM xL) xT ?_
  refine WA.take (i := 1) rfl (by kernel_rfl) (fun _ _ _ h => h) rfl (op_move (lt_ rfl) rfl) xT ?_
  refine WA.take (i := 2) rfl (by kernel_rfl) (fun _ _ _ h => h) rfl (op_loadAll ag68 (lt_ rfl) rfl xM xL) xT ?_
  refine WA.take (i := 5) rfl (by kernel_rfl) (fun _ _ _ h => h) rfl (op_loadAll ag68 (lt_ rfl) rfl xM xL) xT ?_
  refine WA.stepx (i := 3) (by kernel_rfl) rfl rfl (op_call (f42_spec bd fi (k : Int) (by omega) (by omega)) ca42 (lt_ rfl) rfl) (fun _ r => xT) ?_
  rintro _ _
  rw [show ((k : Int)) / 2 = ((k / 2 : Nat) : Int) by omega]
  refine WA.take (i := 4) rfl (by kernel_rfl) (fun _ _ _ h => h) rfl (op_mul (lt_ rfl) rfl rfl (by omega)) xT ?_
  refine WA.stepx (i := 6) (by kernel_rfl) rfl rfl (op_call (f42_spec bd fi (k : Int) (by omega) (by omega)) ca42 (lt_ rfl) rfl) (fun _ r => xT) ?_
  rintro _ _
  rw [show ((k : Int)) / 2 = ((k / 2 : Nat) : Int) by omega]
  refine WA.stepx (i := 7) (by kernel_rfl) rfl rfl (op_call (f52_spec bd bm A c D fi (k : Int) (n * ((k / 2 : Nat) : Int)) (k / 2) (by omega) hdn (by omega) hn hmx) ca52 (lt_ rfl) rfl) (fun _ r => xT) ?_
  rintro ⟨As, cs, rs⟩ hrs
  dsimp only at hrs
  have hk2 : rs.length = k / 2 := by have := congrArg List.length hrs; simpa [Dk.seen] using this
  rw [← hrs]
  dsimp only
  refine WA.take (i := 8) rfl (by kernel_rfl) (fun _ _ _ h => h) rfl (op_move (lt_ rfl) rfl) xT ?_
  refine WA.take (i := 9) rfl (by kernel_rfl) (fun _ _ _ h => h) rfl (op_extract (lt_ rfl) rfl rfl) xT ?_
  refine WA.take (i := 10) rfl (by kernel_rfl) (fun _ _ _ h => h) rfl (op_extract (lt_ rfl) rfl rfl) xT ?_
  refine WA.take (i := 11) rfl (by kernel_rfl) (fun _ _ _ h => h) rfl (op_assign (lt_ rfl) rfl) xT ?_
  refine WA.take (i := 12) rfl (by kernel_rfl) (fun _ _ _ h => h) rfl (op_assign (lt_ rfl) rfl) xT ?_
  refine WA.done (by kernel_rfl) ?_
  refine WX.turn (c := rowsC true rs) (d := rowsC false rs) xK (rowsC_read fun _ h => h) ?_
  refine WX.regs (L' := [(1, _), (4, _), (6, _), (7, _)]) ?_
  refine WX.next ?_
  refine WC.seq ?_
  refine WC.seq ?_
  refine WC.region ?_
  refine wlv (op_move (lt_ rfl) rfl) rfl ?_
  refine wlv (op_neq (lt_ rfl) rfl rfl) rfl ?_
  refine WL.nil ?_
  refine WX.regs (L' := [(1, _), (4, _), (6, _), (7, _), (32, _)]) ?_
  refine WX.next ?_
  refine WC.cond rfl (fun h1 => ?_) (fun h1 => ?_)
  ·
    exact absurd rfl h1
  ·
    obtain ⟨r0, hr0⟩ : ∃ r, rs[0]? = some r := ⟨rs[0]'(by omega), List.getElem?_eq_getElem _⟩
    have hm0 : r0 ∈ rs := List.mem_of_getElem? hr0
    refine WC.dup (c := rowsC false rs) (d := rd (.slice r0.A r0.s.length r0.c) 1 r0.s.length (bvs r0.s)) xM rfl (by simp) (rowsC_get (r := r0) hm0) ?_
    refine WC.skip ?_
    refine WX.next ?_
    refine WC.seq ?_
    refine WC.region ?_
    refine wlv (op_move (lt_ rfl) rfl) rfl ?_
    refine wlv (op_index Try.underlying70 sz23 (lt_ rfl) rfl rfl (by omega) (by omega) (by decide) xS) rfl ?_
    refine wlv (op_loadS fl23 (lt_ rfl) rfl xS (rows_at' hr0 rfl)) rfl ?_
    refine wlx (op_call (f53_spec r0.A r0.s.length r0.c r0.s rfl) ca53 (lt_ rfl) rfl) rfl ?_
    rintro ⟨A3, c3, m3, p, e⟩ hpe
    dsimp only at hpe
    obtain ⟨hpe, rfl⟩ := hpe
    have hpg := dec_g r0.s
    rw [← hpe] at hpg
    dsimp only at hpg
    have hdc := hpe.symm
    have hg0 : (rs.map Bs.s).getD 0 [] = r0.s := by simp [List.getD_eq_getElem?_getD, hr0]
    dsimp only
    refine wlv (op_move (lt_ rfl) rfl) rfl ?_
    refine wlv (op_extract (lt_ rfl) rfl rfl) rfl ?_
    refine wlv (op_extract (lt_ rfl) rfl rfl) rfl ?_
    refine wl1 (op_alloc ti96 (lt_ rfl)) rfl fun b3 => ?_
    refine wl (op_storeAll sz96 rfl rfl xK xL xO xL) rfl ?_
    change WL _ _ _ _ _ _ _
    refine wlv (op_assign (lt_ rfl) rfl) rfl ?_
    refine WL.nil ?_
    refine WX.regs (L' := [(1, _), (4, _), (6, _), (7, _), (8, _)]) ?_
    refine WX.next ?_
    refine WC.seq ?_
    refine WC.seq ?_
    refine WC.region ?_
    refine wlv (op_move (lt_ rfl) rfl) rfl ?_
    refine wlv (op_neq (lt_ rfl) rfl rfl) rfl ?_
    refine wlv (op_move (lt_ rfl) rfl) rfl ?_
    refine WL.split (t := 44) rfl (fun g44 => ?_) (fun g44 => ?_)
    ·
      refine wlg_no rfl rfl rfl rfl rfl (by decide) ?_
      refine wlg_no rfl rfl rfl rfl rfl (by decide) ?_
      refine wlg_no rfl rfl rfl rfl rfl (by decide) ?_
      refine wlg_no rfl rfl rfl rfl rfl (by decide) ?_
      refine wlg_no rfl rfl rfl rfl rfl (by decide) ?_
      refine wlv (op_pickT (lt_ rfl) rfl rfl) rfl ?_
      refine WL.nil ?_
      refine WX.regs (L' := [(4, _), (6, _), (8, _), (50, _)]) ?_
      refine WX.next ?_
      refine WC.condT rfl ?_
      refine WC.seq ?_
      refine WC.region ?_
      refine wlv (op_build (cs := [.bool false, .int .i64 0, .int .i64 0, .slice none 0 0]) (pv := []) (lt_ rfl) rfl (by kernel_rfl)) rfl ?_
      refine wl (op_storeAll sz72 rfl rfl xK xL xO xL) rfl ?_
      change WL _ _ _ _ _ _ _
      refine wlv (op_assign (lt_ rfl) rfl) rfl ?_
      refine WL.nil ?_
      refine WX.regs (L' := [(4, _), (5, _)]) ?_
      refine WX.next ?_
      refine WC.ret ?_
      refine WX.then_ret ?_
      have hnone : areaM n (rs.map Bs.s) = none := areaM_none (by rw [hg0, hdc]; show ¬ (e = 0 ∧ p.g % 2 = n); omega)
      refine WX.nilrows true ?_
      refine WX.nilown 23 1 ?_
      exact Fin.ret2 xI (Ar.zero) (by rw [hnone]; rfl) Try.results35 rfl (.cellN rfl ag72 xM xL) (.tmp rfl) xT (by simp)
    ·
      refine wlgv (op_fieldAddr fo96_1 (lt_ rfl) rfl) rfl rfl rfl ?_
      refine wlgv (op_load1 fl3 (lt_ rfl) rfl xM rfl) rfl rfl rfl ?_
      refine wlgv (op_rem (lt_ rfl) rfl rfl (by omega) (by omega)) rfl rfl rfl ?_
      refine wlgv (op_move (lt_ rfl) rfl) rfl rfl rfl ?_
      refine wlgv (op_neq (lt_ rfl) rfl rfl) rfl rfl rfl ?_
      refine wlv (op_pickF (lt_ rfl) rfl rfl) rfl ?_
      refine WL.nil ?_
      refine WX.regs (L' := [(4, _), (6, _), (8, _), (50, _)]) ?_
      refine WX.next ?_
      refine WC.cond rfl (fun h2 => ?_) (fun h2 => ?_)
      ·
        refine WC.seq ?_
        refine WC.region ?_
        refine wlv (op_build (cs := [.bool false, .int .i64 0, .int .i64 0, .slice none 0 0]) (pv := []) (lt_ rfl) rfl (by kernel_rfl)) rfl ?_
        refine wl (op_storeAll sz72 rfl rfl xK xL xO xL) rfl ?_
        change WL _ _ _ _ _ _ _
        refine wlv (op_assign (lt_ rfl) rfl) rfl ?_
        refine WL.nil ?_
        refine WX.regs (L' := [(4, _), (5, _)]) ?_
        refine WX.next ?_
        refine WC.ret ?_
        refine WX.then_ret ?_
        have hnone : areaM n (rs.map Bs.s) = none := areaM_none (by rw [hg0, hdc]; show ¬ (e = 0 ∧ p.g % 2 = n); omega)
        refine WX.nilrows true ?_
        refine WX.nilown 23 1 ?_
        exact Fin.ret2 xI (Ar.zero) (by rw [hnone]; rfl) Try.results35 rfl (.cellN rfl ag72 xM xL) (.tmp rfl) xT (by simp)
      ·
        refine WC.skip ?_
        refine WX.next ?_
        refine WC.seq ?_
        refine WC.region ?_
        refine wlv (op_fieldAddr fo96_1 (lt_ rfl) rfl) rfl ?_
        refine wlv (op_load1 fl3 (lt_ rfl) rfl xM rfl) rfl ?_
        refine wlv (op_move (lt_ rfl) rfl) rfl ?_
        refine wlx (op_call (f56_spec p.g 0 As rs.length cs rs rfl (by omega)) ca56 (lt_ rfl) rfl) rfl ?_
        rintro ⟨Al, cl, l, cnt, es⟩ hsc
        dsimp only at hsc
        have hsl := congrArg Prod.fst hsc
        dsimp only at hsl
        have ham : areaM n (rs.map Bs.s) = areaL p.g (l.map Rs.r) := by rw [areaM_scan (by rw [hg0, hdc]; show e = 0 ∧ p.g % 2 = n; exact ⟨by omega, by omega⟩), hg0, hdc, hsl]
        have hll : l.length ≤ rs.length := by have := scan_len p.g 0 (rs.map Bs.s); rw [← hsl, List.length_map, List.length_map] at this; exact this
        dsimp only
        refine WL.turn (c := own (.slice Al l.length cl) 89 4 l.length (l.flatMap Rs.cells)) (d := rd (.slice Al l.length cl) 4 l.length (l.flatMap Rs.cells)) xK own_le_rd ?_
        refine wlv (op_move (lt_ rfl) rfl) rfl ?_
        refine wlv (op_extract (lt_ rfl) rfl rfl) rfl ?_
        refine wlv (op_extract (lt_ rfl) rfl rfl) rfl ?_
        refine wlv (op_extract (lt_ rfl) rfl rfl) rfl ?_
        refine wlv (op_assign (lt_ rfl) rfl) rfl ?_
        refine wlv (op_assign (lt_ rfl) rfl) rfl ?_
        refine wlv (op_assign (lt_ rfl) rfl) rfl ?_
        refine WL.nil ?_
        refine WX.regs (L' := [(4, _), (8, _), (9, _)]) ?_
        refine WX.next ?_
        refine WC.seq ?_
        refine WC.seq ?_
        refine WC.region ?_
        refine wlv (op_move (lt_ rfl) rfl) rfl ?_
        refine wlv (op_len Try.underlying100 (lt_ rfl) rfl) rfl ?_
        refine wlv (op_eql (lt_ rfl) rfl rfl) rfl ?_
        refine wlv (op_move (lt_ rfl) rfl) rfl ?_
        refine WL.split (t := 63) rfl (fun g63 => ?_) (fun g63 => ?_)
        ·
          refine wlg_no rfl rfl rfl rfl rfl (by decide) ?_
          refine wlg_no rfl rfl rfl rfl rfl (by decide) ?_
          refine wlg_no rfl rfl rfl rfl rfl (by decide) ?_
          refine wlg_no rfl rfl rfl rfl rfl (by decide) ?_
          refine wlg_no rfl rfl rfl rfl rfl (by decide) ?_
          refine wlv (op_pickT (lt_ rfl) rfl rfl) rfl ?_
          refine wlv (op_move (lt_ rfl) rfl) rfl ?_
          refine wlg_no rfl rfl rfl rfl rfl (by decide) ?_
          refine wlg_no rfl rfl rfl rfl rfl (by decide) ?_
          refine wlg_no rfl rfl rfl rfl rfl (by decide) ?_
          refine wlg_no rfl rfl rfl rfl rfl (by decide) ?_
          refine wlg_no rfl rfl rfl rfl rfl (by decide) ?_
          refine wlg_no rfl rfl rfl rfl rfl (by decide) ?_
          refine wlv (op_pickT (lt_ rfl) rfl rfl) rfl ?_
          refine WL.nil ?_
          refine WX.regs (L' := [(4, _), (8, _), (9, _), (77, _)]) ?_
          refine WX.next ?_
          refine WC.condT rfl ?_
          refine WC.seq ?_
          refine WC.region ?_
          refine wlv (op_build (cs := [.bool false, .int .i64 0, .int .i64 0, .slice none 0 0]) (pv := []) (lt_ rfl) rfl (by kernel_rfl)) rfl ?_
          refine wl (op_storeAll sz72 rfl rfl xK xL xO xL) rfl ?_
          change WL _ _ _ _ _ _ _
          refine wlv (op_assign (lt_ rfl) rfl) rfl ?_
          refine WL.nil ?_
          refine WX.regs (L' := [(4, _), (5, _)]) ?_
          refine WX.next ?_
          refine WC.ret ?_
          refine WX.then_ret ?_
          have hnone : areaM n (rs.map Bs.s) = none := by rw [ham]; first | exact areaL_none (by omega) | (obtain rfl : l = [] := List.eq_nil_of_length_eq_zero (by omega); rfl)
          refine WX.nilrows true ?_
          refine WX.nilown 23 1 ?_
          exact Fin.ret2 xI (Ar.zero) (by rw [hnone]; rfl) Try.results35 rfl (.cellN rfl ag72 xM xL) (.tmp rfl) xT (by simp)
        ·
          obtain ⟨h, t, rfl⟩ : ∃ h t, l = h :: t := by
            cases l with
            | nil => exact absurd rfl (by omega)
            | cons h t => exact ⟨h, t, rfl⟩
          have htl2 : t.length + 1 ≤ rs.length := hll
          have htl := tw_le (t.map Rs.k)
          rw [List.length_map] at htl
          refine wlgv (op_move (lt_ rfl) rfl) rfl rfl rfl ?_
          refine wlgv (op_index Try.underlying100 sz89 (lt_ rfl) rfl rfl (by omega) (by omega) (by decide) xS) rfl rfl rfl ?_
          refine wlgv (op_fieldAddrS fo89_0 (lt_ rfl) rfl xS (by simp [Rs.cells])) rfl rfl rfl ?_
          refine wlgv (op_loadS fl3 (lt_ rfl) rfl xS rfl) rfl rfl rfl ?_
          refine wlgv (op_neq (lt_ rfl) rfl rfl) rfl rfl rfl ?_
          refine wlv (op_pickF (lt_ rfl) rfl rfl) rfl ?_
          refine wlv (op_move (lt_ rfl) rfl) rfl ?_
          refine WL.split (t := 70) rfl (fun g70 => ?_) (fun g70 => ?_)
          ·
            refine wlg_no rfl rfl rfl rfl rfl (by decide) ?_
            refine wlg_no rfl rfl rfl rfl rfl (by decide) ?_
            refine wlg_no rfl rfl rfl rfl rfl (by decide) ?_
            refine wlg_no rfl rfl rfl rfl rfl (by decide) ?_
            refine wlg_no rfl rfl rfl rfl rfl (by decide) ?_
            refine wlg_no rfl rfl rfl rfl rfl (by decide) ?_
            refine wlv (op_pickT (lt_ rfl) rfl rfl) rfl ?_
            refine WL.nil ?_
            refine WX.regs (L' := [(4, _), (8, _), (9, _), (77, _)]) ?_
            refine WX.next ?_
            refine WC.condT rfl ?_
            refine WC.seq ?_
            refine WC.region ?_
            refine wlv (op_build (cs := [.bool false, .int .i64 0, .int .i64 0, .slice none 0 0]) (pv := []) (lt_ rfl) rfl (by kernel_rfl)) rfl ?_
            refine wl (op_storeAll sz72 rfl rfl xK xL xO xL) rfl ?_
            change WL _ _ _ _ _ _ _
            refine wlv (op_assign (lt_ rfl) rfl) rfl ?_
            refine WL.nil ?_
            refine WX.regs (L' := [(4, _), (5, _)]) ?_
            refine WX.next ?_
            refine WC.ret ?_
            refine WX.then_ret ?_
            have hnone : areaM n (rs.map Bs.s) = none := by rw [ham]; first | exact areaL_none (by omega) | (obtain rfl : l = [] := List.eq_nil_of_length_eq_zero (by omega); rfl)
            refine WX.nilrows true ?_
            refine WX.nilown 23 1 ?_
            exact Fin.ret2 xI (Ar.zero) (by rw [hnone]; rfl) Try.results35 rfl (.cellN rfl ag72 xM xL) (.tmp rfl) xT (by simp)
          ·
            refine wlgv (op_move (lt_ rfl) rfl) rfl rfl rfl ?_
            refine wlgv (op_index Try.underlying100 sz89 (lt_ rfl) rfl rfl (by omega) (by omega) (by decide) xS) rfl rfl rfl ?_
            refine wlgv (op_fieldAddrS fo89_3 (lt_ rfl) rfl xS (by simp [Rs.cells])) rfl rfl rfl ?_
            refine wlgv (op_loadS fl23 (lt_ rfl) rfl xS rfl) rfl rfl rfl ?_
            refine wlgv (op_len Try.underlying23 (lt_ rfl) rfl) rfl rfl rfl ?_
            refine wlgv (op_neq (lt_ rfl) rfl rfl) rfl rfl rfl ?_
            refine wlv (op_pickF (lt_ rfl) rfl rfl) rfl ?_
            refine WL.nil ?_
            refine WX.regs (L' := [(4, _), (8, _), (9, _), (77, _)]) ?_
            refine WX.next ?_
            refine WC.cond rfl (fun h3 => ?_) (fun h3 => ?_)
            ·
              refine WC.seq ?_
              refine WC.region ?_
              refine wlv (op_build (cs := [.bool false, .int .i64 0, .int .i64 0, .slice none 0 0]) (pv := []) (lt_ rfl) rfl (by kernel_rfl)) rfl ?_
              refine wl (op_storeAll sz72 rfl rfl xK xL xO xL) rfl ?_
              change WL _ _ _ _ _ _ _
              refine wlv (op_assign (lt_ rfl) rfl) rfl ?_
              refine WL.nil ?_
              refine WX.regs (L' := [(4, _), (5, _)]) ?_
              refine WX.next ?_
              refine WC.ret ?_
              refine WX.then_ret ?_
              have hnone : areaM n (rs.map Bs.s) = none := by rw [ham]; first | exact areaL_none (by omega) | (obtain rfl : l = [] := List.eq_nil_of_length_eq_zero (by omega); rfl)
              refine WX.nilrows true ?_
              refine WX.nilown 23 1 ?_
              exact Fin.ret2 xI (Ar.zero) (by rw [hnone]; rfl) Try.results35 rfl (.cellN rfl ag72 xM xL) (.tmp rfl) xT (by simp)
            ·
              refine WC.skip ?_
              refine WX.next ?_
              refine WC.seq ?_
              refine WC.region ?_
              refine WL.capx (A := h.b.A) (m := h.b.s.length) (c := h.b.c) (sz := 1) (xs := bvs h.b.s) ⟨rowsC true ((h :: t).map Rs.b), xM, rowsC_get (r := h.b) (by simp)⟩ (fun hcap => ?_)
              refine wlv (op_move (lt_ rfl) rfl) rfl ?_
              refine wlv (op_index Try.underlying100 sz89 (lt_ rfl) rfl rfl (by omega) (by omega) (by decide) xS) rfl ?_
              refine wlv (op_fieldAddrS fo89_3 (lt_ rfl) rfl xS (by simp [Rs.cells])) rfl ?_
              refine wlv (op_loadS fl23 (lt_ rfl) rfl xS rfl) rfl ?_
              refine wlv (op_slice_h Try.underlying23 sz5 (lt_ rfl) rfl rfl (by omega) (by omega)) rfl ?_
              refine wlx (op_call (f57_spec _ _ (h.b.s.take 8) (by rw [List.length_take]; omega)) ca57 (lt_ rfl) rfl (by apply Give.mk; (focus (repeat (first | exact Takes.nil | exact Take.here | apply Takes.cons | apply Take.there))); exact Reads.cons (c := rowsC true ((h :: t).map Rs.b)) xM (by simp) (Ch.Le.trans (rd_subB (l := 0) (h := 8) (by omega) (by omega)) (rowsC_get (r := h.b) (by simp))) Reads.nil)) rfl ?_
              rintro _ _
              refine wlv (op_move (lt_ rfl) rfl) rfl ?_
              refine wlv (op_extract (lt_ rfl) rfl rfl) rfl ?_
              refine wlv (op_extract (lt_ rfl) rfl rfl) rfl ?_
              refine wlv (op_assign (lt_ rfl) rfl) rfl ?_
              refine wlv (op_assign (lt_ rfl) rfl) rfl ?_
              refine WL.nil ?_
              refine WX.regs (L' := [(4, _), (8, _), (9, _), (12, _), (13, _)]) ?_
              refine WX.next ?_
              refine WC.seq ?_
              refine WC.region ?_
              refine wlv (op_move (lt_ rfl) rfl) rfl ?_
              refine wlv (op_index Try.underlying100 sz89 (lt_ rfl) rfl rfl (by omega) (by omega) (by decide) xS) rfl ?_
              refine wlv (op_fieldAddrS fo89_3 (lt_ rfl) rfl xS (by simp [Rs.cells])) rfl ?_
              refine wlv (op_loadS fl23 (lt_ rfl) rfl xS rfl) rfl ?_
              have h16 : h.b.s.length = 16 := by omega
              rw [show h.b.v = .slice h.b.A 16 h.b.c from by unfold Bs.v; rw [h16]]
              refine wlv (op_slice_l Try.underlying23 sz5 (lt_ rfl) rfl rfl (by omega) (by omega)) rfl ?_
              refine wlx (op_call (f57_spec _ _ (h.b.s.drop 8) (by rw [List.length_drop]; omega)) ca57 (lt_ rfl) rfl (by apply Give.mk; (focus (repeat (first | exact Takes.nil | exact Take.here | apply Takes.cons | apply Take.there))); exact Reads.cons (c := rowsC true ((h :: t).map Rs.b)) xM (by simp) (Ch.Le.trans (ch16 h.b h16) (rowsC_get (r := h.b) (by simp))) Reads.nil)) rfl ?_
              rintro _ _
              refine wlv (op_move (lt_ rfl) rfl) rfl ?_
              refine wlv (op_extract (lt_ rfl) rfl rfl) rfl ?_
              refine wlv (op_extract (lt_ rfl) rfl rfl) rfl ?_
              refine wlv (op_assign (lt_ rfl) rfl) rfl ?_
              refine wlv (op_assign (lt_ rfl) rfl) rfl ?_
              refine WL.nil ?_
              refine WX.regs (L' := [(4, _), (8, _), (9, _), (12, _), (13, _), (14, _), (15, _)]) ?_
              refine WX.next ?_
              refine WC.seq ?_
              refine WC.region ?_
              refine wlv (op_move (lt_ rfl) rfl) rfl ?_
              refine wlv (op_slice_l Try.underlying100 sz89 (lt_ rfl) rfl rfl (by omega) (by omega)) rfl ?_
              refine WL.dup (c := rd (.slice Al (h :: t).length cl) 4 (h :: t).length ((h :: t).flatMap Rs.cells)) (d := rd (sliced Al 1 (t.length + 1) cl 4) 4 t.length (t.flatMap Rs.cells)) xM (by simp) (by simp) rd_tailA ?_
              refine wlx (op_call (f58_spec _ t.length _ t rfl (by omega)) ca58 (lt_ rfl) rfl) rfl ?_
              rintro _ _
              refine wlv (op_assign (lt_ rfl) rfl) rfl ?_
              refine WL.nil ?_
              refine WX.regs (L' := [(4, _), (8, _), (9, _), (12, _), (13, _), (14, _), (15, _), (16, _)]) ?_
              refine WX.next ?_
              refine WC.seq ?_
              refine WC.seq ?_
              refine WC.region ?_
              refine wlv (op_move (lt_ rfl) rfl) rfl ?_
              refine wlv (op_lss (lt_ rfl) rfl rfl) rfl ?_
              refine WL.nil ?_
              refine WX.regs (L' := [(4, _), (8, _), (9, _), (12, _), (13, _), (14, _), (15, _), (16, _), (101, _)]) ?_
              refine WX.next ?_
              refine WC.cond rfl (fun h4 => ?_) (fun h4 => ?_)
              ·
                have htw : ((t.map Rs.k).takeWhile (· == 2)).length = t.length := by split at h4; assumption; omega
                refine WC.region ?_
                refine wlv (op_move (lt_ rfl) rfl) rfl ?_
                refine wlv (op_len Try.underlying100 (lt_ rfl) rfl) rfl ?_
                refine wlv (op_sub (lt_ rfl) rfl rfl (by omega)) rfl ?_
                rw [show (((h :: t).length : Nat) : Int) - 1 = ((((t.map Rs.k).takeWhile (· == 2)).length : Nat) : Int) by rw [htw, List.length_cons]; omega]
                refine wlv (op_assign (lt_ rfl) rfl) rfl ?_
                refine WL.nil ?_
                refine WX.regs (L' := [(4, _), (8, _), (9, _), (12, _), (13, _), (14, _), (15, _), (16, _)]) ?_
                refine WX.next ?_
                refine WC.seq ?_
                refine WC.seq ?_
                refine WC.region ?_
                refine wlv (op_move (lt_ rfl) rfl) rfl ?_
                refine wlv (op_notp (lt_ rfl) rfl) rfl ?_
                refine wlv (op_move (lt_ rfl) rfl) rfl ?_
                refine WL.split (t := 107) rfl (fun g107 => ?_) (fun g107 => ?_)
                ·
                  refine wlg_no rfl rfl rfl rfl rfl (by decide) ?_
                  refine wlg_no rfl rfl rfl rfl rfl (by decide) ?_
                  refine wlv (op_pickT (lt_ rfl) rfl rfl) rfl ?_
                  refine wlv (op_move (lt_ rfl) rfl) rfl ?_
                  refine wlg_no rfl rfl rfl rfl rfl (by decide) ?_
                  refine wlg_no rfl rfl rfl rfl rfl (by decide) ?_
                  refine wlg_no rfl rfl rfl rfl rfl (by decide) ?_
                  refine wlv (op_pickT (lt_ rfl) rfl rfl) rfl ?_
                  refine WL.nil ?_
                  refine WX.regs (L' := [(4, _), (8, _), (9, _), (12, _), (16, _), (115, _)]) ?_
                  refine WX.next ?_
                  refine WC.condT rfl ?_
                  refine WC.seq ?_
                  refine WC.region ?_
                  refine wlv (op_build (cs := [.bool false, .int .i64 0, .int .i64 0, .slice none 0 0]) (pv := []) (lt_ rfl) rfl (by kernel_rfl)) rfl ?_
                  refine wl (op_storeAll sz72 rfl rfl xK xL xO xL) rfl ?_
                  change WL _ _ _ _ _ _ _
                  refine wlv (op_assign (lt_ rfl) rfl) rfl ?_
                  refine WL.nil ?_
                  refine WX.regs (L' := [(4, _), (5, _)]) ?_
                  refine WX.next ?_
                  refine WC.ret ?_
                  refine WX.then_ret ?_
                  have hnone : areaM n (rs.map Bs.s) = none := by rw [ham]; exact areaL_none (by omega)
                  refine WX.nilrows true ?_
                  refine WX.nilown 23 1 ?_
                  exact Fin.ret2 xI (Ar.zero) (by rw [hnone]; rfl) Try.results35 rfl (.cellN rfl ag72 xM xL) (.tmp rfl) xT (by simp)
                ·
                  refine wlgv (op_move (lt_ rfl) rfl) rfl rfl rfl ?_
                  refine wlgv (op_notp (lt_ rfl) rfl) rfl rfl rfl ?_
                  refine wlv (op_pickF (lt_ rfl) rfl rfl) rfl ?_
                  refine wlv (op_move (lt_ rfl) rfl) rfl ?_
                  refine WL.split (t := 111) rfl (fun g111 => ?_) (fun g111 => ?_)
                  ·
                    refine wlg_no rfl rfl rfl rfl rfl (by decide) ?_
                    refine wlg_no rfl rfl rfl rfl rfl (by decide) ?_
                    refine wlg_no rfl rfl rfl rfl rfl (by decide) ?_
                    refine wlv (op_pickT (lt_ rfl) rfl rfl) rfl ?_
                    refine WL.nil ?_
                    refine WX.regs (L' := [(4, _), (8, _), (9, _), (12, _), (16, _), (115, _)]) ?_
                    refine WX.next ?_
                    refine WC.condT rfl ?_
                    refine WC.seq ?_
                    refine WC.region ?_
                    refine wlv (op_build (cs := [.bool false, .int .i64 0, .int .i64 0, .slice none 0 0]) (pv := []) (lt_ rfl) rfl (by kernel_rfl)) rfl ?_
                    refine wl (op_storeAll sz72 rfl rfl xK xL xO xL) rfl ?_
                    change WL _ _ _ _ _ _ _
                    refine wlv (op_assign (lt_ rfl) rfl) rfl ?_
                    refine WL.nil ?_
                    refine WX.regs (L' := [(4, _), (5, _)]) ?_
                    refine WX.next ?_
                    refine WC.ret ?_
                    refine WX.then_ret ?_
                    have hnone : areaM n (rs.map Bs.s) = none := by rw [ham]; exact areaL_none (by omega)
                    refine WX.nilrows true ?_
                    refine WX.nilown 23 1 ?_
                    exact Fin.ret2 xI (Ar.zero) (by rw [hnone]; rfl) Try.results35 rfl (.cellN rfl ag72 xM xL) (.tmp rfl) xT (by simp)
                  ·
                    refine wlgv (op_move (lt_ rfl) rfl) rfl rfl rfl ?_
                    refine wlgv (op_move (lt_ rfl) rfl) rfl rfl rfl ?_
                    refine wlgv (op_lss (lt_ rfl) rfl rfl) rfl rfl rfl ?_
                    refine wlv (op_pickF (lt_ rfl) rfl rfl) rfl ?_
                    refine WL.nil ?_
                    refine WX.regs (L' := [(4, _), (8, _), (9, _), (12, _), (16, _), (115, _)]) ?_
                    refine WX.next ?_
                    refine WC.cond rfl (fun h5 => ?_) (fun h5 => ?_)
                    ·
                      refine WC.seq ?_
                      refine WC.region ?_
                      refine wlv (op_build (cs := [.bool false, .int .i64 0, .int .i64 0, .slice none 0 0]) (pv := []) (lt_ rfl) rfl (by kernel_rfl)) rfl ?_
                      refine wl (op_storeAll sz72 rfl rfl xK xL xO xL) rfl ?_
                      change WL _ _ _ _ _ _ _
                      refine wlv (op_assign (lt_ rfl) rfl) rfl ?_
                      refine WL.nil ?_
                      refine WX.regs (L' := [(4, _), (5, _)]) ?_
                      refine WX.next ?_
                      refine WC.ret ?_
                      refine WX.then_ret ?_
                      have hnone : areaM n (rs.map Bs.s) = none := by rw [ham]; exact areaL_none (by omega)
                      refine WX.nilrows true ?_
                      refine WX.nilown 23 1 ?_
                      exact Fin.ret2 xI (Ar.zero) (by rw [hnone]; rfl) Try.results35 rfl (.cellN rfl ag72 xM xL) (.tmp rfl) xT (by simp)
                    ·
                      refine WC.skip ?_
                      refine WX.next ?_
                      refine WC.seq ?_
                      refine WC.region ?_
                      refine WL.capx (A := Al) (m := (h :: t).length) (c := cl) (sz := 4) (xs := (h :: t).flatMap Rs.cells) (Src.rd xM) (fun hclp => ?_)
                      have hcl2 : t.length + 1 ≤ cl := hclp
                      rw [show min (vl (h.b.s.take 8)) 2147483647 = vl (h.b.s.take 8) from Nat.min_eq_left (by omega)]
                      refine wlv (op_fieldAddr fo96_1 (lt_ rfl) rfl) rfl ?_
                      refine wlv (op_load1 fl3 (lt_ rfl) rfl xM rfl) rfl ?_
                      refine wlv (op_move (lt_ rfl) rfl) rfl ?_
                      refine wlv (op_build (cs := [.bool true, .int .i64 p.g, .int .i64 ((vl (h.b.s.take 8) : Nat) : Int), .slice none 0 0]) (pv := [(0, _), (1, _), (2, _)]) (lt_ rfl) rfl (by kernel_rfl)) rfl ?_
                      refine wl1 (op_alloc ti72 (lt_ rfl)) rfl fun b4 => ?_
                      refine wl (op_storeAll sz72 rfl rfl xK xL xO xL) rfl ?_
                      change WL _ _ _ _ _ _ _
                      refine WL.nil ?_
                      refine WX.regs (L' := [(4, _), (9, _), (16, _), (17, _)]) ?_
                      refine WX.next ?_
                      refine WC.seq ?_
                      refine WC.seq ?_
                      refine WC.region ?_
                      refine wlv (op_move (lt_ rfl) rfl) rfl ?_
                      refine wlv (op_move (lt_ rfl) rfl) rfl ?_
                      refine wlv (op_add (lt_ rfl) rfl rfl (by omega)) rfl ?_
                      refine wlv (op_slice_lh Try.underlying100 sz89 (lt_ rfl) rfl rfl rfl (by omega) (by omega) (by omega)) rfl ?_
                      rw [show ((1 : Int) + ((((t.map Rs.k).takeWhile (· == 2)).length : Nat) : Int)).toNat = 1 + ((t.map Rs.k).takeWhile (· == 2)).length by omega]
                      refine wlv (op_len Try.underlying100 (lt_ rfl) rfl) rfl ?_
                      refine wlv (op_move (lt_ rfl) rfl) rfl ?_
                      refine WL.nil ?_
                      refine WX.regs (L' := [(4, _), (17, _), (124, _), (125, _), (126, _)]) ?_
                      refine WX.next ?_
                      refine WC.block ?_
                      refine WC.dup (c := rd (.slice Al (t.length + 1) cl) 4 (t.length + 1) ((h :: t).flatMap Rs.cells)) (d := rd (sliced Al 1 (1 + ((t.map Rs.k).takeWhile (· == 2)).length) cl 4) 4 (1 + ((t.map Rs.k).takeWhile (· == 2)).length - 1) ((t.take ((t.map Rs.k).takeWhile (· == 2)).length).flatMap Rs.cells)) xM (by simp) (by simp) (rd_tailC htl) ?_
                      refine WC.nilslice 23 1 ?_
                      refine WC.loop (X := Nat × Option Addr × Nat) (fun q => ((t.map Rs.k).takeWhile (· == 2)).length - q.1) (fun q => q.1 ≤ ((t.map Rs.k).takeWhile (· == 2)).length) (fun q => [(4, .pointer (some ⟨b2, 0, none⟩)), (17, .pointer (some ⟨b4, 0, none⟩)), (124, sliced Al 1 (1 + ((t.map Rs.k).takeWhile (· == 2)).length) cl 4), (125, .int .i64 ((((t.map Rs.k).takeWhile (· == 2)).length : Nat) : Int)), (126, .int .i64 (q.1 : Int))]) (fun q => [own (.slice q.2.1 q.1 q.2.2) 23 1 q.1 ((((t.take ((t.map Rs.k).takeWhile (· == 2)).length).map Rs.b).take q.1).map Bs.v), blk b4 [.bool true, .int .i64 p.g, .int .i64 ((vl (h.b.s.take 8) : Nat) : Int), .slice q.2.1 q.1 q.2.2] 72, rd (sliced Al 1 (1 + ((t.map Rs.k).takeWhile (· == 2)).length) cl 4) 4 (1 + ((t.map Rs.k).takeWhile (· == 2)).length - 1) ((t.take ((t.map Rs.k).takeWhile (· == 2)).length).flatMap Rs.cells), rowsC true ((h :: t).map Rs.b), blk b2 [.bool false, .int .i64 0, .int .i64 0, .slice none 0 0] 72, blk bd (dcells D bm A c) 66, mapC bm (dmap D.dur), own (.slice A D.pend.length c) 84 257 D.pend.length (D.pend.flatMap wcs), frameC w0 (MutF [blk bd (dcells D bm A c) 66, mapC bm (dmap D.dur), own (.slice A D.pend.length c) 84 257 D.pend.length (D.pend.flatMap wcs)])]) ((0, none, 0)) (Nat.zero_le _) (fun a w hs => hs.sub xY xT) ?_
                      rintro ⟨i, Ao, co⟩ hi
                      try dsimp only at hi ⊢
                      refine WC.seq ?_
                      refine WC.region ?_
                      refine wlv (op_lss (lt_ rfl) rfl rfl) rfl ?_
                      refine WL.nil ?_
                      refine WX.regs (L' := [(4, _), (17, _), (124, _), (125, _), (126, _), (127, _)]) ?_
                      refine WX.next ?_
                      refine WC.seq ?_
                      refine WC.cond rfl (fun h6 => ?_) (fun h6 => ?_)
                      ·
                        refine WC.skip ?_
                        refine WX.next ?_
                        refine WC.seq ?_
                        refine WC.block ?_
                        refine WC.seq ?_
                        refine WC.region ?_
                        obtain ⟨ri, hri⟩ : ∃ r, (t.take ((t.map Rs.k).takeWhile (· == 2)).length)[i]? = some r := ⟨_, List.getElem?_eq_getElem (by rw [List.length_take]; omega)⟩
                        have hx : ∀ j, j = i * 4 → (((t.take ((t.map Rs.k).takeWhile (· == 2)).length).flatMap Rs.cells).drop j).take 4 = ri.cells := fun j hj => by rw [hj]; exact flat_at (f := Rs.cells) (sz := 4) (fun _ => rfl) _ i ri hri
                        refine wlv (op_index Try.underlying100 sz89 (lt_ rfl) rfl rfl (by omega) (by omega) (by decide) xS) rfl ?_
                        refine wlv (op_loadSN ag89 (lt_ rfl) rfl xS (by rw [hx _ (by omega)]; rfl) (by decide)) rfl ?_
                        rw [hx _ (by omega)]
                        refine wl1 (op_alloc ti89 (lt_ rfl)) rfl fun b5 => ?_
                        refine wl (op_storeAll sz89 rfl rfl xK xL xO xL) rfl ?_
                        change WL _ _ _ _ _ _ _
                        refine WL.nil ?_
                        refine WX.regs (L' := [(4, _), (17, _), (19, _), (124, _), (125, _), (126, _)]) ?_
                        refine WX.next ?_
                        refine WC.region ?_
                        refine wlv (op_fieldAddr fo72_3 (lt_ rfl) rfl) rfl ?_
                        refine wlv (op_load1 fl70 (lt_ rfl) rfl xM rfl) rfl ?_
                        refine wlv (op_fieldAddr fo89_3 (lt_ rfl) rfl) rfl ?_
                        refine wlv (op_load1 fl23 (lt_ rfl) rfl xM rfl) rfl ?_
                        refine wl1 (op_lit1 Try.underlying70 ti23 rfl (by decide) (lt_ rfl) rfl rfl) rfl fun b6 => ?_
                        refine wl2 (op_append Try.underlying70 ti23 rfl (by decide) (lt_ rfl) rfl rfl xK xS xO (by omega) (by omega)) rfl fun A1 c1 => ?_
                        refine wlv (op_fieldAddr fo72_3 (lt_ rfl) rfl) rfl ?_
                        refine wl (op_store sz70 rfl rfl xK xL xO (by first | exact Nat.le_of_ble_eq_true rfl | (simp; omega))) rfl ?_
                        change WL _ _ _ _ _ _ _
                        refine WL.nil ?_
                        refine WX.regs (L' := [(4, _), (17, _), (124, _), (125, _), (126, _)]) ?_
                        refine WX.in_normal ?_
                        refine WX.next ?_
                        refine WC.region ?_
                        refine wlv (op_add (lt_ rfl) rfl rfl (by omega)) rfl ?_
                        refine wlv (op_move (lt_ rfl) rfl) rfl ?_
                        refine WL.nil ?_
                        refine WX.regs (L' := [(4, _), (17, _), (124, _), (125, _), (126, _)]) ?_
                        refine WX.ownEq (v := .slice A1 (i + 1) c1) ((((t.take ((t.map Rs.k).takeWhile (· == 2)).length).map Rs.b).take (i + 1)).map Bs.v) xK (by rw [take_snoc (x := ri.b) (by rw [List.getElem?_map, hri]; rfl), ← map_push]; rfl) ?_
                        refine WX.meet ((i + 1, A1, c1)) ⟨by simp only []; omega, by simp only []; omega⟩ (fun a w hs => hs.sub xY xT)
                      ·
                        refine WC.exit ?_
                        refine WX.then_exit ?_
                        refine WX.then_exit ?_
                        refine WX.in_hit ?_
                        refine WX.next ?_
                        refine WC.seq ?_
                        refine WC.region ?_
                        refine wlv (op_loadAll ag72 (lt_ rfl) rfl xM xL) rfl ?_
                        refine wl (op_storeAll sz72 rfl rfl xK xL xO xL) rfl ?_
                        change WL _ _ _ _ _ _ _
                        refine wlv (op_assign (lt_ rfl) rfl) rfl ?_
                        refine WL.nil ?_
                        refine WX.regs (L' := [(4, _), (5, _)]) ?_
                        refine WX.next ?_
                        refine WC.ret ?_
                        have hsome := areaL_some (g := p.g) (h := h) (t := t) (by omega)
                        rw [← ham] at hsome
                        have hie : i = ((t.map Rs.k).takeWhile (· == 2)).length := by omega
                        subst hie
                        have hel : ((t.take ((t.map Rs.k).takeWhile (· == 2)).length).map Rs.b).length = ((t.map Rs.k).takeWhile (· == 2)).length := by rw [List.length_map, List.length_take]; omega
                        have hek : ((t.take ((t.map Rs.k).takeWhile (· == 2)).length).map Rs.b).take ((t.map Rs.k).takeWhile (· == 2)).length = ((t.take ((t.map Rs.k).takeWhile (· == 2)).length).map Rs.b) := List.take_of_length_le (by rw [hel]; exact Nat.le_refl _)
                        refine WX.chEq (c := own (.slice Ao ((t.map Rs.k).takeWhile (· == 2)).length co) 23 1 ((t.map Rs.k).takeWhile (· == 2)).length ((((t.take ((t.map Rs.k).takeWhile (· == 2)).length).map Rs.b).take ((t.map Rs.k).takeWhile (· == 2)).length).map Bs.v)) (own (.slice Ao ((t.take ((t.map Rs.k).takeWhile (· == 2)).length).map Rs.b).length co) 23 1 ((t.take ((t.map Rs.k).takeWhile (· == 2)).length).map Rs.b).length (((t.take ((t.map Rs.k).takeWhile (· == 2)).length).map Rs.b).map Bs.v)) xK (by rw [hel, hek]) ?_
                        refine WX.chEq (c := blk b2 _ 72) (blk b2 (Ar.cells ⟨true, p.g, ((vl (h.b.s.take 8) : Nat) : Int), Ao, co, ((t.take ((t.map Rs.k).takeWhile (· == 2)).length).map Rs.b)⟩) 72) xK (by unfold Ar.cells; rw [hel]; rfl) ?_
                        refine WX.turn (c := rowsC true ((h :: t).map Rs.b)) (d := rowsC true ((t.take ((t.map Rs.k).takeWhile (· == 2)).length).map Rs.b)) xK (rowsC_sub fun r hr => by rw [List.map_cons]; exact List.mem_cons_of_mem _ (by rw [List.map_take] at hr; exact List.mem_of_mem_take hr)) ?_
                        exact Fin.ret2 xI (⟨true, p.g, _, Ao, co, ((t.take ((t.map Rs.k).takeWhile (· == 2)).length).map Rs.b)⟩) (by rw [hsome]; exact ⟨rfl, rfl, rfl, rfl⟩) Try.results35 rfl (.cellN rfl ag72 xM xL) (.tmp rfl) xT (by simp)
              ·
                have htw : ¬ ((t.map Rs.k).takeWhile (· == 2)).length = t.length := by intro htw; rw [if_pos htw] at h4; omega
                rw [if_neg htw]
                refine WC.skip ?_
                refine WX.next ?_
                refine WC.seq ?_
                refine WC.seq ?_
                refine WC.region ?_
                refine wlv (op_move (lt_ rfl) rfl) rfl ?_
                refine wlv (op_notp (lt_ rfl) rfl) rfl ?_
                refine wlv (op_move (lt_ rfl) rfl) rfl ?_
                refine WL.split (t := 107) rfl (fun g107 => ?_) (fun g107 => ?_)
                ·
                  refine wlg_no rfl rfl rfl rfl rfl (by decide) ?_
                  refine wlg_no rfl rfl rfl rfl rfl (by decide) ?_
                  refine wlv (op_pickT (lt_ rfl) rfl rfl) rfl ?_
                  refine wlv (op_move (lt_ rfl) rfl) rfl ?_
                  refine wlg_no rfl rfl rfl rfl rfl (by decide) ?_
                  refine wlg_no rfl rfl rfl rfl rfl (by decide) ?_
                  refine wlg_no rfl rfl rfl rfl rfl (by decide) ?_
                  refine wlv (op_pickT (lt_ rfl) rfl rfl) rfl ?_
                  refine WL.nil ?_
                  refine WX.regs (L' := [(4, _), (8, _), (9, _), (12, _), (16, _), (115, _)]) ?_
                  refine WX.next ?_
                  refine WC.condT rfl ?_
                  refine WC.seq ?_
                  refine WC.region ?_
                  refine wlv (op_build (cs := [.bool false, .int .i64 0, .int .i64 0, .slice none 0 0]) (pv := []) (lt_ rfl) rfl (by kernel_rfl)) rfl ?_
                  refine wl (op_storeAll sz72 rfl rfl xK xL xO xL) rfl ?_
                  change WL _ _ _ _ _ _ _
                  refine wlv (op_assign (lt_ rfl) rfl) rfl ?_
                  refine WL.nil ?_
                  refine WX.regs (L' := [(4, _), (5, _)]) ?_
                  refine WX.next ?_
                  refine WC.ret ?_
                  refine WX.then_ret ?_
                  have hnone : areaM n (rs.map Bs.s) = none := by rw [ham]; exact areaL_none (by omega)
                  refine WX.nilrows true ?_
                  refine WX.nilown 23 1 ?_
                  exact Fin.ret2 xI (Ar.zero) (by rw [hnone]; rfl) Try.results35 rfl (.cellN rfl ag72 xM xL) (.tmp rfl) xT (by simp)
                ·
                  refine wlgv (op_move (lt_ rfl) rfl) rfl rfl rfl ?_
                  refine wlgv (op_notp (lt_ rfl) rfl) rfl rfl rfl ?_
                  refine wlv (op_pickF (lt_ rfl) rfl rfl) rfl ?_
                  refine wlv (op_move (lt_ rfl) rfl) rfl ?_
                  refine WL.split (t := 111) rfl (fun g111 => ?_) (fun g111 => ?_)
                  ·
                    refine wlg_no rfl rfl rfl rfl rfl (by decide) ?_
                    refine wlg_no rfl rfl rfl rfl rfl (by decide) ?_
                    refine wlg_no rfl rfl rfl rfl rfl (by decide) ?_
                    refine wlv (op_pickT (lt_ rfl) rfl rfl) rfl ?_
                    refine WL.nil ?_
                    refine WX.regs (L' := [(4, _), (8, _), (9, _), (12, _), (16, _), (115, _)]) ?_
                    refine WX.next ?_
                    refine WC.condT rfl ?_
                    refine WC.seq ?_
                    refine WC.region ?_
                    refine wlv (op_build (cs := [.bool false, .int .i64 0, .int .i64 0, .slice none 0 0]) (pv := []) (lt_ rfl) rfl (by kernel_rfl)) rfl ?_
                    refine wl (op_storeAll sz72 rfl rfl xK xL xO xL) rfl ?_
                    change WL _ _ _ _ _ _ _
                    refine wlv (op_assign (lt_ rfl) rfl) rfl ?_
                    refine WL.nil ?_
                    refine WX.regs (L' := [(4, _), (5, _)]) ?_
                    refine WX.next ?_
                    refine WC.ret ?_
                    refine WX.then_ret ?_
                    have hnone : areaM n (rs.map Bs.s) = none := by rw [ham]; exact areaL_none (by omega)
                    refine WX.nilrows true ?_
                    refine WX.nilown 23 1 ?_
                    exact Fin.ret2 xI (Ar.zero) (by rw [hnone]; rfl) Try.results35 rfl (.cellN rfl ag72 xM xL) (.tmp rfl) xT (by simp)
                  ·
                    refine wlgv (op_move (lt_ rfl) rfl) rfl rfl rfl ?_
                    refine wlgv (op_move (lt_ rfl) rfl) rfl rfl rfl ?_
                    refine wlgv (op_lss (lt_ rfl) rfl rfl) rfl rfl rfl ?_
                    refine wlv (op_pickF (lt_ rfl) rfl rfl) rfl ?_
                    refine WL.nil ?_
                    refine WX.regs (L' := [(4, _), (8, _), (9, _), (12, _), (16, _), (115, _)]) ?_
                    refine WX.next ?_
                    refine WC.cond rfl (fun h7 => ?_) (fun h7 => ?_)
                    ·
                      refine WC.seq ?_
                      refine WC.region ?_
                      refine wlv (op_build (cs := [.bool false, .int .i64 0, .int .i64 0, .slice none 0 0]) (pv := []) (lt_ rfl) rfl (by kernel_rfl)) rfl ?_
                      refine wl (op_storeAll sz72 rfl rfl xK xL xO xL) rfl ?_
                      change WL _ _ _ _ _ _ _
                      refine wlv (op_assign (lt_ rfl) rfl) rfl ?_
                      refine WL.nil ?_
                      refine WX.regs (L' := [(4, _), (5, _)]) ?_
                      refine WX.next ?_
                      refine WC.ret ?_
                      refine WX.then_ret ?_
                      have hnone : areaM n (rs.map Bs.s) = none := by rw [ham]; exact areaL_none (by omega)
                      refine WX.nilrows true ?_
                      refine WX.nilown 23 1 ?_
                      exact Fin.ret2 xI (Ar.zero) (by rw [hnone]; rfl) Try.results35 rfl (.cellN rfl ag72 xM xL) (.tmp rfl) xT (by simp)
                    ·
                      refine WC.skip ?_
                      refine WX.next ?_
                      refine WC.seq ?_
                      refine WC.region ?_
                      refine WL.capx (A := Al) (m := (h :: t).length) (c := cl) (sz := 4) (xs := (h :: t).flatMap Rs.cells) (Src.rd xM) (fun hclp => ?_)
                      have hcl2 : t.length + 1 ≤ cl := hclp
                      rw [show min (vl (h.b.s.take 8)) 2147483647 = vl (h.b.s.take 8) from Nat.min_eq_left (by omega)]
                      refine wlv (op_fieldAddr fo96_1 (lt_ rfl) rfl) rfl ?_
                      refine wlv (op_load1 fl3 (lt_ rfl) rfl xM rfl) rfl ?_
                      refine wlv (op_move (lt_ rfl) rfl) rfl ?_
                      refine wlv (op_build (cs := [.bool true, .int .i64 p.g, .int .i64 ((vl (h.b.s.take 8) : Nat) : Int), .slice none 0 0]) (pv := [(0, _), (1, _), (2, _)]) (lt_ rfl) rfl (by kernel_rfl)) rfl ?_
                      refine wl1 (op_alloc ti72 (lt_ rfl)) rfl fun b7 => ?_
                      refine wl (op_storeAll sz72 rfl rfl xK xL xO xL) rfl ?_
                      change WL _ _ _ _ _ _ _
                      refine WL.nil ?_
                      refine WX.regs (L' := [(4, _), (9, _), (16, _), (17, _)]) ?_
                      refine WX.next ?_
                      refine WC.seq ?_
                      refine WC.seq ?_
                      refine WC.region ?_
                      refine wlv (op_move (lt_ rfl) rfl) rfl ?_
                      refine wlv (op_move (lt_ rfl) rfl) rfl ?_
                      refine wlv (op_add (lt_ rfl) rfl rfl (by omega)) rfl ?_
                      refine wlv (op_slice_lh Try.underlying100 sz89 (lt_ rfl) rfl rfl rfl (by omega) (by omega) (by omega)) rfl ?_
                      rw [show ((1 : Int) + ((((t.map Rs.k).takeWhile (· == 2)).length : Nat) : Int)).toNat = 1 + ((t.map Rs.k).takeWhile (· == 2)).length by omega]
                      refine wlv (op_len Try.underlying100 (lt_ rfl) rfl) rfl ?_
                      refine wlv (op_move (lt_ rfl) rfl) rfl ?_
                      refine WL.nil ?_
                      refine WX.regs (L' := [(4, _), (17, _), (124, _), (125, _), (126, _)]) ?_
                      refine WX.next ?_
                      refine WC.block ?_
                      refine WC.dup (c := rd (.slice Al (t.length + 1) cl) 4 (t.length + 1) ((h :: t).flatMap Rs.cells)) (d := rd (sliced Al 1 (1 + ((t.map Rs.k).takeWhile (· == 2)).length) cl 4) 4 (1 + ((t.map Rs.k).takeWhile (· == 2)).length - 1) ((t.take ((t.map Rs.k).takeWhile (· == 2)).length).flatMap Rs.cells)) xM (by simp) (by simp) (rd_tailC htl) ?_
                      refine WC.nilslice 23 1 ?_
                      refine WC.loop (X := Nat × Option Addr × Nat) (fun q => ((t.map Rs.k).takeWhile (· == 2)).length - q.1) (fun q => q.1 ≤ ((t.map Rs.k).takeWhile (· == 2)).length) (fun q => [(4, .pointer (some ⟨b2, 0, none⟩)), (17, .pointer (some ⟨b7, 0, none⟩)), (124, sliced Al 1 (1 + ((t.map Rs.k).takeWhile (· == 2)).length) cl 4), (125, .int .i64 ((((t.map Rs.k).takeWhile (· == 2)).length : Nat) : Int)), (126, .int .i64 (q.1 : Int))]) (fun q => [own (.slice q.2.1 q.1 q.2.2) 23 1 q.1 ((((t.take ((t.map Rs.k).takeWhile (· == 2)).length).map Rs.b).take q.1).map Bs.v), blk b7 [.bool true, .int .i64 p.g, .int .i64 ((vl (h.b.s.take 8) : Nat) : Int), .slice q.2.1 q.1 q.2.2] 72, rd (sliced Al 1 (1 + ((t.map Rs.k).takeWhile (· == 2)).length) cl 4) 4 (1 + ((t.map Rs.k).takeWhile (· == 2)).length - 1) ((t.take ((t.map Rs.k).takeWhile (· == 2)).length).flatMap Rs.cells), rowsC true ((h :: t).map Rs.b), blk b2 [.bool false, .int .i64 0, .int .i64 0, .slice none 0 0] 72, blk bd (dcells D bm A c) 66, mapC bm (dmap D.dur), own (.slice A D.pend.length c) 84 257 D.pend.length (D.pend.flatMap wcs), frameC w0 (MutF [blk bd (dcells D bm A c) 66, mapC bm (dmap D.dur), own (.slice A D.pend.length c) 84 257 D.pend.length (D.pend.flatMap wcs)])]) ((0, none, 0)) (Nat.zero_le _) (fun a w hs => hs.sub xY xT) ?_
                      rintro ⟨i, Ao, co⟩ hi
                      try dsimp only at hi ⊢
                      refine WC.seq ?_
                      refine WC.region ?_
                      refine wlv (op_lss (lt_ rfl) rfl rfl) rfl ?_
                      refine WL.nil ?_
                      refine WX.regs (L' := [(4, _), (17, _), (124, _), (125, _), (126, _), (127, _)]) ?_
                      refine WX.next ?_
                      refine WC.seq ?_
                      refine WC.cond rfl (fun h8 => ?_) (fun h8 => ?_)
                      ·
                        refine WC.skip ?_
                        refine WX.next ?_
                        refine WC.seq ?_
                        refine WC.block ?_
                        refine WC.seq ?_
                        refine WC.region ?_
                        obtain ⟨ri, hri⟩ : ∃ r, (t.take ((t.map Rs.k).takeWhile (· == 2)).length)[i]? = some r := ⟨_, List.getElem?_eq_getElem (by rw [List.length_take]; omega)⟩
                        have hx : ∀ j, j = i * 4 → (((t.take ((t.map Rs.k).takeWhile (· == 2)).length).flatMap Rs.cells).drop j).take 4 = ri.cells := fun j hj => by rw [hj]; exact flat_at (f := Rs.cells) (sz := 4) (fun _ => rfl) _ i ri hri
                        refine wlv (op_index Try.underlying100 sz89 (lt_ rfl) rfl rfl (by omega) (by omega) (by decide) xS) rfl ?_
                        refine wlv (op_loadSN ag89 (lt_ rfl) rfl xS (by rw [hx _ (by omega)]; rfl) (by decide)) rfl ?_
                        rw [hx _ (by omega)]
                        refine wl1 (op_alloc ti89 (lt_ rfl)) rfl fun b8 => ?_
                        refine wl (op_storeAll sz89 rfl rfl xK xL xO xL) rfl ?_
                        change WL _ _ _ _ _ _ _
                        refine WL.nil ?_
                        refine WX.regs (L' := [(4, _), (17, _), (19, _), (124, _), (125, _), (126, _)]) ?_
                        refine WX.next ?_
                        refine WC.region ?_
                        refine wlv (op_fieldAddr fo72_3 (lt_ rfl) rfl) rfl ?_
                        refine wlv (op_load1 fl70 (lt_ rfl) rfl xM rfl) rfl ?_
                        refine wlv (op_fieldAddr fo89_3 (lt_ rfl) rfl) rfl ?_
                        refine wlv (op_load1 fl23 (lt_ rfl) rfl xM rfl) rfl ?_
                        refine wl1 (op_lit1 Try.underlying70 ti23 rfl (by decide) (lt_ rfl) rfl rfl) rfl fun b9 => ?_
                        refine wl2 (op_append Try.underlying70 ti23 rfl (by decide) (lt_ rfl) rfl rfl xK xS xO (by omega) (by omega)) rfl fun A2 c2 => ?_
                        refine wlv (op_fieldAddr fo72_3 (lt_ rfl) rfl) rfl ?_
                        refine wl (op_store sz70 rfl rfl xK xL xO (by first | exact Nat.le_of_ble_eq_true rfl | (simp; omega))) rfl ?_
                        change WL _ _ _ _ _ _ _
                        refine WL.nil ?_
                        refine WX.regs (L' := [(4, _), (17, _), (124, _), (125, _), (126, _)]) ?_
                        refine WX.in_normal ?_
                        refine WX.next ?_
                        refine WC.region ?_
                        refine wlv (op_add (lt_ rfl) rfl rfl (by omega)) rfl ?_
                        refine wlv (op_move (lt_ rfl) rfl) rfl ?_
                        refine WL.nil ?_
                        refine WX.regs (L' := [(4, _), (17, _), (124, _), (125, _), (126, _)]) ?_
                        refine WX.ownEq (v := .slice A2 (i + 1) c2) ((((t.take ((t.map Rs.k).takeWhile (· == 2)).length).map Rs.b).take (i + 1)).map Bs.v) xK (by rw [take_snoc (x := ri.b) (by rw [List.getElem?_map, hri]; rfl), ← map_push]; rfl) ?_
                        refine WX.meet ((i + 1, A2, c2)) ⟨by simp only []; omega, by simp only []; omega⟩ (fun a w hs => hs.sub xY xT)
                      ·
                        refine WC.exit ?_
                        refine WX.then_exit ?_
                        refine WX.then_exit ?_
                        refine WX.in_hit ?_
                        refine WX.next ?_
                        refine WC.seq ?_
                        refine WC.region ?_
                        refine wlv (op_loadAll ag72 (lt_ rfl) rfl xM xL) rfl ?_
                        refine wl (op_storeAll sz72 rfl rfl xK xL xO xL) rfl ?_
                        change WL _ _ _ _ _ _ _
                        refine wlv (op_assign (lt_ rfl) rfl) rfl ?_
                        refine WL.nil ?_
                        refine WX.regs (L' := [(4, _), (5, _)]) ?_
                        refine WX.next ?_
                        refine WC.ret ?_
                        have hsome := areaL_some (g := p.g) (h := h) (t := t) (by omega)
                        rw [← ham] at hsome
                        have hie : i = ((t.map Rs.k).takeWhile (· == 2)).length := by omega
                        subst hie
                        have hel : ((t.take ((t.map Rs.k).takeWhile (· == 2)).length).map Rs.b).length = ((t.map Rs.k).takeWhile (· == 2)).length := by rw [List.length_map, List.length_take]; omega
                        have hek : ((t.take ((t.map Rs.k).takeWhile (· == 2)).length).map Rs.b).take ((t.map Rs.k).takeWhile (· == 2)).length = ((t.take ((t.map Rs.k).takeWhile (· == 2)).length).map Rs.b) := List.take_of_length_le (by rw [hel]; exact Nat.le_refl _)
                        refine WX.chEq (c := own (.slice Ao ((t.map Rs.k).takeWhile (· == 2)).length co) 23 1 ((t.map Rs.k).takeWhile (· == 2)).length ((((t.take ((t.map Rs.k).takeWhile (· == 2)).length).map Rs.b).take ((t.map Rs.k).takeWhile (· == 2)).length).map Bs.v)) (own (.slice Ao ((t.take ((t.map Rs.k).takeWhile (· == 2)).length).map Rs.b).length co) 23 1 ((t.take ((t.map Rs.k).takeWhile (· == 2)).length).map Rs.b).length (((t.take ((t.map Rs.k).takeWhile (· == 2)).length).map Rs.b).map Bs.v)) xK (by rw [hel, hek]) ?_
                        refine WX.chEq (c := blk b2 _ 72) (blk b2 (Ar.cells ⟨true, p.g, ((vl (h.b.s.take 8) : Nat) : Int), Ao, co, ((t.take ((t.map Rs.k).takeWhile (· == 2)).length).map Rs.b)⟩) 72) xK (by unfold Ar.cells; rw [hel]; rfl) ?_
                        refine WX.turn (c := rowsC true ((h :: t).map Rs.b)) (d := rowsC true ((t.take ((t.map Rs.k).takeWhile (· == 2)).length).map Rs.b)) xK (rowsC_sub fun r hr => by rw [List.map_cons]; exact List.mem_cons_of_mem _ (by rw [List.map_take] at hr; exact List.mem_of_mem_take hr)) ?_
                        exact Fin.ret2 xI (⟨true, p.g, _, Ao, co, ((t.take ((t.map Rs.k).takeWhile (· == 2)).length).map Rs.b)⟩) (by rw [hsome]; exact ⟨rfl, rfl, rfl, rfl⟩) Try.results35 rfl (.cellN rfl ag72 xM xL) (.tmp rfl) xT (by simp)
end Go.Proofs.Ytkjlbedebmffgaa.Sx

