import Derived.Test.YthephcghglldaaaS2
set_option linter.unusedVariables false
set_option linter.unusedSimpArgs false
namespace Go.Proofs.Ythephcghglldaaa.Sx
open Go.RowKit Go.Proofs.Ythephcghglldaaa.Ty
attribute [local irreducible] blk own rd rx frameC

theorem wvs_atA {ws : List UInt32} {j k : Nat} (h : j = k) (hk : k < ws.length) : (wvs ws).toArray[j]? = some (wv (ws.getD k 0)) := by
  subst h
  simp [wvs, hk]
set_option maxHeartbeats 400000 in
set_option maxRecDepth 10000 in
theorem f70_spec (s : S8) (ws : List UInt32) (hl : ws.length = 16) :
    Spec Try.prog 70 [.agg s.cells.toArray, .agg (wvs ws).toArray] [] [] (R := Unit) (fun _ => True) (fun _ => .agg (process s ws).cells.toArray) (fun _ => []) := by
  refine Spec.intro Try.func70 Try.ntmps70 rfl (by simp) (by simp) fun w0 => ?_
  refine WC.seq ?_
  refine WC.region ?_
  refine wl1 (op_box (by decide) rfl rfl) rfl fun b1 => ?_
  refine wl1 (op_box (by decide) rfl rfl) rfl fun b2 => ?_
  refine wl1 (op_alloc ti128 (by decide)) rfl fun b3 => ?_
  refine WL.nil ?_
  refine WX.regs (L' := [(2, _), (3, _), (4, _)]) (by repeat (first | exact RS.nil | refine RS.cons rfl ?_)) ?_
  refine WX.next ?_
  refine WC.seq ?_
  refine WC.region ?_
  refine wlv (op_loadAll ag128 (by decide) rfl (by repeat (first | exact List.Mem.head _ | apply List.Mem.tail)) (by first | rfl | (simp [Value.cells]; done) | (simp [Value.cells]; omega))) rfl ?_
  refine wl1 (op_alloc ti128 (by decide)) rfl fun b4 => ?_
  refine wl (op_storeAll sz128 rfl rfl (by repeat (first | exact Take.here | apply Take.there)) (by first | rfl | (simp [Value.cells]; done) | (simp [Value.cells]; omega)) (by first | rfl | exact wvs_one _ | exact bvs_one _) (by first | rfl | (simp [Value.cells]; done) | (simp [Value.cells]; omega))) rfl ?_
  change WL _ _ _ _ _ _ _
  refine WL.nil ?_
  refine WX.regs (L' := [(2, _), (3, _), (4, _), (5, _)]) (by repeat (first | exact RS.nil | refine RS.cons rfl ?_)) ?_
  refine WX.next ?_
  refine WC.seq ?_
  refine WC.seq ?_
  refine WC.region ?_
  refine wlx (op_call (f72_spec) ca72 (by decide) rfl (by apply Give.mk; (repeat (first | exact Takes.nil | exact Take.here | apply Takes.cons | apply Take.there)); repeat (first | exact Reads.nil | (apply Reads.rd; (focus (repeat (first | exact List.Mem.head _ | apply List.Mem.tail)); done)) | (apply Reads.own; (focus (repeat (first | exact List.Mem.head _ | apply List.Mem.tail)); done)) | (apply Reads.rx; (focus (repeat (first | exact List.Mem.head _ | apply List.Mem.tail)); done)) | (apply Reads.rows (e := false); (focus (repeat (first | exact List.Mem.head _ | apply List.Mem.tail)); done)) | (apply Reads.rows (e := true); (focus (repeat (first | exact List.Mem.head _ | apply List.Mem.tail)); done))))) rfl ?_
  rintro r1 h1
  refine wlv (op_move (by decide) rfl) rfl ?_
  refine WL.nil ?_
  refine WX.regs (L' := [(2, _), (3, _), (4, _), (5, _), (12, _), (13, _)]) (by repeat (first | exact RS.nil | refine RS.cons rfl ?_)) ?_
  refine WX.next ?_
  refine WC.block ?_
  refine WC.loop (X := Nat) (fun t => 64 - t) (fun t => t ≤ 64) (fun t => [(2, .pointer (some ⟨b1, 0, none⟩)), (3, .pointer (some ⟨b2, 0, none⟩)), (4, .pointer (some ⟨b3, 0, none⟩)), (5, .pointer (some ⟨b4, 0, none⟩)), (12, .agg (wvs Kw).toArray), (13, .int .i64 (t : Int))]) (fun t => [blk b2 (wvs (pst s ws t).1) 135, blk b4 (pst s ws t).2.cells 128, blk b1 s.cells 128, blk b3 (List.replicate 8 (.int .u32 0)) 128, frameC w0 (MutF [])]) (0) (by omega) (fun a w hs => hs.sub (by repeat (first | exact RS.nil | refine RS.cons (by first | rfl | exact congrArg (fun z : Int => some (Value.int .i64 z)) (by omega)) ?_)) (by repeat (first | exact Takes.nil | exact Take.here | apply Takes.cons | apply Take.there))) ?_
  rintro t ht
  try dsimp only
  have hW : (pst s ws t).1.length = 16 := by rw [pst_length]; exact hl
  have hK := Kw_length
  have e16 : ((t : Int) % 16).toNat = t % 16 := by omega
  refine WC.seq ?_
  refine WC.region ?_
  refine wlv (op_lss (by decide) rfl rfl) rfl ?_
  refine WL.nil ?_
  refine WX.regs (L' := [(2, _), (3, _), (4, _), (5, _), (12, _), (13, _), (14, _)]) (by repeat (first | exact RS.nil | refine RS.cons rfl ?_)) ?_
  refine WX.next ?_
  refine WC.seq ?_
  refine WC.cond rfl (fun h1 => ?_) (fun h1 => ?_)
  ·
    refine WC.skip ?_
    refine WX.next ?_
    refine WC.seq ?_
    refine WC.block ?_
    refine WC.seq ?_
    refine WC.region ?_
    refine wlv (op_move (by decide) rfl) rfl ?_
    refine wlv (op_indexV Try.underlying116 sz114 fl114 (by decide) rfl rfl (by omega) (by omega) (wvs_atA (k := t) (by omega) (by omega))) rfl ?_
    refine wlv (op_assign (by decide) rfl) rfl ?_
    refine wlv (op_assign (by decide) rfl) rfl ?_
    refine WL.nil ?_
    refine WX.regs (L' := [(2, _), (3, _), (4, _), (5, _), (6, _), (7, _), (12, _), (13, _)]) (by repeat (first | exact RS.nil | refine RS.cons rfl ?_)) ?_
    refine WX.next ?_
    refine WC.seq ?_
    refine WC.region ?_
    refine wlv (op_move (by decide) rfl) rfl ?_
    refine wlv (op_rem (by decide) rfl rfl (by omega) (by omega)) rfl ?_
    refine wlv (op_assign (by decide) rfl) rfl ?_
    refine WL.nil ?_
    refine WX.regs (L' := [(2, _), (3, _), (4, _), (5, _), (6, _), (7, _), (8, _), (12, _), (13, _)]) (by repeat (first | exact RS.nil | refine RS.cons rfl ?_)) ?_
    refine WX.next ?_
    refine WC.cut (X := List UInt32) (fun q => q = pw (pst s ws t).1 t) (fun q => [(2, .pointer (some ⟨b1, 0, none⟩)), (3, .pointer (some ⟨b2, 0, none⟩)), (4, .pointer (some ⟨b3, 0, none⟩)), (5, .pointer (some ⟨b4, 0, none⟩)), (12, .agg (wvs Kw).toArray), (13, .int .i64 (t : Int)), (7, wv (Kw.getD t 0)), (8, .int .i64 ((t : Int) % 16))]) (fun q => [blk b2 (wvs q) 135, blk b4 (pst s ws t).2.cells 128, blk b1 s.cells 128, blk b3 (List.replicate 8 (.int .u32 0)) 128, frameC w0 (MutF [])]) ?_ ?_
    ·
      refine WC.seq ?_
      refine WC.region ?_
      refine wlv (op_move (by decide) rfl) rfl ?_
      refine wlv (op_geq (by decide) rfl rfl) rfl ?_
      refine WL.nil ?_
      refine WX.regs (L' := [(2, _), (3, _), (4, _), (5, _), (6, _), (7, _), (8, _), (12, _), (13, _), (20, _)]) (by repeat (first | exact RS.nil | refine RS.cons rfl ?_)) ?_
      refine WX.next ?_
      refine WC.cond rfl (fun h2 => ?_) (fun h2 => ?_)
      ·
        refine WC.seq ?_
        refine WC.drawnH mo 999 ?_
        refine WA.take (i := 0) rfl (by kernel_rfl) (fun _ _ _ h => h) rfl (op_move (by decide) rfl) (by repeat (first | exact Takes.nil | exact Take.here | apply Takes.cons | apply Take.there)) ?_
        refine WA.take (i := 1) rfl (by kernel_rfl) (fun _ _ _ h => h) rfl (op_sub (by decide) rfl rfl (by omega)) (by repeat (first | exact Takes.nil | exact Take.here | apply Takes.cons | apply Take.there)) ?_
        refine WA.take (i := 2) rfl (by kernel_rfl) (fun _ _ _ h => h) rfl (op_rem (by decide) rfl rfl (by omega) (by omega)) (by repeat (first | exact Takes.nil | exact Take.here | apply Takes.cons | apply Take.there)) ?_
        refine WA.take (i := 3) rfl (by kernel_rfl) (fun _ _ _ h => h) rfl (op_indexArr Try.underlying135 sz114 (by decide) rfl rfl (by omega) (by omega)) (by repeat (first | exact Takes.nil | exact Take.here | apply Takes.cons | apply Take.there)) ?_
        refine WA.take (i := 4) rfl (by kernel_rfl) (fun _ _ _ h => h) rfl (op_load1 fl114 (by decide) rfl (by repeat (first | exact List.Mem.head _ | apply List.Mem.tail)) (wvs_at (k := (t - 15) % 16) (by omega) (by omega))) (by repeat (first | exact Takes.nil | exact Take.here | apply Takes.cons | apply Take.there)) ?_
        refine WA.take (i := 5) rfl (by kernel_rfl) (fun _ _ _ h => h) rfl (op_move (by decide) rfl) (by repeat (first | exact Takes.nil | exact Take.here | apply Takes.cons | apply Take.there)) ?_
        refine WA.take (i := 6) rfl (by kernel_rfl) (fun _ _ _ h => h) rfl (op_sub (by decide) rfl rfl (by omega)) (by repeat (first | exact Takes.nil | exact Take.here | apply Takes.cons | apply Take.there)) ?_
        refine WA.take (i := 7) rfl (by kernel_rfl) (fun _ _ _ h => h) rfl (op_rem (by decide) rfl rfl (by omega) (by omega)) (by repeat (first | exact Takes.nil | exact Take.here | apply Takes.cons | apply Take.there)) ?_
        refine WA.take (i := 8) rfl (by kernel_rfl) (fun _ _ _ h => h) rfl (op_indexArr Try.underlying135 sz114 (by decide) rfl rfl (by omega) (by omega)) (by repeat (first | exact Takes.nil | exact Take.here | apply Takes.cons | apply Take.there)) ?_
        refine WA.take (i := 9) rfl (by kernel_rfl) (fun _ _ _ h => h) rfl (op_load1 fl114 (by decide) rfl (by repeat (first | exact List.Mem.head _ | apply List.Mem.tail)) (wvs_at (k := (t - 2) % 16) (by omega) (by omega))) (by repeat (first | exact Takes.nil | exact Take.here | apply Takes.cons | apply Take.there)) ?_
        refine WA.take (i := 10) rfl (by kernel_rfl) (fun _ _ _ h => h) rfl (op_assign (by decide) rfl) (by repeat (first | exact Takes.nil | exact Take.here | apply Takes.cons | apply Take.there)) ?_
        refine WA.take (i := 11) rfl (by kernel_rfl) (fun _ _ _ h => h) rfl (op_assign (by decide) rfl) (by repeat (first | exact Takes.nil | exact Take.here | apply Takes.cons | apply Take.there)) ?_
        refine WA.done (by kernel_rfl) ?_
        refine WX.regs (L' := [(2, _), (3, _), (4, _), (5, _), (6, _), (7, _), (8, _), (9, _), (10, _), (12, _), (13, _)]) (by repeat (first | exact RS.nil | refine RS.cons rfl ?_)) ?_
        refine WX.next ?_
        refine WC.drawnH mo 28 ?_
        refine WA.take (i := 0) rfl (by kernel_rfl) (fun _ _ _ h => h) rfl (op_move (by decide) rfl) (by repeat (first | exact Takes.nil | exact Take.here | apply Takes.cons | apply Take.there)) ?_
        refine WA.take (i := 1) rfl (by kernel_rfl) (fun _ _ _ h => h) rfl (op_indexArr Try.underlying135 sz114 (by decide) rfl rfl (by omega) (by omega)) (by repeat (first | exact Takes.nil | exact Take.here | apply Takes.cons | apply Take.there)) ?_
        refine WA.take (i := 2) rfl (by kernel_rfl) (fun _ _ _ h => h) rfl (op_load1 fl114 (by decide) rfl (by repeat (first | exact List.Mem.head _ | apply List.Mem.tail)) (wvs_at (k := t % 16) (by omega) (by omega))) (by repeat (first | exact Takes.nil | exact Take.here | apply Takes.cons | apply Take.there)) ?_
        refine WA.take (i := 3) rfl (by kernel_rfl) (fun _ _ _ h => h) rfl (op_move (by decide) rfl) (by repeat (first | exact Takes.nil | exact Take.here | apply Takes.cons | apply Take.there)) ?_
        refine WA.take (i := 5) rfl (by kernel_rfl) (fun _ _ _ h => h) rfl (op_move (by decide) rfl) (by repeat (first | exact Takes.nil | exact Take.here | apply Takes.cons | apply Take.there)) ?_
        refine WA.take (i := 8) rfl (by kernel_rfl) (fun _ _ _ h => h) rfl (op_move (by decide) rfl) (by repeat (first | exact Takes.nil | exact Take.here | apply Takes.cons | apply Take.there)) ?_
        refine WA.take (i := 9) rfl (by kernel_rfl) (fun _ _ _ h => h) rfl (op_shr32 (by decide) rfl rfl (by decide)) (by repeat (first | exact Takes.nil | exact Take.here | apply Takes.cons | apply Take.there)) ?_
        refine WA.take (i := 11) rfl (by kernel_rfl) (fun _ _ _ h => h) rfl (op_move (by decide) rfl) (by repeat (first | exact Takes.nil | exact Take.here | apply Takes.cons | apply Take.there)) ?_
        refine WA.take (i := 12) rfl (by kernel_rfl) (fun _ _ _ h => h) rfl (op_sub (by decide) rfl rfl (by omega)) (by repeat (first | exact Takes.nil | exact Take.here | apply Takes.cons | apply Take.there)) ?_
        refine WA.take (i := 13) rfl (by kernel_rfl) (fun _ _ _ h => h) rfl (op_rem (by decide) rfl rfl (by omega) (by omega)) (by repeat (first | exact Takes.nil | exact Take.here | apply Takes.cons | apply Take.there)) ?_
        refine WA.take (i := 14) rfl (by kernel_rfl) (fun _ _ _ h => h) rfl (op_indexArr Try.underlying135 sz114 (by decide) rfl rfl (by omega) (by omega)) (by repeat (first | exact Takes.nil | exact Take.here | apply Takes.cons | apply Take.there)) ?_
        refine WA.take (i := 15) rfl (by kernel_rfl) (fun _ _ _ h => h) rfl (op_load1 fl114 (by decide) rfl (by repeat (first | exact List.Mem.head _ | apply List.Mem.tail)) (wvs_at (k := (t - 7) % 16) (by omega) (by omega))) (by repeat (first | exact Takes.nil | exact Take.here | apply Takes.cons | apply Take.there)) ?_
        refine WA.take (i := 17) rfl (by kernel_rfl) (fun _ _ _ h => h) rfl (op_move (by decide) rfl) (by repeat (first | exact Takes.nil | exact Take.here | apply Takes.cons | apply Take.there)) ?_
        refine WA.take (i := 19) rfl (by kernel_rfl) (fun _ _ _ h => h) rfl (op_move (by decide) rfl) (by repeat (first | exact Takes.nil | exact Take.here | apply Takes.cons | apply Take.there)) ?_
        refine WA.take (i := 22) rfl (by kernel_rfl) (fun _ _ _ h => h) rfl (op_move (by decide) rfl) (by repeat (first | exact Takes.nil | exact Take.here | apply Takes.cons | apply Take.there)) ?_
        refine WA.take (i := 23) rfl (by kernel_rfl) (fun _ _ _ h => h) rfl (op_shr32 (by decide) rfl rfl (by decide)) (by repeat (first | exact Takes.nil | exact Take.here | apply Takes.cons | apply Take.there)) ?_
        refine WA.stepx (i := 4) (by kernel_rfl) rfl rfl (op_call (f73_spec _ _ (by decide)) ca73 (by decide) rfl (by apply Give.mk; (repeat (first | exact Takes.nil | exact Take.here | apply Takes.cons | apply Take.there)); repeat (first | exact Reads.nil | (apply Reads.rd; (focus (repeat (first | exact List.Mem.head _ | apply List.Mem.tail)); done)) | (apply Reads.own; (focus (repeat (first | exact List.Mem.head _ | apply List.Mem.tail)); done)) | (apply Reads.rx; (focus (repeat (first | exact List.Mem.head _ | apply List.Mem.tail)); done)) | (apply Reads.rows (e := false); (focus (repeat (first | exact List.Mem.head _ | apply List.Mem.tail)); done)) | (apply Reads.rows (e := true); (focus (repeat (first | exact List.Mem.head _ | apply List.Mem.tail)); done))))) (fun _ r => (by repeat (first | exact Takes.nil | exact Take.here | apply Takes.cons | apply Take.there))) ?_
        rintro r2 h2
        refine WA.stepx (i := 6) (by kernel_rfl) rfl rfl (op_call (f73_spec _ _ (by decide)) ca73 (by decide) rfl (by apply Give.mk; (repeat (first | exact Takes.nil | exact Take.here | apply Takes.cons | apply Take.there)); repeat (first | exact Reads.nil | (apply Reads.rd; (focus (repeat (first | exact List.Mem.head _ | apply List.Mem.tail)); done)) | (apply Reads.own; (focus (repeat (first | exact List.Mem.head _ | apply List.Mem.tail)); done)) | (apply Reads.rx; (focus (repeat (first | exact List.Mem.head _ | apply List.Mem.tail)); done)) | (apply Reads.rows (e := false); (focus (repeat (first | exact List.Mem.head _ | apply List.Mem.tail)); done)) | (apply Reads.rows (e := true); (focus (repeat (first | exact List.Mem.head _ | apply List.Mem.tail)); done))))) (fun _ r => (by repeat (first | exact Takes.nil | exact Take.here | apply Takes.cons | apply Take.there))) ?_
        rintro r3 h3
        refine WA.take (i := 7) rfl (by kernel_rfl) (fun _ _ _ h => h) rfl (op_xor32 (by decide) rfl rfl) (by repeat (first | exact Takes.nil | exact Take.here | apply Takes.cons | apply Take.there)) ?_
        refine WA.take (i := 10) rfl (by kernel_rfl) (fun _ _ _ h => h) rfl (op_xor32 (by decide) rfl rfl) (by repeat (first | exact Takes.nil | exact Take.here | apply Takes.cons | apply Take.there)) ?_
        refine WA.take (i := 16) rfl (by kernel_rfl) (fun _ _ _ h => h) rfl (op_add32 (by decide) rfl rfl) (by repeat (first | exact Takes.nil | exact Take.here | apply Takes.cons | apply Take.there)) ?_
        refine WA.stepx (i := 18) (by kernel_rfl) rfl rfl (op_call (f73_spec _ _ (by decide)) ca73 (by decide) rfl (by apply Give.mk; (repeat (first | exact Takes.nil | exact Take.here | apply Takes.cons | apply Take.there)); repeat (first | exact Reads.nil | (apply Reads.rd; (focus (repeat (first | exact List.Mem.head _ | apply List.Mem.tail)); done)) | (apply Reads.own; (focus (repeat (first | exact List.Mem.head _ | apply List.Mem.tail)); done)) | (apply Reads.rx; (focus (repeat (first | exact List.Mem.head _ | apply List.Mem.tail)); done)) | (apply Reads.rows (e := false); (focus (repeat (first | exact List.Mem.head _ | apply List.Mem.tail)); done)) | (apply Reads.rows (e := true); (focus (repeat (first | exact List.Mem.head _ | apply List.Mem.tail)); done))))) (fun _ r => (by repeat (first | exact Takes.nil | exact Take.here | apply Takes.cons | apply Take.there))) ?_
        rintro r4 h4
        refine WA.stepx (i := 20) (by kernel_rfl) rfl rfl (op_call (f73_spec _ _ (by decide)) ca73 (by decide) rfl (by apply Give.mk; (repeat (first | exact Takes.nil | exact Take.here | apply Takes.cons | apply Take.there)); repeat (first | exact Reads.nil | (apply Reads.rd; (focus (repeat (first | exact List.Mem.head _ | apply List.Mem.tail)); done)) | (apply Reads.own; (focus (repeat (first | exact List.Mem.head _ | apply List.Mem.tail)); done)) | (apply Reads.rx; (focus (repeat (first | exact List.Mem.head _ | apply List.Mem.tail)); done)) | (apply Reads.rows (e := false); (focus (repeat (first | exact List.Mem.head _ | apply List.Mem.tail)); done)) | (apply Reads.rows (e := true); (focus (repeat (first | exact List.Mem.head _ | apply List.Mem.tail)); done))))) (fun _ r => (by repeat (first | exact Takes.nil | exact Take.here | apply Takes.cons | apply Take.there))) ?_
        rintro r5 h5
        refine WA.take (i := 21) rfl (by kernel_rfl) (fun _ _ _ h => h) rfl (op_xor32 (by decide) rfl rfl) (by repeat (first | exact Takes.nil | exact Take.here | apply Takes.cons | apply Take.there)) ?_
        refine WA.take (i := 24) rfl (by kernel_rfl) (fun _ _ _ h => h) rfl (op_xor32 (by decide) rfl rfl) (by repeat (first | exact Takes.nil | exact Take.here | apply Takes.cons | apply Take.there)) ?_
        refine WA.take (i := 25) rfl (by kernel_rfl) (fun _ _ _ h => h) rfl (op_add32 (by decide) rfl rfl) (by repeat (first | exact Takes.nil | exact Take.here | apply Takes.cons | apply Take.there)) ?_
        refine WA.take (i := 26) rfl (by kernel_rfl) (fun _ _ _ h => h) rfl (op_add32 (by decide) rfl rfl) (by repeat (first | exact Takes.nil | exact Take.here | apply Takes.cons | apply Take.there)) ?_
        refine WA.take (i := 27) rfl (by kernel_rfl) (fun _ _ _ h => h) rfl (op_indexArr Try.underlying135 sz114 (by decide) rfl rfl (by omega) (by omega)) (by repeat (first | exact Takes.nil | exact Take.here | apply Takes.cons | apply Take.there)) ?_
        refine WA.stepo (G := []) (i := 28) (by kernel_rfl) rfl rfl (op_store sz114 rfl rfl (by repeat (first | exact Take.here | apply Take.there)) (by first | rfl | (simp [Value.cells]; done) | (simp [Value.cells]; omega)) (by first | rfl | exact wvs_one _ | exact bvs_one _) (by simp; omega)) (fun h => absurd rfl h) ?_
        refine WA.done (by kernel_rfl) ?_
        refine WX.blkEq (b := b2) (wvs (pw (pst s ws t).1 t)) (by repeat (first | exact Take.here | apply Take.there)) ((wvs_put (k := t % 16) (by omega) (by omega)).trans (by unfold pw; rw [if_pos (by omega)]; rfl)) ?_
        refine WX.regs (L' := [(2, _), (3, _), (4, _), (5, _), (7, _), (8, _), (12, _), (13, _)]) (by repeat (first | exact RS.nil | refine RS.cons rfl ?_)) ?_
        refine WX.meet (pw (pst s ws t).1 t) (rfl) (fun a w hs => hs.sub (by repeat (first | exact RS.nil | refine RS.cons (by first | rfl | exact congrArg (fun z : Int => some (Value.int .i64 z)) (by omega)) ?_)) (by repeat (first | exact Takes.nil | exact Take.here | apply Takes.cons | apply Take.there)))
      ·
        refine WC.skip ?_
        refine WX.meet ((pst s ws t).1) (by unfold pw; rw [if_neg (by omega)]) (fun a w hs => hs.sub (by repeat (first | exact RS.nil | refine RS.cons (by first | rfl | exact congrArg (fun z : Int => some (Value.int .i64 z)) (by omega)) ?_)) (by repeat (first | exact Takes.nil | exact Take.here | apply Takes.cons | apply Take.there)))
    · intro q hq
      try dsimp only
      have hq2 : q.length = 16 := by rw [hq, pw_length]; exact hW
      refine WC.drawnH mo 6 ?_
      refine WA.take (i := 0) rfl (by kernel_rfl) (fun _ _ _ h => h) rfl (op_loadAll ag128 (by decide) rfl (by repeat (first | exact List.Mem.head _ | apply List.Mem.tail)) (by first | rfl | (simp [Value.cells]; done) | (simp [Value.cells]; omega))) (by repeat (first | exact Takes.nil | exact Take.here | apply Takes.cons | apply Take.there)) ?_
      refine WA.take (i := 1) rfl (by kernel_rfl) (fun _ _ _ h => h) rfl (op_move (by decide) rfl) (by repeat (first | exact Takes.nil | exact Take.here | apply Takes.cons | apply Take.there)) ?_
      refine WA.take (i := 2) rfl (by kernel_rfl) (fun _ _ _ h => h) rfl (op_move (by decide) rfl) (by repeat (first | exact Takes.nil | exact Take.here | apply Takes.cons | apply Take.there)) ?_
      refine WA.take (i := 3) rfl (by kernel_rfl) (fun _ _ _ h => h) rfl (op_indexArr Try.underlying135 sz114 (by decide) rfl rfl (by omega) (by omega)) (by repeat (first | exact Takes.nil | exact Take.here | apply Takes.cons | apply Take.there)) ?_
      refine WA.take (i := 4) rfl (by kernel_rfl) (fun _ _ _ h => h) rfl (op_load1 fl114 (by decide) rfl (by repeat (first | exact List.Mem.head _ | apply List.Mem.tail)) (wvs_at (k := t % 16) (by omega) (by omega))) (by repeat (first | exact Takes.nil | exact Take.here | apply Takes.cons | apply Take.there)) ?_
      refine WA.stepx (i := 5) (by kernel_rfl) rfl rfl (op_call (f74_spec _ _ _) ca74 (by decide) rfl (by apply Give.mk; (repeat (first | exact Takes.nil | exact Take.here | apply Takes.cons | apply Take.there)); repeat (first | exact Reads.nil | (apply Reads.rd; (focus (repeat (first | exact List.Mem.head _ | apply List.Mem.tail)); done)) | (apply Reads.own; (focus (repeat (first | exact List.Mem.head _ | apply List.Mem.tail)); done)) | (apply Reads.rx; (focus (repeat (first | exact List.Mem.head _ | apply List.Mem.tail)); done)) | (apply Reads.rows (e := false); (focus (repeat (first | exact List.Mem.head _ | apply List.Mem.tail)); done)) | (apply Reads.rows (e := true); (focus (repeat (first | exact List.Mem.head _ | apply List.Mem.tail)); done))))) (fun _ r => (by repeat (first | exact Takes.nil | exact Take.here | apply Takes.cons | apply Take.there))) ?_
      rintro r6 h6
      refine WA.stepo (G := []) (i := 6) (by kernel_rfl) rfl rfl (op_storeAll sz128 rfl rfl (by repeat (first | exact Take.here | apply Take.there)) (by first | rfl | (simp [Value.cells]; done) | (simp [Value.cells]; omega)) (by first | rfl | exact wvs_one _ | exact bvs_one _) (by first | rfl | (simp [Value.cells]; done) | (simp [Value.cells]; omega))) (fun h => absurd rfl h) ?_
      refine WA.done (by kernel_rfl) ?_
      refine WX.regs (L' := [(2, _), (3, _), (4, _), (5, _), (12, _), (13, _)]) (by repeat (first | exact RS.nil | refine RS.cons rfl ?_)) ?_
      refine WX.in_normal ?_
      refine WX.next ?_
      refine WC.region ?_
      refine wlv (op_add (by decide) rfl rfl (by omega)) rfl ?_
      refine wlv (op_move (by decide) rfl) rfl ?_
      refine WL.nil ?_
      subst hq
      refine WX.regs (L' := [(2, _), (3, _), (4, _), (5, _), (12, _), (13, _)]) (by repeat (first | exact RS.nil | refine RS.cons rfl ?_)) ?_
      refine WX.meet (t + 1) ⟨by omega, by omega⟩ (fun a w hs => hs.sub (by repeat (first | exact RS.nil | refine RS.cons (by first | rfl | exact congrArg (fun z : Int => some (Value.int .i64 z)) (by omega)) ?_)) (by repeat (first | exact Takes.nil | exact Take.here | apply Takes.cons | apply Take.there)))
  ·
    refine WC.exit ?_
    refine WX.then_exit ?_
    refine WX.then_exit ?_
    refine WX.in_hit ?_
    refine WX.next ?_
    refine WC.seq ?_
    refine WC.region ?_
    obtain rfl : t = 64 := by omega
    refine wlv (op_loadAll ag128 (by decide) rfl (by repeat (first | exact List.Mem.head _ | apply List.Mem.tail)) (by first | rfl | (simp [Value.cells]; done) | (simp [Value.cells]; omega))) rfl ?_
    refine wlv (op_loadAll ag128 (by decide) rfl (by repeat (first | exact List.Mem.head _ | apply List.Mem.tail)) (by first | rfl | (simp [Value.cells]; done) | (simp [Value.cells]; omega))) rfl ?_
    refine wlx (op_call (f75_spec _ _) ca75 (by decide) rfl (by apply Give.mk; (repeat (first | exact Takes.nil | exact Take.here | apply Takes.cons | apply Take.there)); repeat (first | exact Reads.nil | (apply Reads.rd; (focus (repeat (first | exact List.Mem.head _ | apply List.Mem.tail)); done)) | (apply Reads.own; (focus (repeat (first | exact List.Mem.head _ | apply List.Mem.tail)); done)) | (apply Reads.rx; (focus (repeat (first | exact List.Mem.head _ | apply List.Mem.tail)); done)) | (apply Reads.rows (e := false); (focus (repeat (first | exact List.Mem.head _ | apply List.Mem.tail)); done)) | (apply Reads.rows (e := true); (focus (repeat (first | exact List.Mem.head _ | apply List.Mem.tail)); done))))) rfl ?_
    rintro r7 h7
    refine wl (op_storeAll sz128 rfl rfl (by repeat (first | exact Take.here | apply Take.there)) (by first | rfl | (simp [Value.cells]; done) | (simp [Value.cells]; omega)) (by first | rfl | exact wvs_one _ | exact bvs_one _) (by first | rfl | (simp [Value.cells]; done) | (simp [Value.cells]; omega))) rfl ?_
    change WL _ _ _ _ _ _ _
    refine WL.nil ?_
    refine WX.regs (L' := [(4, _)]) (by repeat (first | exact RS.nil | refine RS.cons rfl ?_)) ?_
    refine WX.next ?_
    refine WC.ret ?_
    exact Fin.ret1 (by first | exact .inl rfl | exact .inr rfl) (()) (trivial) Try.results70 (.cellN rfl ag128 (by repeat (first | exact List.Mem.head _ | apply List.Mem.tail)) (by first | rfl | (simp [Value.cells]; done) | (simp [Value.cells]; omega))) (by repeat (first | exact Takes.nil | exact Take.here | apply Takes.cons | apply Take.there)) (by simp)
end Go.Proofs.Ythephcghglldaaa.Sx
