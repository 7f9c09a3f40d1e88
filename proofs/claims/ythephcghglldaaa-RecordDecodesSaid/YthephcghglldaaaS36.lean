import Derived.Test.YthephcghglldaaaS20
import Derived.Test.YthephcghglldaaaSj
set_option linter.unusedVariables false
set_option linter.unusedSimpArgs false
namespace Go.Proofs.Ythephcghglldaaa.Sx
open Go.RowKit Go.Proofs.Ythephcghglldaaa.Ty
attribute [local irreducible] blk own rd rx frameC

theorem sliced0' (A : Option Addr) (h c sz : Nat) : sliced A 0 h c sz = .slice A h c := by
  unfold sliced
  split
  · simp_all
  · cases A with
    | none => simp
    | some a => simp [Addr.add]
theorem own_takeB {A : Option Addr} {e : TypeId} {c M h : Nat} {bs : List UInt8} (hh : h ≤ M) : (rx (.slice A h c) 1 h (bvs (bs.take h))).Le (own (.slice A M c) e 1 M (bvs bs)) := by
  have k := (rx_sub (A := A) (c := c) (m := M) (sz := 1) (l := 0) (h := h) (xs := bvs bs) (Nat.zero_le _) hh).trans (own_le_rx (e := e))
  have e2 : ((bvs bs).drop (0 * 1)).take ((h - 0) * 1) = bvs (bs.take h) := by
    simp [bvs]
  rw [e2, sliced0'] at k
  exact k
theorem bvs_zeros (k : Nat) : (List.replicate k (Value.int .u8 0)) = bvs (List.replicate k 0) := by simp [bvs, bv]
set_option maxHeartbeats 400000 in
set_option maxRecDepth 10000 in
theorem f4_spec (x : Sc) (hy : x.y.s.length ≤ 140737488355328) (cut : Int) (hc : -9223372036854775808 ≤ cut ∧ cut < 9223372036854775808) :
    Spec Try.prog 4 [.agg x.cells.toArray, .int .i64 cut] [] [rowsC false x.rows] (R := Bool) (fun b => b = true) (fun b => .bool b) (fun _ => []) := by
  refine Spec.intro Try.func4 Try.ntmps4 rfl (by simp) (by simp) fun w0 => ?_
  refine WC.seq ?_
  refine WC.region ?_
  refine wl1 (op_box (by decide) rfl rfl) rfl fun b1 => ?_
  refine wlv (op_assign (by decide) rfl) rfl ?_
  refine WL.nil ?_
  refine WX.regs (L' := [(1, _), (2, _)]) (by repeat (first | exact RS.nil | refine RS.cons rfl ?_)) ?_
  refine WX.next ?_
  refine WC.seq ?_
  refine WC.region ?_
  refine wlv (op_loadAll ag40 (by decide) rfl (by repeat (first | exact List.Mem.head _ | apply List.Mem.tail)) (by first | rfl | (simp [Value.cells]; done) | (simp [Value.cells]; omega))) rfl ?_
  refine wlx (op_call (f24_spec x hy) ca24 (by decide) rfl (by apply Give.mk; (repeat (first | exact Takes.nil | exact Take.here | apply Takes.cons | apply Take.there)); repeat (first | exact Reads.nil | (apply Reads.rd; (focus (repeat (first | exact List.Mem.head _ | apply List.Mem.tail)); done)) | (apply Reads.own; (focus (repeat (first | exact List.Mem.head _ | apply List.Mem.tail)); done)) | (apply Reads.rx; (focus (repeat (first | exact List.Mem.head _ | apply List.Mem.tail)); done)) | (apply Reads.rows (e := false); (focus (repeat (first | exact List.Mem.head _ | apply List.Mem.tail)); done)) | (apply Reads.rows (e := true); (focus (repeat (first | exact List.Mem.head _ | apply List.Mem.tail)); done))))) rfl ?_
  rintro ⟨As, cs, ls⟩ hls
  dsimp only at hls
  dsimp only
  refine wlv (op_assign (by decide) rfl) rfl ?_
  refine WL.nil ?_
  refine WX.regs (L' := [(1, _), (5, _)]) (by repeat (first | exact RS.nil | refine RS.cons rfl ?_)) ?_
  refine WX.next ?_
  refine WC.seq ?_
  refine WC.seq ?_
  refine WC.region ?_
  refine wlv (op_move (by decide) rfl) rfl ?_
  refine wlv (op_gtr (by decide) rfl rfl) rfl ?_
  refine wlv (op_move (by decide) rfl) rfl ?_
  refine WL.split (t := 14) rfl (fun g14 => ?_) (fun g14 => ?_)
  ·
    refine wlgv (op_move (by decide) rfl) rfl rfl rfl ?_
    refine wlgv (op_lss (by decide) rfl rfl) rfl rfl rfl ?_
    refine wlv (op_pickT (by decide) rfl rfl) rfl ?_
    refine WL.nil ?_
    refine WX.regs (L' := [(1, _), (5, _), (17, _)]) (by repeat (first | exact RS.nil | refine RS.cons rfl ?_)) ?_
    refine WX.next ?_
    refine WC.cond rfl (fun h1 => ?_) (fun h1 => ?_)
    ·
      refine WC.region ?_
      refine WL.capx (A := As) (m := 256) (c := cs) (Src.own (xs := bvs ls) (by repeat (first | exact List.Mem.head _ | apply List.Mem.tail))) (fun hcap => ?_)
      refine wlv (op_move (by decide) rfl) rfl ?_
      refine wlv (op_move (by decide) rfl) rfl ?_
      refine wlv (op_slice_h Try.underlying22 sz5 (by decide) rfl rfl (by omega) (by omega)) rfl ?_
      rw [sliced0']
      obtain ⟨lt, hlt⟩ : ∃ lt, lt = ls.take cut.toNat := ⟨_, rfl⟩
      have hltl : lt.length = cut.toNat := by rw [hlt, List.length_take]; omega
      rw [← hltl]
      refine wlv (op_assign (by decide) rfl) rfl ?_
      refine WL.nil ?_
      refine WX.regs (L' := [(1, _), (5, _)]) (by repeat (first | exact RS.nil | refine RS.cons rfl ?_)) ?_
      refine WX.next ?_
      refine WC.cut (X := Option Addr × Nat × List UInt8) (fun q => q.2.2.length ≤ 300) (fun q => [(5, .slice q.1 q.2.2.length q.2.1)]) (fun q => [rx (.slice q.1 q.2.2.length q.2.1) 1 q.2.2.length (bvs q.2.2), rowsC false x.rows, frameC w0 (MutF [])]) ?_ ?_
      ·
        refine WC.seq ?_
        refine WC.region ?_
        refine wlv (op_move (by decide) rfl) rfl ?_
        refine wlv (op_lss (by decide) rfl rfl) rfl ?_
        refine wlv (op_move (by decide) rfl) rfl ?_
        refine WL.split (t := 23) rfl (fun g23 => ?_) (fun g23 => ?_)
        ·
          omega
        ·
          refine wlg_no rfl rfl rfl rfl rfl (by decide) ?_
          refine wlg_no rfl rfl rfl rfl rfl (by decide) ?_
          refine wlv (op_pickF (by decide) rfl rfl) rfl ?_
          refine WL.nil ?_
          refine WX.regs (L' := [(1, _), (5, _), (26, _)]) (by repeat (first | exact RS.nil | refine RS.cons rfl ?_)) ?_
          refine WX.next ?_
          refine WC.condF rfl ?_
          refine WC.skip ?_
          refine WX.turn (c := own (.slice As 256 cs) 5 1 256 (bvs ls)) (d := rx (.slice As lt.length cs) 1 lt.length (bvs lt)) (by repeat (first | exact Take.here | apply Take.there)) (by have k := own_takeB (A := As) (e := 5) (c := cs) (M := 256) (h := cut.toNat) (bs := ls) (by omega); rw [← hlt, ← hltl] at k; exact k) ?_
          refine WX.meet ((As, cs, lt)) (by simp only []; omega) (fun a w hs => hs.sub (by repeat (first | exact RS.nil | refine RS.cons (by first | rfl | exact congrArg (fun z : Int => some (Value.int .i64 z)) (by omega)) ?_)) (by repeat (first | exact Takes.nil | exact Take.here | apply Takes.cons | apply Take.there)))
      · rintro ⟨Ab, cb, lb⟩ hlb
        try dsimp only at hlb ⊢
        refine WC.seq ?_
        refine WC.region ?_
        refine wlv (op_move (by decide) rfl) rfl ?_
        refine wlx (op_call (f21_spec Ab lb.length cb lb rfl) ca21 (by decide) rfl (by apply Give.mk; (repeat (first | exact Takes.nil | exact Take.here | apply Takes.cons | apply Take.there)); repeat (first | exact Reads.nil | (apply Reads.rd; (focus (repeat (first | exact List.Mem.head _ | apply List.Mem.tail)); done)) | (apply Reads.own; (focus (repeat (first | exact List.Mem.head _ | apply List.Mem.tail)); done)) | (apply Reads.rx; (focus (repeat (first | exact List.Mem.head _ | apply List.Mem.tail)); done)) | (apply Reads.rows (e := false); (focus (repeat (first | exact List.Mem.head _ | apply List.Mem.tail)); done)) | (apply Reads.rows (e := true); (focus (repeat (first | exact List.Mem.head _ | apply List.Mem.tail)); done))))) rfl ?_
        rintro ⟨Ap, cp, mp, pp, ep⟩ ⟨hdp, hmp⟩
        dsimp only at hdp hmp
        dsimp only
        refine wlv (op_move (by decide) rfl) rfl ?_
        refine wlv (op_extract (by decide) rfl rfl) rfl ?_
        refine wlv (op_extract (by decide) rfl rfl) rfl ?_
        refine wl1 (op_alloc ti25 (by decide)) rfl fun b2 => ?_
        refine wl (op_storeAll sz25 rfl rfl (by repeat (first | exact Take.here | apply Take.there)) (by first | rfl | (simp [Value.cells]; done) | (simp [Value.cells]; omega)) (by first | rfl | exact wvs_one _ | exact bvs_one _) (by first | rfl | (simp [Value.cells]; done) | (simp [Value.cells]; omega))) rfl ?_
        change WL _ _ _ _ _ _ _
        refine wlv (op_assign (by decide) rfl) rfl ?_
        refine WL.nil ?_
        refine WX.regs (L' := [(5, _), (6, _), (7, _)]) (by repeat (first | exact RS.nil | refine RS.cons rfl ?_)) ?_
        refine WX.next ?_
        refine WC.seq ?_
        refine WC.region ?_
        refine wlv (op_move (by decide) rfl) rfl ?_
        refine wlx (op_call (f25_spec Ab lb.length cb lb rfl) ca25 (by decide) rfl (by apply Give.mk; (repeat (first | exact Takes.nil | exact Take.here | apply Takes.cons | apply Take.there)); repeat (first | exact Reads.nil | (apply Reads.rd; (focus (repeat (first | exact List.Mem.head _ | apply List.Mem.tail)); done)) | (apply Reads.own; (focus (repeat (first | exact List.Mem.head _ | apply List.Mem.tail)); done)) | (apply Reads.rx; (focus (repeat (first | exact List.Mem.head _ | apply List.Mem.tail)); done)) | (apply Reads.rows (e := false); (focus (repeat (first | exact List.Mem.head _ | apply List.Mem.tail)); done)) | (apply Reads.rows (e := true); (focus (repeat (first | exact List.Mem.head _ | apply List.Mem.tail)); done))))) rfl ?_
        rintro ⟨Ar, cr, mr, po, eo⟩ ⟨hdo, hmo⟩
        dsimp only at hdo hmo
        have hje := hdp.trans hdo.symm
        simp only [Prod.mk.injEq] at hje
        obtain ⟨rfl, rfl⟩ := hje
        obtain rfl : mp = mr := hmp.trans hmo.symm
        dsimp only
        refine wlv (op_move (by decide) rfl) rfl ?_
        refine wlv (op_extract (by decide) rfl rfl) rfl ?_
        refine wlv (op_extract (by decide) rfl rfl) rfl ?_
        refine wl1 (op_alloc ti24 (by decide)) rfl fun b3 => ?_
        refine wl (op_storeAll sz24 rfl rfl (by repeat (first | exact Take.here | apply Take.there)) (by first | rfl | (simp [Value.cells]; done) | (simp [Value.cells]; omega)) (by first | rfl | exact wvs_one _ | exact bvs_one _) (by first | rfl | (simp [Value.cells]; done) | (simp [Value.cells]; omega))) rfl ?_
        change WL _ _ _ _ _ _ _
        refine wlv (op_assign (by decide) rfl) rfl ?_
        refine WL.nil ?_
        refine WX.regs (L' := [(6, _), (7, _), (8, _), (9, _)]) (by repeat (first | exact RS.nil | refine RS.cons rfl ?_)) ?_
        refine WX.next ?_
        refine WC.seq ?_
        refine WC.drawnH mo 999 ?_
        refine WA.stepx (i := 0) (by kernel_rfl) rfl rfl (op_call (f18_spec) ca18 (by decide) rfl (by apply Give.mk; (repeat (first | exact Takes.nil | exact Take.here | apply Takes.cons | apply Take.there)); repeat (first | exact Reads.nil | (apply Reads.rd; (focus (repeat (first | exact List.Mem.head _ | apply List.Mem.tail)); done)) | (apply Reads.own; (focus (repeat (first | exact List.Mem.head _ | apply List.Mem.tail)); done)) | (apply Reads.rx; (focus (repeat (first | exact List.Mem.head _ | apply List.Mem.tail)); done)) | (apply Reads.rows (e := false); (focus (repeat (first | exact List.Mem.head _ | apply List.Mem.tail)); done)) | (apply Reads.rows (e := true); (focus (repeat (first | exact List.Mem.head _ | apply List.Mem.tail)); done))))) (fun _ r => (by repeat (first | exact Takes.nil | exact Take.here | apply Takes.cons | apply Take.there))) ?_
        rintro _ _
        refine WA.take (i := 1) rfl (by kernel_rfl) (fun _ _ _ h => h) rfl (op_move (by decide) rfl) (by repeat (first | exact Takes.nil | exact Take.here | apply Takes.cons | apply Take.there)) ?_
        refine WA.takeG (i := 2) rfl (by kernel_rfl) (fun _ _ _ h => h) rfl rfl rfl (op_move (by decide) rfl) (by repeat (first | exact Takes.nil | exact Take.here | apply Takes.cons | apply Take.there)) ?_
        refine WA.takeG (i := 3) rfl (by kernel_rfl) (fun _ _ _ h => h) rfl rfl rfl (op_move (by decide) rfl) (by repeat (first | exact Takes.nil | exact Take.here | apply Takes.cons | apply Take.there)) ?_
        refine WA.takeG (i := 4) rfl (by kernel_rfl) (fun _ _ _ h => h) rfl rfl rfl (op_eql (by decide) rfl rfl) (by repeat (first | exact Takes.nil | exact Take.here | apply Takes.cons | apply Take.there)) ?_
        refine WA.take (i := 5) rfl (by kernel_rfl) (fun _ _ _ h => h) rfl (op_pickT (by decide) rfl rfl) (by repeat (first | exact Takes.nil | exact Take.here | apply Takes.cons | apply Take.there)) ?_
        refine WA.take (i := 6) rfl (by kernel_rfl) (fun _ _ _ h => h) rfl (op_move (by decide) rfl) (by repeat (first | exact Takes.nil | exact Take.here | apply Takes.cons | apply Take.there)) ?_
        refine WA.split (t := 47) rfl (fun g47 => ?_) (fun g47 => ?_)
        ·
          refine WA.takeG (i := 7) rfl (by kernel_rfl) (fun _ _ _ h => h) rfl rfl rfl (op_loadAll ag25 (by decide) rfl (by repeat (first | exact List.Mem.head _ | apply List.Mem.tail)) (by first | rfl | (simp [Value.cells]; done) | (simp [Value.cells]; omega))) (by repeat (first | exact Takes.nil | exact Take.here | apply Takes.cons | apply Take.there)) ?_
          refine WA.takeG (i := 9) rfl (by kernel_rfl) (fun _ _ _ h => h) rfl rfl rfl (op_loadAll ag24 (by decide) rfl (by repeat (first | exact List.Mem.head _ | apply List.Mem.tail)) (by first | rfl | (simp [Value.cells]; done) | (simp [Value.cells]; omega))) (by repeat (first | exact Takes.nil | exact Take.here | apply Takes.cons | apply Take.there)) ?_
          refine WA.stepGx (i := 8) (by kernel_rfl) rfl rfl rfl rfl (op_call (f16_spec pp.k pp.g pp.n pp.i pp.c Ap mp cp) ca16 (by decide) rfl (by apply Give.mk; (repeat (first | exact Takes.nil | exact Take.here | apply Takes.cons | apply Take.there)); repeat (first | exact Reads.nil | (apply Reads.rd; (focus (repeat (first | exact List.Mem.head _ | apply List.Mem.tail)); done)) | (apply Reads.own; (focus (repeat (first | exact List.Mem.head _ | apply List.Mem.tail)); done)) | (apply Reads.rx; (focus (repeat (first | exact List.Mem.head _ | apply List.Mem.tail)); done)) | (apply Reads.rows (e := false); (focus (repeat (first | exact List.Mem.head _ | apply List.Mem.tail)); done)) | (apply Reads.rows (e := true); (focus (repeat (first | exact List.Mem.head _ | apply List.Mem.tail)); done))))) (fun _ r => (by repeat (first | exact Takes.nil | exact Take.here | apply Takes.cons | apply Take.there))) ?_
          rintro _ _
          refine WA.stepGx (i := 10) (by kernel_rfl) rfl rfl rfl rfl (op_call (f23_spec pp.k pp.g pp.n pp.i pp.c pp.k pp.g pp.n pp.i pp.c Ap Ar mp cp mp cr pp.b pp.b) ca23 (by decide) rfl (by apply Give.mk; (repeat (first | exact Takes.nil | exact Take.here | apply Takes.cons | apply Take.there)); repeat (first | exact Reads.nil | (apply Reads.rd; (focus (repeat (first | exact List.Mem.head _ | apply List.Mem.tail)); done)) | (apply Reads.own; (focus (repeat (first | exact List.Mem.head _ | apply List.Mem.tail)); done)) | (apply Reads.rx; (focus (repeat (first | exact List.Mem.head _ | apply List.Mem.tail)); done)) | (apply Reads.rows (e := false); (focus (repeat (first | exact List.Mem.head _ | apply List.Mem.tail)); done)) | (apply Reads.rows (e := true); (focus (repeat (first | exact List.Mem.head _ | apply List.Mem.tail)); done))))) (fun _ r => (by repeat (first | exact Takes.nil | exact Take.here | apply Takes.cons | apply Take.there))) ?_
          rintro _ rfl
          refine WA.take (i := 11) rfl (by kernel_rfl) (fun _ _ _ h => h) rfl (op_pickT (by decide) rfl rfl) (by repeat (first | exact Takes.nil | exact Take.here | apply Takes.cons | apply Take.there)) ?_
          refine WA.take (i := 12) rfl (by kernel_rfl) (fun _ _ _ h => h) rfl (op_assign (by decide) rfl) (by repeat (first | exact Takes.nil | exact Take.here | apply Takes.cons | apply Take.there)) ?_
          refine WA.done (by kernel_rfl) ?_
          refine WX.regs (L' := [(4, _)]) (by repeat (first | exact RS.nil | refine RS.cons rfl ?_)) ?_
          refine WX.next ?_
          refine WC.ret ?_
          exact Fin.ret1 (by first | exact .inl rfl | exact .inr rfl) (_) (decide_eq_true ⟨rfl, rfl, rfl, rfl, rfl, rfl⟩) Try.results4 (.tmp rfl) (by repeat (first | exact Takes.nil | exact Take.here | apply Takes.cons | apply Take.there)) (by simp)
        ·
          exact absurd rfl g47
    ·
      refine WC.skip ?_
      refine WX.next ?_
      refine WC.cut (X := Option Addr × Nat × List UInt8) (fun q => q.2.2.length ≤ 300) (fun q => [(5, .slice q.1 q.2.2.length q.2.1)]) (fun q => [rx (.slice q.1 q.2.2.length q.2.1) 1 q.2.2.length (bvs q.2.2), rowsC false x.rows, frameC w0 (MutF [])]) ?_ ?_
      ·
        refine WC.seq ?_
        refine WC.region ?_
        refine wlv (op_move (by decide) rfl) rfl ?_
        refine wlv (op_lss (by decide) rfl rfl) rfl ?_
        refine wlv (op_move (by decide) rfl) rfl ?_
        refine WL.split (t := 23) rfl (fun g23 => ?_) (fun g23 => ?_)
        ·
          omega
        ·
          refine wlg_no rfl rfl rfl rfl rfl (by decide) ?_
          refine wlg_no rfl rfl rfl rfl rfl (by decide) ?_
          refine wlv (op_pickF (by decide) rfl rfl) rfl ?_
          refine WL.nil ?_
          refine WX.regs (L' := [(1, _), (5, _), (26, _)]) (by repeat (first | exact RS.nil | refine RS.cons rfl ?_)) ?_
          refine WX.next ?_
          refine WC.condF rfl ?_
          refine WC.skip ?_
          refine WX.turn (c := own (.slice As 256 cs) 5 1 256 (bvs ls)) (d := rx (.slice As 256 cs) 1 256 (bvs ls)) (by repeat (first | exact Take.here | apply Take.there)) own_le_rx ?_
          rw [← hls]
          refine WX.meet ((As, cs, ls)) (by simp only []; omega) (fun a w hs => hs.sub (by repeat (first | exact RS.nil | refine RS.cons (by first | rfl | exact congrArg (fun z : Int => some (Value.int .i64 z)) (by omega)) ?_)) (by repeat (first | exact Takes.nil | exact Take.here | apply Takes.cons | apply Take.there)))
      · rintro ⟨Ab, cb, lb⟩ hlb
        try dsimp only at hlb ⊢
        refine WC.seq ?_
        refine WC.region ?_
        refine wlv (op_move (by decide) rfl) rfl ?_
        refine wlx (op_call (f21_spec Ab lb.length cb lb rfl) ca21 (by decide) rfl (by apply Give.mk; (repeat (first | exact Takes.nil | exact Take.here | apply Takes.cons | apply Take.there)); repeat (first | exact Reads.nil | (apply Reads.rd; (focus (repeat (first | exact List.Mem.head _ | apply List.Mem.tail)); done)) | (apply Reads.own; (focus (repeat (first | exact List.Mem.head _ | apply List.Mem.tail)); done)) | (apply Reads.rx; (focus (repeat (first | exact List.Mem.head _ | apply List.Mem.tail)); done)) | (apply Reads.rows (e := false); (focus (repeat (first | exact List.Mem.head _ | apply List.Mem.tail)); done)) | (apply Reads.rows (e := true); (focus (repeat (first | exact List.Mem.head _ | apply List.Mem.tail)); done))))) rfl ?_
        rintro ⟨Ap, cp, mp, pp, ep⟩ ⟨hdp, hmp⟩
        dsimp only at hdp hmp
        dsimp only
        refine wlv (op_move (by decide) rfl) rfl ?_
        refine wlv (op_extract (by decide) rfl rfl) rfl ?_
        refine wlv (op_extract (by decide) rfl rfl) rfl ?_
        refine wl1 (op_alloc ti25 (by decide)) rfl fun b4 => ?_
        refine wl (op_storeAll sz25 rfl rfl (by repeat (first | exact Take.here | apply Take.there)) (by first | rfl | (simp [Value.cells]; done) | (simp [Value.cells]; omega)) (by first | rfl | exact wvs_one _ | exact bvs_one _) (by first | rfl | (simp [Value.cells]; done) | (simp [Value.cells]; omega))) rfl ?_
        change WL _ _ _ _ _ _ _
        refine wlv (op_assign (by decide) rfl) rfl ?_
        refine WL.nil ?_
        refine WX.regs (L' := [(5, _), (6, _), (7, _)]) (by repeat (first | exact RS.nil | refine RS.cons rfl ?_)) ?_
        refine WX.next ?_
        refine WC.seq ?_
        refine WC.region ?_
        refine wlv (op_move (by decide) rfl) rfl ?_
        refine wlx (op_call (f25_spec Ab lb.length cb lb rfl) ca25 (by decide) rfl (by apply Give.mk; (repeat (first | exact Takes.nil | exact Take.here | apply Takes.cons | apply Take.there)); repeat (first | exact Reads.nil | (apply Reads.rd; (focus (repeat (first | exact List.Mem.head _ | apply List.Mem.tail)); done)) | (apply Reads.own; (focus (repeat (first | exact List.Mem.head _ | apply List.Mem.tail)); done)) | (apply Reads.rx; (focus (repeat (first | exact List.Mem.head _ | apply List.Mem.tail)); done)) | (apply Reads.rows (e := false); (focus (repeat (first | exact List.Mem.head _ | apply List.Mem.tail)); done)) | (apply Reads.rows (e := true); (focus (repeat (first | exact List.Mem.head _ | apply List.Mem.tail)); done))))) rfl ?_
        rintro ⟨Ar, cr, mr, po, eo⟩ ⟨hdo, hmo⟩
        dsimp only at hdo hmo
        have hje := hdp.trans hdo.symm
        simp only [Prod.mk.injEq] at hje
        obtain ⟨rfl, rfl⟩ := hje
        obtain rfl : mp = mr := hmp.trans hmo.symm
        dsimp only
        refine wlv (op_move (by decide) rfl) rfl ?_
        refine wlv (op_extract (by decide) rfl rfl) rfl ?_
        refine wlv (op_extract (by decide) rfl rfl) rfl ?_
        refine wl1 (op_alloc ti24 (by decide)) rfl fun b5 => ?_
        refine wl (op_storeAll sz24 rfl rfl (by repeat (first | exact Take.here | apply Take.there)) (by first | rfl | (simp [Value.cells]; done) | (simp [Value.cells]; omega)) (by first | rfl | exact wvs_one _ | exact bvs_one _) (by first | rfl | (simp [Value.cells]; done) | (simp [Value.cells]; omega))) rfl ?_
        change WL _ _ _ _ _ _ _
        refine wlv (op_assign (by decide) rfl) rfl ?_
        refine WL.nil ?_
        refine WX.regs (L' := [(6, _), (7, _), (8, _), (9, _)]) (by repeat (first | exact RS.nil | refine RS.cons rfl ?_)) ?_
        refine WX.next ?_
        refine WC.seq ?_
        refine WC.drawnH mo 999 ?_
        refine WA.stepx (i := 0) (by kernel_rfl) rfl rfl (op_call (f18_spec) ca18 (by decide) rfl (by apply Give.mk; (repeat (first | exact Takes.nil | exact Take.here | apply Takes.cons | apply Take.there)); repeat (first | exact Reads.nil | (apply Reads.rd; (focus (repeat (first | exact List.Mem.head _ | apply List.Mem.tail)); done)) | (apply Reads.own; (focus (repeat (first | exact List.Mem.head _ | apply List.Mem.tail)); done)) | (apply Reads.rx; (focus (repeat (first | exact List.Mem.head _ | apply List.Mem.tail)); done)) | (apply Reads.rows (e := false); (focus (repeat (first | exact List.Mem.head _ | apply List.Mem.tail)); done)) | (apply Reads.rows (e := true); (focus (repeat (first | exact List.Mem.head _ | apply List.Mem.tail)); done))))) (fun _ r => (by repeat (first | exact Takes.nil | exact Take.here | apply Takes.cons | apply Take.there))) ?_
        rintro _ _
        refine WA.take (i := 1) rfl (by kernel_rfl) (fun _ _ _ h => h) rfl (op_move (by decide) rfl) (by repeat (first | exact Takes.nil | exact Take.here | apply Takes.cons | apply Take.there)) ?_
        refine WA.takeG (i := 2) rfl (by kernel_rfl) (fun _ _ _ h => h) rfl rfl rfl (op_move (by decide) rfl) (by repeat (first | exact Takes.nil | exact Take.here | apply Takes.cons | apply Take.there)) ?_
        refine WA.takeG (i := 3) rfl (by kernel_rfl) (fun _ _ _ h => h) rfl rfl rfl (op_move (by decide) rfl) (by repeat (first | exact Takes.nil | exact Take.here | apply Takes.cons | apply Take.there)) ?_
        refine WA.takeG (i := 4) rfl (by kernel_rfl) (fun _ _ _ h => h) rfl rfl rfl (op_eql (by decide) rfl rfl) (by repeat (first | exact Takes.nil | exact Take.here | apply Takes.cons | apply Take.there)) ?_
        refine WA.take (i := 5) rfl (by kernel_rfl) (fun _ _ _ h => h) rfl (op_pickT (by decide) rfl rfl) (by repeat (first | exact Takes.nil | exact Take.here | apply Takes.cons | apply Take.there)) ?_
        refine WA.take (i := 6) rfl (by kernel_rfl) (fun _ _ _ h => h) rfl (op_move (by decide) rfl) (by repeat (first | exact Takes.nil | exact Take.here | apply Takes.cons | apply Take.there)) ?_
        refine WA.split (t := 47) rfl (fun g47 => ?_) (fun g47 => ?_)
        ·
          refine WA.takeG (i := 7) rfl (by kernel_rfl) (fun _ _ _ h => h) rfl rfl rfl (op_loadAll ag25 (by decide) rfl (by repeat (first | exact List.Mem.head _ | apply List.Mem.tail)) (by first | rfl | (simp [Value.cells]; done) | (simp [Value.cells]; omega))) (by repeat (first | exact Takes.nil | exact Take.here | apply Takes.cons | apply Take.there)) ?_
          refine WA.takeG (i := 9) rfl (by kernel_rfl) (fun _ _ _ h => h) rfl rfl rfl (op_loadAll ag24 (by decide) rfl (by repeat (first | exact List.Mem.head _ | apply List.Mem.tail)) (by first | rfl | (simp [Value.cells]; done) | (simp [Value.cells]; omega))) (by repeat (first | exact Takes.nil | exact Take.here | apply Takes.cons | apply Take.there)) ?_
          refine WA.stepGx (i := 8) (by kernel_rfl) rfl rfl rfl rfl (op_call (f16_spec pp.k pp.g pp.n pp.i pp.c Ap mp cp) ca16 (by decide) rfl (by apply Give.mk; (repeat (first | exact Takes.nil | exact Take.here | apply Takes.cons | apply Take.there)); repeat (first | exact Reads.nil | (apply Reads.rd; (focus (repeat (first | exact List.Mem.head _ | apply List.Mem.tail)); done)) | (apply Reads.own; (focus (repeat (first | exact List.Mem.head _ | apply List.Mem.tail)); done)) | (apply Reads.rx; (focus (repeat (first | exact List.Mem.head _ | apply List.Mem.tail)); done)) | (apply Reads.rows (e := false); (focus (repeat (first | exact List.Mem.head _ | apply List.Mem.tail)); done)) | (apply Reads.rows (e := true); (focus (repeat (first | exact List.Mem.head _ | apply List.Mem.tail)); done))))) (fun _ r => (by repeat (first | exact Takes.nil | exact Take.here | apply Takes.cons | apply Take.there))) ?_
          rintro _ _
          refine WA.stepGx (i := 10) (by kernel_rfl) rfl rfl rfl rfl (op_call (f23_spec pp.k pp.g pp.n pp.i pp.c pp.k pp.g pp.n pp.i pp.c Ap Ar mp cp mp cr pp.b pp.b) ca23 (by decide) rfl (by apply Give.mk; (repeat (first | exact Takes.nil | exact Take.here | apply Takes.cons | apply Take.there)); repeat (first | exact Reads.nil | (apply Reads.rd; (focus (repeat (first | exact List.Mem.head _ | apply List.Mem.tail)); done)) | (apply Reads.own; (focus (repeat (first | exact List.Mem.head _ | apply List.Mem.tail)); done)) | (apply Reads.rx; (focus (repeat (first | exact List.Mem.head _ | apply List.Mem.tail)); done)) | (apply Reads.rows (e := false); (focus (repeat (first | exact List.Mem.head _ | apply List.Mem.tail)); done)) | (apply Reads.rows (e := true); (focus (repeat (first | exact List.Mem.head _ | apply List.Mem.tail)); done))))) (fun _ r => (by repeat (first | exact Takes.nil | exact Take.here | apply Takes.cons | apply Take.there))) ?_
          rintro _ rfl
          refine WA.take (i := 11) rfl (by kernel_rfl) (fun _ _ _ h => h) rfl (op_pickT (by decide) rfl rfl) (by repeat (first | exact Takes.nil | exact Take.here | apply Takes.cons | apply Take.there)) ?_
          refine WA.take (i := 12) rfl (by kernel_rfl) (fun _ _ _ h => h) rfl (op_assign (by decide) rfl) (by repeat (first | exact Takes.nil | exact Take.here | apply Takes.cons | apply Take.there)) ?_
          refine WA.done (by kernel_rfl) ?_
          refine WX.regs (L' := [(4, _)]) (by repeat (first | exact RS.nil | refine RS.cons rfl ?_)) ?_
          refine WX.next ?_
          refine WC.ret ?_
          exact Fin.ret1 (by first | exact .inl rfl | exact .inr rfl) (_) (decide_eq_true ⟨rfl, rfl, rfl, rfl, rfl, rfl⟩) Try.results4 (.tmp rfl) (by repeat (first | exact Takes.nil | exact Take.here | apply Takes.cons | apply Take.there)) (by simp)
        ·
          exact absurd rfl g47
  ·
    refine wlg_no rfl rfl rfl rfl rfl (by decide) ?_
    refine wlg_no rfl rfl rfl rfl rfl (by decide) ?_
    refine wlv (op_pickF (by decide) rfl rfl) rfl ?_
    refine WL.nil ?_
    refine WX.regs (L' := [(1, _), (5, _), (17, _)]) (by repeat (first | exact RS.nil | refine RS.cons rfl ?_)) ?_
    refine WX.next ?_
    refine WC.condF rfl ?_
    refine WC.skip ?_
    refine WX.next ?_
    refine WC.cut (X := Option Addr × Nat × List UInt8) (fun q => q.2.2.length ≤ 300) (fun q => [(5, .slice q.1 q.2.2.length q.2.1)]) (fun q => [rx (.slice q.1 q.2.2.length q.2.1) 1 q.2.2.length (bvs q.2.2), rowsC false x.rows, frameC w0 (MutF [])]) ?_ ?_
    ·
      refine WC.seq ?_
      refine WC.region ?_
      refine wlv (op_move (by decide) rfl) rfl ?_
      refine wlv (op_lss (by decide) rfl rfl) rfl ?_
      refine wlv (op_move (by decide) rfl) rfl ?_
      refine WL.split (t := 23) rfl (fun g23 => ?_) (fun g23 => ?_)
      ·
        refine wlgv (op_move (by decide) rfl) rfl rfl rfl ?_
        refine wlgv (op_gtr (by decide) rfl rfl) rfl rfl rfl ?_
        refine wlv (op_pickT (by decide) rfl rfl) rfl ?_
        refine WL.nil ?_
        refine WX.regs (L' := [(1, _), (5, _), (26, _)]) (by repeat (first | exact RS.nil | refine RS.cons rfl ?_)) ?_
        refine WX.next ?_
        refine WC.cond rfl (fun h2 => ?_) (fun h2 => ?_)
        ·
          refine WC.region ?_
          refine wlv (op_move (by decide) rfl) rfl ?_
          refine wlv (op_move (by decide) rfl) rfl ?_
          refine wlv (op_neg (by decide) rfl (by omega)) rfl ?_
          obtain ⟨k, hk⟩ : ∃ k : Nat, -cut = (k : Int) := ⟨(-cut).toNat, by omega⟩
          rw [hk]
          refine wl2 (op_appendZ Try.underlying22 Try.underlying3 ti5 (by decide) rfl rfl (by repeat (first | exact Take.here | apply Take.there)) (by decide) (by omega) rfl (by omega) (by omega)) rfl fun A1 c1 => ?_
          refine wlv (op_assign (by decide) rfl) rfl ?_
          refine WL.nil ?_
          refine WX.regs (L' := [(5, _)]) (by repeat (first | exact RS.nil | refine RS.cons rfl ?_)) ?_
          refine WX.ownEq (v := .slice A1 (256 + k) c1) (bvs (ls ++ List.replicate k 0)) (by repeat (first | exact Take.here | apply Take.there)) (by rw [bvs_append, bvs_zeros]) ?_
          refine WX.turn (c := own (.slice A1 (256 + k) c1) 5 1 (256 + k) (bvs (ls ++ List.replicate k 0))) (d := rx (.slice A1 (256 + k) c1) 1 (256 + k) (bvs (ls ++ List.replicate k 0))) (by repeat (first | exact Take.here | apply Take.there)) own_le_rx ?_
          rw [show 256 + k = (ls ++ List.replicate k 0).length by rw [List.length_append, hls, List.length_replicate]]
          refine WX.meet ((A1, c1, ls ++ List.replicate k 0)) (by simp only [List.length_append, List.length_replicate]; omega) (fun a w hs => hs.sub (by repeat (first | exact RS.nil | refine RS.cons (by first | rfl | exact congrArg (fun z : Int => some (Value.int .i64 z)) (by omega)) ?_)) (by repeat (first | exact Takes.nil | exact Take.here | apply Takes.cons | apply Take.there)))
        ·
          refine WC.skip ?_
          refine WX.turn (c := own (.slice As 256 cs) 5 1 256 (bvs ls)) (d := rx (.slice As 256 cs) 1 256 (bvs ls)) (by repeat (first | exact Take.here | apply Take.there)) own_le_rx ?_
          rw [← hls]
          refine WX.meet ((As, cs, ls)) (by simp only []; omega) (fun a w hs => hs.sub (by repeat (first | exact RS.nil | refine RS.cons (by first | rfl | exact congrArg (fun z : Int => some (Value.int .i64 z)) (by omega)) ?_)) (by repeat (first | exact Takes.nil | exact Take.here | apply Takes.cons | apply Take.there)))
      ·
        refine wlg_no rfl rfl rfl rfl rfl (by decide) ?_
        refine wlg_no rfl rfl rfl rfl rfl (by decide) ?_
        refine wlv (op_pickF (by decide) rfl rfl) rfl ?_
        refine WL.nil ?_
        refine WX.regs (L' := [(1, _), (5, _), (26, _)]) (by repeat (first | exact RS.nil | refine RS.cons rfl ?_)) ?_
        refine WX.next ?_
        refine WC.condF rfl ?_
        refine WC.skip ?_
        refine WX.turn (c := own (.slice As 256 cs) 5 1 256 (bvs ls)) (d := rx (.slice As 256 cs) 1 256 (bvs ls)) (by repeat (first | exact Take.here | apply Take.there)) own_le_rx ?_
        rw [← hls]
        refine WX.meet ((As, cs, ls)) (by simp only []; omega) (fun a w hs => hs.sub (by repeat (first | exact RS.nil | refine RS.cons (by first | rfl | exact congrArg (fun z : Int => some (Value.int .i64 z)) (by omega)) ?_)) (by repeat (first | exact Takes.nil | exact Take.here | apply Takes.cons | apply Take.there)))
    · rintro ⟨Ab, cb, lb⟩ hlb
      try dsimp only at hlb ⊢
      refine WC.seq ?_
      refine WC.region ?_
      refine wlv (op_move (by decide) rfl) rfl ?_
      refine wlx (op_call (f21_spec Ab lb.length cb lb rfl) ca21 (by decide) rfl (by apply Give.mk; (repeat (first | exact Takes.nil | exact Take.here | apply Takes.cons | apply Take.there)); repeat (first | exact Reads.nil | (apply Reads.rd; (focus (repeat (first | exact List.Mem.head _ | apply List.Mem.tail)); done)) | (apply Reads.own; (focus (repeat (first | exact List.Mem.head _ | apply List.Mem.tail)); done)) | (apply Reads.rx; (focus (repeat (first | exact List.Mem.head _ | apply List.Mem.tail)); done)) | (apply Reads.rows (e := false); (focus (repeat (first | exact List.Mem.head _ | apply List.Mem.tail)); done)) | (apply Reads.rows (e := true); (focus (repeat (first | exact List.Mem.head _ | apply List.Mem.tail)); done))))) rfl ?_
      rintro ⟨Ap, cp, mp, pp, ep⟩ ⟨hdp, hmp⟩
      dsimp only at hdp hmp
      dsimp only
      refine wlv (op_move (by decide) rfl) rfl ?_
      refine wlv (op_extract (by decide) rfl rfl) rfl ?_
      refine wlv (op_extract (by decide) rfl rfl) rfl ?_
      refine wl1 (op_alloc ti25 (by decide)) rfl fun b2 => ?_
      refine wl (op_storeAll sz25 rfl rfl (by repeat (first | exact Take.here | apply Take.there)) (by first | rfl | (simp [Value.cells]; done) | (simp [Value.cells]; omega)) (by first | rfl | exact wvs_one _ | exact bvs_one _) (by first | rfl | (simp [Value.cells]; done) | (simp [Value.cells]; omega))) rfl ?_
      change WL _ _ _ _ _ _ _
      refine wlv (op_assign (by decide) rfl) rfl ?_
      refine WL.nil ?_
      refine WX.regs (L' := [(5, _), (6, _), (7, _)]) (by repeat (first | exact RS.nil | refine RS.cons rfl ?_)) ?_
      refine WX.next ?_
      refine WC.seq ?_
      refine WC.region ?_
      refine wlv (op_move (by decide) rfl) rfl ?_
      refine wlx (op_call (f25_spec Ab lb.length cb lb rfl) ca25 (by decide) rfl (by apply Give.mk; (repeat (first | exact Takes.nil | exact Take.here | apply Takes.cons | apply Take.there)); repeat (first | exact Reads.nil | (apply Reads.rd; (focus (repeat (first | exact List.Mem.head _ | apply List.Mem.tail)); done)) | (apply Reads.own; (focus (repeat (first | exact List.Mem.head _ | apply List.Mem.tail)); done)) | (apply Reads.rx; (focus (repeat (first | exact List.Mem.head _ | apply List.Mem.tail)); done)) | (apply Reads.rows (e := false); (focus (repeat (first | exact List.Mem.head _ | apply List.Mem.tail)); done)) | (apply Reads.rows (e := true); (focus (repeat (first | exact List.Mem.head _ | apply List.Mem.tail)); done))))) rfl ?_
      rintro ⟨Ar, cr, mr, po, eo⟩ ⟨hdo, hmo⟩
      dsimp only at hdo hmo
      have hje := hdp.trans hdo.symm
      simp only [Prod.mk.injEq] at hje
      obtain ⟨rfl, rfl⟩ := hje
      obtain rfl : mp = mr := hmp.trans hmo.symm
      dsimp only
      refine wlv (op_move (by decide) rfl) rfl ?_
      refine wlv (op_extract (by decide) rfl rfl) rfl ?_
      refine wlv (op_extract (by decide) rfl rfl) rfl ?_
      refine wl1 (op_alloc ti24 (by decide)) rfl fun b3 => ?_
      refine wl (op_storeAll sz24 rfl rfl (by repeat (first | exact Take.here | apply Take.there)) (by first | rfl | (simp [Value.cells]; done) | (simp [Value.cells]; omega)) (by first | rfl | exact wvs_one _ | exact bvs_one _) (by first | rfl | (simp [Value.cells]; done) | (simp [Value.cells]; omega))) rfl ?_
      change WL _ _ _ _ _ _ _
      refine wlv (op_assign (by decide) rfl) rfl ?_
      refine WL.nil ?_
      refine WX.regs (L' := [(6, _), (7, _), (8, _), (9, _)]) (by repeat (first | exact RS.nil | refine RS.cons rfl ?_)) ?_
      refine WX.next ?_
      refine WC.seq ?_
      refine WC.drawnH mo 999 ?_
      refine WA.stepx (i := 0) (by kernel_rfl) rfl rfl (op_call (f18_spec) ca18 (by decide) rfl (by apply Give.mk; (repeat (first | exact Takes.nil | exact Take.here | apply Takes.cons | apply Take.there)); repeat (first | exact Reads.nil | (apply Reads.rd; (focus (repeat (first | exact List.Mem.head _ | apply List.Mem.tail)); done)) | (apply Reads.own; (focus (repeat (first | exact List.Mem.head _ | apply List.Mem.tail)); done)) | (apply Reads.rx; (focus (repeat (first | exact List.Mem.head _ | apply List.Mem.tail)); done)) | (apply Reads.rows (e := false); (focus (repeat (first | exact List.Mem.head _ | apply List.Mem.tail)); done)) | (apply Reads.rows (e := true); (focus (repeat (first | exact List.Mem.head _ | apply List.Mem.tail)); done))))) (fun _ r => (by repeat (first | exact Takes.nil | exact Take.here | apply Takes.cons | apply Take.there))) ?_
      rintro _ _
      refine WA.take (i := 1) rfl (by kernel_rfl) (fun _ _ _ h => h) rfl (op_move (by decide) rfl) (by repeat (first | exact Takes.nil | exact Take.here | apply Takes.cons | apply Take.there)) ?_
      refine WA.takeG (i := 2) rfl (by kernel_rfl) (fun _ _ _ h => h) rfl rfl rfl (op_move (by decide) rfl) (by repeat (first | exact Takes.nil | exact Take.here | apply Takes.cons | apply Take.there)) ?_
      refine WA.takeG (i := 3) rfl (by kernel_rfl) (fun _ _ _ h => h) rfl rfl rfl (op_move (by decide) rfl) (by repeat (first | exact Takes.nil | exact Take.here | apply Takes.cons | apply Take.there)) ?_
      refine WA.takeG (i := 4) rfl (by kernel_rfl) (fun _ _ _ h => h) rfl rfl rfl (op_eql (by decide) rfl rfl) (by repeat (first | exact Takes.nil | exact Take.here | apply Takes.cons | apply Take.there)) ?_
      refine WA.take (i := 5) rfl (by kernel_rfl) (fun _ _ _ h => h) rfl (op_pickT (by decide) rfl rfl) (by repeat (first | exact Takes.nil | exact Take.here | apply Takes.cons | apply Take.there)) ?_
      refine WA.take (i := 6) rfl (by kernel_rfl) (fun _ _ _ h => h) rfl (op_move (by decide) rfl) (by repeat (first | exact Takes.nil | exact Take.here | apply Takes.cons | apply Take.there)) ?_
      refine WA.split (t := 47) rfl (fun g47 => ?_) (fun g47 => ?_)
      ·
        refine WA.takeG (i := 7) rfl (by kernel_rfl) (fun _ _ _ h => h) rfl rfl rfl (op_loadAll ag25 (by decide) rfl (by repeat (first | exact List.Mem.head _ | apply List.Mem.tail)) (by first | rfl | (simp [Value.cells]; done) | (simp [Value.cells]; omega))) (by repeat (first | exact Takes.nil | exact Take.here | apply Takes.cons | apply Take.there)) ?_
        refine WA.takeG (i := 9) rfl (by kernel_rfl) (fun _ _ _ h => h) rfl rfl rfl (op_loadAll ag24 (by decide) rfl (by repeat (first | exact List.Mem.head _ | apply List.Mem.tail)) (by first | rfl | (simp [Value.cells]; done) | (simp [Value.cells]; omega))) (by repeat (first | exact Takes.nil | exact Take.here | apply Takes.cons | apply Take.there)) ?_
        refine WA.stepGx (i := 8) (by kernel_rfl) rfl rfl rfl rfl (op_call (f16_spec pp.k pp.g pp.n pp.i pp.c Ap mp cp) ca16 (by decide) rfl (by apply Give.mk; (repeat (first | exact Takes.nil | exact Take.here | apply Takes.cons | apply Take.there)); repeat (first | exact Reads.nil | (apply Reads.rd; (focus (repeat (first | exact List.Mem.head _ | apply List.Mem.tail)); done)) | (apply Reads.own; (focus (repeat (first | exact List.Mem.head _ | apply List.Mem.tail)); done)) | (apply Reads.rx; (focus (repeat (first | exact List.Mem.head _ | apply List.Mem.tail)); done)) | (apply Reads.rows (e := false); (focus (repeat (first | exact List.Mem.head _ | apply List.Mem.tail)); done)) | (apply Reads.rows (e := true); (focus (repeat (first | exact List.Mem.head _ | apply List.Mem.tail)); done))))) (fun _ r => (by repeat (first | exact Takes.nil | exact Take.here | apply Takes.cons | apply Take.there))) ?_
        rintro _ _
        refine WA.stepGx (i := 10) (by kernel_rfl) rfl rfl rfl rfl (op_call (f23_spec pp.k pp.g pp.n pp.i pp.c pp.k pp.g pp.n pp.i pp.c Ap Ar mp cp mp cr pp.b pp.b) ca23 (by decide) rfl (by apply Give.mk; (repeat (first | exact Takes.nil | exact Take.here | apply Takes.cons | apply Take.there)); repeat (first | exact Reads.nil | (apply Reads.rd; (focus (repeat (first | exact List.Mem.head _ | apply List.Mem.tail)); done)) | (apply Reads.own; (focus (repeat (first | exact List.Mem.head _ | apply List.Mem.tail)); done)) | (apply Reads.rx; (focus (repeat (first | exact List.Mem.head _ | apply List.Mem.tail)); done)) | (apply Reads.rows (e := false); (focus (repeat (first | exact List.Mem.head _ | apply List.Mem.tail)); done)) | (apply Reads.rows (e := true); (focus (repeat (first | exact List.Mem.head _ | apply List.Mem.tail)); done))))) (fun _ r => (by repeat (first | exact Takes.nil | exact Take.here | apply Takes.cons | apply Take.there))) ?_
        rintro _ rfl
        refine WA.take (i := 11) rfl (by kernel_rfl) (fun _ _ _ h => h) rfl (op_pickT (by decide) rfl rfl) (by repeat (first | exact Takes.nil | exact Take.here | apply Takes.cons | apply Take.there)) ?_
        refine WA.take (i := 12) rfl (by kernel_rfl) (fun _ _ _ h => h) rfl (op_assign (by decide) rfl) (by repeat (first | exact Takes.nil | exact Take.here | apply Takes.cons | apply Take.there)) ?_
        refine WA.done (by kernel_rfl) ?_
        refine WX.regs (L' := [(4, _)]) (by repeat (first | exact RS.nil | refine RS.cons rfl ?_)) ?_
        refine WX.next ?_
        refine WC.ret ?_
        exact Fin.ret1 (by first | exact .inl rfl | exact .inr rfl) (_) (decide_eq_true ⟨rfl, rfl, rfl, rfl, rfl, rfl⟩) Try.results4 (.tmp rfl) (by repeat (first | exact Takes.nil | exact Take.here | apply Takes.cons | apply Take.there)) (by simp)
      ·
        exact absurd rfl g47
end Go.Proofs.Ythephcghglldaaa.Sx
