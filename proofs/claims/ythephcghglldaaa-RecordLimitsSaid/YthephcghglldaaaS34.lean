import Derived.Test.YthephcghglldaaaS20
set_option linter.unusedVariables false
set_option linter.unusedSimpArgs false
namespace Go.Proofs.Ythephcghglldaaa.Sx
open Go.RowKit Go.Proofs.Ythephcghglldaaa.Ty
attribute [local irreducible] blk own rd rx frameC

theorem small_len {m : Nat} (h : m ≤ 1000000) : m ≤ maxLen := Nat.le_trans h (by decide)
theorem blank_rep (z : Nat) : blank (List.replicate z 0) = true := by simp [blank]
theorem blank_set {z : Nat} (h : 0 < z) : blank ((List.replicate z (0 : UInt8)).set (z / 2) 1) = false := by
  cases hb : blank ((List.replicate z (0 : UInt8)).set (z / 2) 1) with
  | false => rfl
  | true =>
    exfalso
    unfold blank at hb
    have h1 := List.all_eq_true.1 hb 1 (by
      refine List.mem_iff_getElem?.2 ⟨z / 2, ?_⟩
      rw [List.getElem?_set_self (by rw [List.length_replicate]; omega)])
    exact absurd h1 (by decide)
set_option maxHeartbeats 400000 in
set_option maxRecDepth 10000 in
theorem f13_spec (k g n k2 g2 n2 : Int) (A B : Option Addr) (m c m2 c2 : Nat) (bs bs2 : List UInt8) (hm : bs.length = m) (hm2 : bs2.length = m2) (zeros : UInt8) :
    Spec Try.prog 13 [.agg #[.int .i64 k, .int .i64 g, .int .i64 n, .slice A m c], .agg #[.int .i64 k2, .int .i64 g2, .int .i64 n2, .slice B m2 c2], bv zeros] [] [rd (.slice A m c) 1 m (bvs bs), rd (.slice B m2 c2) 1 m2 (bvs bs2)] (R := Bool) (fun b => b = true) (fun b => .bool b) (fun _ => []) := by
  have hz : zeros.toNat < 256 := zeros.toNat_lt
  refine Spec.intro Try.func13 Try.ntmps13 rfl (by simp) (by simp) fun w0 => ?_
  refine WC.seq ?_
  refine WC.region ?_
  refine wl1 (op_box (by decide) rfl rfl) rfl fun b1 => ?_
  refine wl1 (op_box (by decide) rfl rfl) rfl fun b2 => ?_
  refine wlv (op_assign (by decide) rfl) rfl ?_
  refine WL.nil ?_
  refine WX.regs (L' := [(2, _), (3, _), (4, _)]) (by repeat (first | exact RS.nil | refine RS.cons rfl ?_)) ?_
  refine WX.next ?_
  refine WC.seq ?_
  refine WC.drawn (Hs := [blk b1 [.int .i64 k, .int .i64 g, .int .i64 n, .slice A m c] 49, blk b2 [.int .i64 k2, .int .i64 g2, .int .i64 n2, .slice B m2 c2] 49]) mo 7 ?_
  refine WA.take (i := 0) rfl (by kernel_rfl) (fun _ _ _ h => h) rfl (op_loadAll ag49 (by decide) rfl (by repeat (first | exact List.Mem.head _ | apply List.Mem.tail)) (by first | rfl | (simp [Value.cells]; done) | (simp [Value.cells]; omega))) (by repeat (first | exact Takes.nil | exact Take.here | apply Takes.cons | apply Take.there)) ?_
  refine WA.take (i := 2) rfl (by kernel_rfl) (fun _ _ _ h => h) rfl (op_loadAll ag49 (by decide) rfl (by repeat (first | exact List.Mem.head _ | apply List.Mem.tail)) (by first | rfl | (simp [Value.cells]; done) | (simp [Value.cells]; omega))) (by repeat (first | exact Takes.nil | exact Take.here | apply Takes.cons | apply Take.there)) ?_
  refine WA.abs (fun W hW => ?_)
  have st11111100 : ∀ (Ax : Option Addr) (cx : Nat) (Ay : Option Addr) (cy : Nat) (bx : Nat) (by_ : Nat), W 2 #[true, true, true, true, true, true, false, false] 56 [(2, bv zeros), (7, .pointer (some ⟨bx, 0, none⟩)), (8, .pointer (some ⟨by_, 0, none⟩)), (12, .agg #[.int .i64 k, .int .i64 g, .int .i64 n, .slice Ax (min m 2000) cx]), (14, .agg #[.int .i64 k2, .int .i64 g2, .int .i64 n2, .slice Ay (min m2 2000) cy])] [blk by_ [.int .i64 0, .int .i64 0, .int .i64 0, .slice none 0 0] 50, blk bx [.int .i64 0, .int .i64 0, .int .i64 0, .slice none 0 0] 50, own (.slice Ay (min m2 2000) cy) 5 1 (min m2 2000) (bvs (bs2.take 2000)), own (.slice Ax (min m 2000) cx) 5 1 (min m 2000) (bvs (bs.take 2000)), blk b1 [.int .i64 k, .int .i64 g, .int .i64 n, .slice A m c] 49, blk b2 [.int .i64 k2, .int .i64 g2, .int .i64 n2, .slice B m2 c2] 49, rd (.slice A m c) 1 m (bvs bs), rd (.slice B m2 c2) 1 m2 (bvs bs2), frameC w0 (MutF [])] := by
    intro Ax cx Ay cy bx by_
    subst hW
    refine WA.stepo (i := 6) (by kernel_rfl) rfl rfl (op_storeAll sz50 rfl rfl (by repeat (first | exact Take.here | apply Take.there)) (by first | rfl | (simp [Value.cells]; done) | (simp [Value.cells]; omega)) (by first | rfl | exact wvs_one _ | exact bvs_one _) (by first | rfl | (simp [Value.cells]; done) | (simp [Value.cells]; omega))) (fun _ => (by repeat (first | exact Takes.nil | exact Take.here | apply Takes.cons | apply Take.there))) ?_
    refine WA.stepo (G := []) (i := 7) (by kernel_rfl) rfl rfl (op_storeAll sz50 rfl rfl (by repeat (first | exact Take.here | apply Take.there)) (by first | rfl | (simp [Value.cells]; done) | (simp [Value.cells]; omega)) (by first | rfl | exact wvs_one _ | exact bvs_one _) (by first | rfl | (simp [Value.cells]; done) | (simp [Value.cells]; omega))) (fun h => absurd rfl h) ?_
    refine WA.done (by kernel_rfl) ?_
    refine WX.regs (L' := [(2, _), (7, _), (8, _)]) (by repeat (first | exact RS.nil | refine RS.cons rfl ?_)) ?_
    refine WX.next ?_
    refine WC.seq ?_
    refine WC.region ?_
    refine wlv (op_move (by decide) rfl) rfl ?_
    refine wlv (op_conv8i (by kernel_rfl) Try.underlying3 (by decide) rfl) rfl ?_
    refine wl1 (op_make (z1 := (.int .u8 0)) (sz := 1) (zero := []) Try.underlying22 ti5 (by decide) rfl rfl (by omega) (by omega) (by omega) (by omega)) rfl fun b3 => ?_
    rw [Int.toNat_natCast]
    refine WL.blkEq (b := b3) (bvs (List.replicate zeros.toNat 0)) (by repeat (first | exact Take.here | apply Take.there)) (by simp [bvs, bv]) ?_
    refine WL.turn (c := blk b3 (bvs (List.replicate zeros.toNat 0)) 5) (d := own (.slice (some ⟨b3, 0, none⟩) zeros.toNat zeros.toNat) 5 1 zeros.toNat (bvs (List.replicate zeros.toNat 0))) (by repeat (first | exact Take.here | apply Take.there)) (own_le_blk (by simp) (small_len (by omega))) ?_
    refine wlv (op_assign (by decide) rfl) rfl ?_
    refine WL.nil ?_
    refine WX.regs (L' := [(2, _), (7, _), (8, _), (9, _)]) (by repeat (first | exact RS.nil | refine RS.cons rfl ?_)) ?_
    refine WX.next ?_
    refine WC.seq ?_
    refine WC.region ?_
    refine wlv (op_move (by decide) rfl) rfl ?_
    refine wlx (op_call (f42_spec (some ⟨b3, 0, none⟩) zeros.toNat zeros.toNat (List.replicate zeros.toNat 0) (by simp)) ca42 (by decide) rfl (by apply Give.mk; (repeat (first | exact Takes.nil | exact Take.here | apply Takes.cons | apply Take.there)); repeat (first | exact Reads.nil | (apply Reads.rd; (focus (repeat (first | exact List.Mem.head _ | apply List.Mem.tail)); done)) | (apply Reads.own; (focus (repeat (first | exact List.Mem.head _ | apply List.Mem.tail)); done)) | (apply Reads.rx; (focus (repeat (first | exact List.Mem.head _ | apply List.Mem.tail)); done)) | (apply Reads.rows (e := false); (focus (repeat (first | exact List.Mem.head _ | apply List.Mem.tail)); done)) | (apply Reads.rows (e := true); (focus (repeat (first | exact List.Mem.head _ | apply List.Mem.tail)); done))))) rfl ?_
    rintro _ rfl
    refine wlv (op_assign (by decide) rfl) rfl ?_
    refine WL.nil ?_
    refine WX.regs (L' := [(2, _), (7, _), (8, _), (9, _), (10, _)]) (by repeat (first | exact RS.nil | refine RS.cons rfl ?_)) ?_
    refine WX.next ?_
    refine WC.cut (X := List UInt8) (fun q => q.length = zeros.toNat ∧ blank q = decide (zeros.toNat = 0)) (fun q => [(7, .pointer (some ⟨bx, 0, none⟩)), (8, .pointer (some ⟨by_, 0, none⟩)), (9, .slice (some ⟨b3, 0, none⟩) zeros.toNat zeros.toNat), (10, .bool (blank (List.replicate zeros.toNat 0)))]) (fun q => [own (.slice (some ⟨b3, 0, none⟩) zeros.toNat zeros.toNat) 5 1 zeros.toNat (bvs q), blk bx [.int .i64 k, .int .i64 g, .int .i64 n, .slice Ax (min m 2000) cx] 50, blk by_ [.int .i64 k2, .int .i64 g2, .int .i64 n2, .slice Ay (min m2 2000) cy] 50, own (.slice Ax (min m 2000) cx) 5 1 (min m 2000) (bvs (bs.take 2000)), own (.slice Ay (min m2 2000) cy) 5 1 (min m2 2000) (bvs (bs2.take 2000)), frameC w0 (MutF [])]) ?_ ?_
    ·
      refine WC.seq ?_
      refine WC.region ?_
      refine wlv (op_move (by decide) rfl) rfl ?_
      refine wlv (op_len Try.underlying22 (by decide) rfl) rfl ?_
      refine wlv (op_gtr (by decide) rfl rfl) rfl ?_
      refine WL.nil ?_
      refine WX.regs (L' := [(2, _), (7, _), (8, _), (9, _), (10, _), (22, _)]) (by repeat (first | exact RS.nil | refine RS.cons rfl ?_)) ?_
      refine WX.next ?_
      refine WC.cond rfl (fun h1 => ?_) (fun h1 => ?_)
      ·
        refine WC.region ?_
        refine wlv (op_move (by decide) rfl) rfl ?_
        refine wlv (op_move (by decide) rfl) rfl ?_
        refine wlv (op_conv8i (by kernel_rfl) Try.underlying3 (by decide) rfl) rfl ?_
        refine wlv (op_quo (by decide) rfl rfl (by omega) (by omega)) rfl ?_
        refine wlv (op_index Try.underlying22 sz5 (by decide) rfl rfl (by omega) (by omega) (by decide) (by first | (apply Src.rd; (repeat (first | exact List.Mem.head _ | apply List.Mem.tail)); done) | (apply Src.own; (repeat (first | exact List.Mem.head _ | apply List.Mem.tail)); done) | (apply Src.rx; (repeat (first | exact List.Mem.head _ | apply List.Mem.tail)); done))) rfl ?_
        refine wl (op_storeS sz5 rfl rfl (by repeat (first | exact Take.here | apply Take.there)) rfl rfl (by simp; omega) (by decide)) rfl ?_
        change WL _ _ _ _ _ _ _
        refine WL.nil ?_
        refine WX.regs (L' := [(7, _), (8, _), (9, _), (10, _)]) (by repeat (first | exact RS.nil | refine RS.cons rfl ?_)) ?_
        refine WX.ownEq (v := .slice (some ⟨b3, 0, none⟩) zeros.toNat zeros.toNat) (bvs ((List.replicate zeros.toNat 0).set (zeros.toNat / 2) 1)) (by repeat (first | exact Take.here | apply Take.there)) (bvs_put (k := zeros.toNat / 2) (x := 1) (by omega) (by rw [List.length_replicate]; omega)) ?_
        refine WX.meet ((List.replicate zeros.toNat 0).set (zeros.toNat / 2) 1) (⟨by simp, by rw [blank_set (by omega)]; exact (decide_eq_false (by omega)).symm⟩) (fun a w hs => hs.sub (by repeat (first | exact RS.nil | refine RS.cons (by first | rfl | exact congrArg (fun z : Int => some (Value.int .i64 z)) (by omega)) ?_)) (by repeat (first | exact Takes.nil | exact Take.here | apply Takes.cons | apply Take.there)))
      ·
        refine WC.skip ?_
        refine WX.meet (List.replicate zeros.toNat 0) (⟨by simp, by rw [blank_rep]; exact (decide_eq_true (by omega)).symm⟩) (fun a w hs => hs.sub (by repeat (first | exact RS.nil | refine RS.cons (by first | rfl | exact congrArg (fun z : Int => some (Value.int .i64 z)) (by omega)) ?_)) (by repeat (first | exact Takes.nil | exact Take.here | apply Takes.cons | apply Take.there)))
    · rintro cs ⟨hcs, hcb⟩
      try dsimp only at hcs hcb ⊢
      refine WC.seq ?_
      refine WC.drawnH mo 999 ?_
      refine WA.stepx (i := 0) (by kernel_rfl) rfl rfl (op_call (f18_spec) ca18 (by decide) rfl (by apply Give.mk; (repeat (first | exact Takes.nil | exact Take.here | apply Takes.cons | apply Take.there)); repeat (first | exact Reads.nil | (apply Reads.rd; (focus (repeat (first | exact List.Mem.head _ | apply List.Mem.tail)); done)) | (apply Reads.own; (focus (repeat (first | exact List.Mem.head _ | apply List.Mem.tail)); done)) | (apply Reads.rx; (focus (repeat (first | exact List.Mem.head _ | apply List.Mem.tail)); done)) | (apply Reads.rows (e := false); (focus (repeat (first | exact List.Mem.head _ | apply List.Mem.tail)); done)) | (apply Reads.rows (e := true); (focus (repeat (first | exact List.Mem.head _ | apply List.Mem.tail)); done))))) (fun _ r => (by repeat (first | exact Takes.nil | exact Take.here | apply Takes.cons | apply Take.there))) ?_
      rintro _ _
      refine WA.take (i := 1) rfl (by kernel_rfl) (fun _ _ _ h => h) rfl (op_move (by decide) rfl) (by repeat (first | exact Takes.nil | exact Take.here | apply Takes.cons | apply Take.there)) ?_
      refine WA.takeG (i := 2) rfl (by kernel_rfl) (fun _ _ _ h => h) rfl rfl rfl (op_loadAll ag50 (by decide) rfl (by repeat (first | exact List.Mem.head _ | apply List.Mem.tail)) (by first | rfl | (simp [Value.cells]; done) | (simp [Value.cells]; omega))) (by repeat (first | exact Takes.nil | exact Take.here | apply Takes.cons | apply Take.there)) ?_
      refine WA.takeG (i := 3) rfl (by kernel_rfl) (fun _ _ _ h => h) rfl rfl rfl (op_loadAll ag50 (by decide) rfl (by repeat (first | exact List.Mem.head _ | apply List.Mem.tail)) (by first | rfl | (simp [Value.cells]; done) | (simp [Value.cells]; omega))) (by repeat (first | exact Takes.nil | exact Take.here | apply Takes.cons | apply Take.there)) ?_
      refine WA.takeG (i := 5) rfl (by kernel_rfl) (fun _ _ _ h => h) rfl rfl rfl (op_loadAll ag50 (by decide) rfl (by repeat (first | exact List.Mem.head _ | apply List.Mem.tail)) (by first | rfl | (simp [Value.cells]; done) | (simp [Value.cells]; omega))) (by repeat (first | exact Takes.nil | exact Take.here | apply Takes.cons | apply Take.there)) ?_
      refine WA.takeG (i := 7) rfl (by kernel_rfl) (fun _ _ _ h => h) rfl rfl rfl (op_loadAll ag50 (by decide) rfl (by repeat (first | exact List.Mem.head _ | apply List.Mem.tail)) (by first | rfl | (simp [Value.cells]; done) | (simp [Value.cells]; omega))) (by repeat (first | exact Takes.nil | exact Take.here | apply Takes.cons | apply Take.there)) ?_
      refine WA.stepGx (i := 4) (by kernel_rfl) rfl rfl rfl rfl (op_call (f43_spec k g n k2 g2 n2 Ax Ay (min m 2000) cx (min m2 2000) cy (bs.take 2000) (bs2.take 2000)) ca43 (by decide) rfl (by apply Give.mk; (repeat (first | exact Takes.nil | exact Take.here | apply Takes.cons | apply Take.there)); repeat (first | exact Reads.nil | (apply Reads.rd; (focus (repeat (first | exact List.Mem.head _ | apply List.Mem.tail)); done)) | (apply Reads.own; (focus (repeat (first | exact List.Mem.head _ | apply List.Mem.tail)); done)) | (apply Reads.rx; (focus (repeat (first | exact List.Mem.head _ | apply List.Mem.tail)); done)) | (apply Reads.rows (e := false); (focus (repeat (first | exact List.Mem.head _ | apply List.Mem.tail)); done)) | (apply Reads.rows (e := true); (focus (repeat (first | exact List.Mem.head _ | apply List.Mem.tail)); done))))) (fun _ r => (by repeat (first | exact Takes.nil | exact Take.here | apply Takes.cons | apply Take.there))) ?_
      rintro _ rfl
      refine WA.stepGx (i := 6) (by kernel_rfl) rfl rfl rfl rfl (op_call (f30_spec k g n Ax (min m 2000) cx) ca30 (by decide) rfl (by apply Give.mk; (repeat (first | exact Takes.nil | exact Take.here | apply Takes.cons | apply Take.there)); repeat (first | exact Reads.nil | (apply Reads.rd; (focus (repeat (first | exact List.Mem.head _ | apply List.Mem.tail)); done)) | (apply Reads.own; (focus (repeat (first | exact List.Mem.head _ | apply List.Mem.tail)); done)) | (apply Reads.rx; (focus (repeat (first | exact List.Mem.head _ | apply List.Mem.tail)); done)) | (apply Reads.rows (e := false); (focus (repeat (first | exact List.Mem.head _ | apply List.Mem.tail)); done)) | (apply Reads.rows (e := true); (focus (repeat (first | exact List.Mem.head _ | apply List.Mem.tail)); done))))) (fun _ r => (by repeat (first | exact Takes.nil | exact Take.here | apply Takes.cons | apply Take.there))) ?_
      rintro _ _
      refine WA.stepGx (i := 8) (by kernel_rfl) rfl rfl rfl rfl (op_call (f30_spec k2 g2 n2 Ay (min m2 2000) cy) ca30 (by decide) rfl (by apply Give.mk; (repeat (first | exact Takes.nil | exact Take.here | apply Takes.cons | apply Take.there)); repeat (first | exact Reads.nil | (apply Reads.rd; (focus (repeat (first | exact List.Mem.head _ | apply List.Mem.tail)); done)) | (apply Reads.own; (focus (repeat (first | exact List.Mem.head _ | apply List.Mem.tail)); done)) | (apply Reads.rx; (focus (repeat (first | exact List.Mem.head _ | apply List.Mem.tail)); done)) | (apply Reads.rows (e := false); (focus (repeat (first | exact List.Mem.head _ | apply List.Mem.tail)); done)) | (apply Reads.rows (e := true); (focus (repeat (first | exact List.Mem.head _ | apply List.Mem.tail)); done))))) (fun _ r => (by repeat (first | exact Takes.nil | exact Take.here | apply Takes.cons | apply Take.there))) ?_
      rintro _ _
      refine WA.stepGx (i := 9) (by kernel_rfl) rfl rfl rfl rfl (op_call (f37_spec k g n k2 g2 n2 Ax Ay (min m 2000) cx (min m2 2000) cy (bs.take 2000) (bs2.take 2000)) ca37 (by decide) rfl (by apply Give.mk; (repeat (first | exact Takes.nil | exact Take.here | apply Takes.cons | apply Take.there)); repeat (first | exact Reads.nil | (apply Reads.rd; (focus (repeat (first | exact List.Mem.head _ | apply List.Mem.tail)); done)) | (apply Reads.own; (focus (repeat (first | exact List.Mem.head _ | apply List.Mem.tail)); done)) | (apply Reads.rx; (focus (repeat (first | exact List.Mem.head _ | apply List.Mem.tail)); done)) | (apply Reads.rows (e := false); (focus (repeat (first | exact List.Mem.head _ | apply List.Mem.tail)); done)) | (apply Reads.rows (e := true); (focus (repeat (first | exact List.Mem.head _ | apply List.Mem.tail)); done))))) (fun _ r => (by repeat (first | exact Takes.nil | exact Take.here | apply Takes.cons | apply Take.there))) ?_
      rintro _ rfl
      refine WA.takeG (i := 10) rfl (by kernel_rfl) (fun _ _ _ h => h) rfl rfl rfl (op_eqlb (by decide) rfl rfl Try.underlying4) (by repeat (first | exact Takes.nil | exact Take.here | apply Takes.cons | apply Take.there)) ?_
      refine WA.take (i := 11) rfl (by kernel_rfl) (fun _ _ _ h => h) rfl (op_pickT (by decide) rfl rfl) (by repeat (first | exact Takes.nil | exact Take.here | apply Takes.cons | apply Take.there)) ?_
      refine WA.take (i := 12) rfl (by kernel_rfl) (fun _ _ _ h => h) rfl (op_move (by decide) rfl) (by repeat (first | exact Takes.nil | exact Take.here | apply Takes.cons | apply Take.there)) ?_
      refine WA.splitb (t := 40) rfl (fun g40 => ?_) (fun g40 => ?_)
      ·
        refine WA.takeG (i := 13) rfl (by kernel_rfl) (fun _ _ _ h => h) rfl rfl rfl (op_loadAll ag50 (by decide) rfl (by repeat (first | exact List.Mem.head _ | apply List.Mem.tail)) (by first | rfl | (simp [Value.cells]; done) | (simp [Value.cells]; omega))) (by repeat (first | exact Takes.nil | exact Take.here | apply Takes.cons | apply Take.there)) ?_
        refine WA.takeG (i := 14) rfl (by kernel_rfl) (fun _ _ _ h => h) rfl rfl rfl (op_loadAll ag50 (by decide) rfl (by repeat (first | exact List.Mem.head _ | apply List.Mem.tail)) (by first | rfl | (simp [Value.cells]; done) | (simp [Value.cells]; omega))) (by repeat (first | exact Takes.nil | exact Take.here | apply Takes.cons | apply Take.there)) ?_
        refine WA.stepGx (i := 15) (by kernel_rfl) rfl rfl rfl rfl (op_call (f43_spec k g n k g n Ax Ax (min m 2000) cx (min m 2000) cx (bs.take 2000) (bs.take 2000)) ca43 (by decide) rfl (by apply Give.mk; (repeat (first | exact Takes.nil | exact Take.here | apply Takes.cons | apply Take.there)); repeat (first | exact Reads.nil | (apply Reads.rd; (focus (repeat (first | exact List.Mem.head _ | apply List.Mem.tail)); done)) | (apply Reads.own; (focus (repeat (first | exact List.Mem.head _ | apply List.Mem.tail)); done)) | (apply Reads.rx; (focus (repeat (first | exact List.Mem.head _ | apply List.Mem.tail)); done)) | (apply Reads.rows (e := false); (focus (repeat (first | exact List.Mem.head _ | apply List.Mem.tail)); done)) | (apply Reads.rows (e := true); (focus (repeat (first | exact List.Mem.head _ | apply List.Mem.tail)); done))))) (fun _ r => (by repeat (first | exact Takes.nil | exact Take.here | apply Takes.cons | apply Take.there))) ?_
        rintro _ rfl
        refine WA.take (i := 16) rfl (by kernel_rfl) (fun _ _ _ h => h) rfl (op_pickT (by decide) rfl rfl) (by repeat (first | exact Takes.nil | exact Take.here | apply Takes.cons | apply Take.there)) ?_
        refine WA.take (i := 17) rfl (by kernel_rfl) (fun _ _ _ h => h) rfl (op_move (by decide) rfl) (by repeat (first | exact Takes.nil | exact Take.here | apply Takes.cons | apply Take.there)) ?_
        refine WA.split (t := 45) rfl (fun g45 => ?_) (fun g45 => ?_)
        ·
          refine WA.takeG (i := 18) rfl (by kernel_rfl) (fun _ _ _ h => h) rfl rfl rfl (op_move (by decide) rfl) (by repeat (first | exact Takes.nil | exact Take.here | apply Takes.cons | apply Take.there)) ?_
          refine WA.take (i := 19) rfl (by kernel_rfl) (fun _ _ _ h => h) rfl (op_pickT (by decide) rfl rfl) (by repeat (first | exact Takes.nil | exact Take.here | apply Takes.cons | apply Take.there)) ?_
          refine WA.take (i := 20) rfl (by kernel_rfl) (fun _ _ _ h => h) rfl (op_move (by decide) rfl) (by repeat (first | exact Takes.nil | exact Take.here | apply Takes.cons | apply Take.there)) ?_
          refine WA.splitb (t := 48) rfl (fun g48 => ?_) (fun g48 => ?_)
          ·
            refine WA.takeG (i := 21) rfl (by kernel_rfl) (fun _ _ _ h => h) rfl rfl rfl (op_move (by decide) rfl) (by repeat (first | exact Takes.nil | exact Take.here | apply Takes.cons | apply Take.there)) ?_
            refine WA.takeG (i := 23) rfl (by kernel_rfl) (fun _ _ _ h => h) rfl rfl rfl (op_move (by decide) rfl) (by repeat (first | exact Takes.nil | exact Take.here | apply Takes.cons | apply Take.there)) ?_
            refine WA.takeG (i := 24) rfl (by kernel_rfl) (fun _ _ _ h => h) rfl rfl rfl (op_len Try.underlying22 (by decide) rfl) (by repeat (first | exact Takes.nil | exact Take.here | apply Takes.cons | apply Take.there)) ?_
            refine WA.takeG (i := 25) rfl (by kernel_rfl) (fun _ _ _ h => h) rfl rfl rfl (op_eql (by decide) rfl rfl) (by repeat (first | exact Takes.nil | exact Take.here | apply Takes.cons | apply Take.there)) ?_
            refine WA.stepGx (i := 22) (by kernel_rfl) rfl rfl rfl rfl (op_call (f42_spec (some ⟨b3, 0, none⟩) zeros.toNat zeros.toNat cs hcs) ca42 (by decide) rfl (by apply Give.mk; (repeat (first | exact Takes.nil | exact Take.here | apply Takes.cons | apply Take.there)); repeat (first | exact Reads.nil | (apply Reads.rd; (focus (repeat (first | exact List.Mem.head _ | apply List.Mem.tail)); done)) | (apply Reads.own; (focus (repeat (first | exact List.Mem.head _ | apply List.Mem.tail)); done)) | (apply Reads.rx; (focus (repeat (first | exact List.Mem.head _ | apply List.Mem.tail)); done)) | (apply Reads.rows (e := false); (focus (repeat (first | exact List.Mem.head _ | apply List.Mem.tail)); done)) | (apply Reads.rows (e := true); (focus (repeat (first | exact List.Mem.head _ | apply List.Mem.tail)); done))))) (fun _ r => (by repeat (first | exact Takes.nil | exact Take.here | apply Takes.cons | apply Take.there))) ?_
            rintro _ rfl
            refine WA.takeG (i := 26) rfl (by kernel_rfl) (fun _ _ _ h => h) rfl rfl rfl (op_eqlb (by decide) rfl rfl Try.underlying4) (by repeat (first | exact Takes.nil | exact Take.here | apply Takes.cons | apply Take.there)) ?_
            refine WA.take (i := 27) rfl (by kernel_rfl) (fun _ _ _ h => h) rfl (op_pickT (by decide) rfl rfl) (by repeat (first | exact Takes.nil | exact Take.here | apply Takes.cons | apply Take.there)) ?_
            refine WA.take (i := 28) rfl (by kernel_rfl) (fun _ _ _ h => h) rfl (op_assign (by decide) rfl) (by repeat (first | exact Takes.nil | exact Take.here | apply Takes.cons | apply Take.there)) ?_
            refine WA.done (by kernel_rfl) ?_
            refine WX.regs (L' := [(6, _)]) (by repeat (first | exact RS.nil | refine RS.cons rfl ?_)) ?_
            refine WX.next ?_
            refine WC.ret ?_
            exact Fin.ret1 (by first | exact .inl rfl | exact .inr rfl) (_) (by rw [hcb]; simp) Try.results13 (.tmp rfl) (by repeat (first | exact Takes.nil | exact Take.here | apply Takes.cons | apply Take.there)) (by simp)
          ·
            exact absurd (blank_rep zeros.toNat) (by rw [g48]; decide)
        ·
          exact absurd ⟨rfl, rfl, rfl, rfl⟩ g45
      ·
        exact absurd g40 (by simp)
  have st11111000 : ∀ (Ax : Option Addr) (cx : Nat) (Ay : Option Addr) (cy : Nat) (bx : Nat), W 3 #[true, true, true, true, true, false, false, false] 56 [(2, bv zeros), (7, .pointer (some ⟨bx, 0, none⟩)), (12, .agg #[.int .i64 k, .int .i64 g, .int .i64 n, .slice Ax (min m 2000) cx]), (14, .agg #[.int .i64 k2, .int .i64 g2, .int .i64 n2, .slice Ay (min m2 2000) cy])] [blk bx [.int .i64 0, .int .i64 0, .int .i64 0, .slice none 0 0] 50, own (.slice Ay (min m2 2000) cy) 5 1 (min m2 2000) (bvs (bs2.take 2000)), own (.slice Ax (min m 2000) cx) 5 1 (min m 2000) (bvs (bs.take 2000)), blk b1 [.int .i64 k, .int .i64 g, .int .i64 n, .slice A m c] 49, blk b2 [.int .i64 k2, .int .i64 g2, .int .i64 n2, .slice B m2 c2] 49, rd (.slice A m c) 1 m (bvs bs), rd (.slice B m2 c2) 1 m2 (bvs bs2), frameC w0 (MutF [])] := by
    intro Ax cx Ay cy bx
    subst hW
    refine WA.pick (l := [5]) (by kernel_rfl) rfl (fun i hi => ?_)
    simp only [List.mem_cons, List.not_mem_nil, or_false] at hi
    subst hi
    ·
      refine WA.one1 rfl rfl (op_alloc ti50 (by decide)) (fun _ b => (by repeat (first | exact Takes.nil | exact Take.here | apply Takes.cons | apply Take.there))) fun by_ => ?_
      exact WA.conv (by first | rfl | kernel_rfl) (by repeat (first | exact RS.nil | refine RS.cons rfl ?_)) (by repeat (first | exact Takes.nil | exact Take.here | apply Takes.cons | apply Take.there)) (st11111100 Ax cx Ay cy bx by_)
  have st11110100 : ∀ (Ax : Option Addr) (cx : Nat) (Ay : Option Addr) (cy : Nat) (by_ : Nat), W 3 #[true, true, true, true, false, true, false, false] 56 [(2, bv zeros), (8, .pointer (some ⟨by_, 0, none⟩)), (12, .agg #[.int .i64 k, .int .i64 g, .int .i64 n, .slice Ax (min m 2000) cx]), (14, .agg #[.int .i64 k2, .int .i64 g2, .int .i64 n2, .slice Ay (min m2 2000) cy])] [blk by_ [.int .i64 0, .int .i64 0, .int .i64 0, .slice none 0 0] 50, own (.slice Ay (min m2 2000) cy) 5 1 (min m2 2000) (bvs (bs2.take 2000)), own (.slice Ax (min m 2000) cx) 5 1 (min m 2000) (bvs (bs.take 2000)), blk b1 [.int .i64 k, .int .i64 g, .int .i64 n, .slice A m c] 49, blk b2 [.int .i64 k2, .int .i64 g2, .int .i64 n2, .slice B m2 c2] 49, rd (.slice A m c) 1 m (bvs bs), rd (.slice B m2 c2) 1 m2 (bvs bs2), frameC w0 (MutF [])] := by
    intro Ax cx Ay cy by_
    subst hW
    refine WA.pick (l := [4]) (by kernel_rfl) rfl (fun i hi => ?_)
    simp only [List.mem_cons, List.not_mem_nil, or_false] at hi
    subst hi
    ·
      refine WA.one1 rfl rfl (op_alloc ti50 (by decide)) (fun _ b => (by repeat (first | exact Takes.nil | exact Take.here | apply Takes.cons | apply Take.there))) fun bx => ?_
      exact WA.conv (by first | rfl | kernel_rfl) (by repeat (first | exact RS.nil | refine RS.cons rfl ?_)) (by repeat (first | exact Takes.nil | exact Take.here | apply Takes.cons | apply Take.there)) (st11111100 Ax cx Ay cy bx by_)
  have st11110000 : ∀ (Ax : Option Addr) (cx : Nat) (Ay : Option Addr) (cy : Nat), W 4 #[true, true, true, true, false, false, false, false] 56 [(2, bv zeros), (12, .agg #[.int .i64 k, .int .i64 g, .int .i64 n, .slice Ax (min m 2000) cx]), (14, .agg #[.int .i64 k2, .int .i64 g2, .int .i64 n2, .slice Ay (min m2 2000) cy])] [own (.slice Ay (min m2 2000) cy) 5 1 (min m2 2000) (bvs (bs2.take 2000)), own (.slice Ax (min m 2000) cx) 5 1 (min m 2000) (bvs (bs.take 2000)), blk b1 [.int .i64 k, .int .i64 g, .int .i64 n, .slice A m c] 49, blk b2 [.int .i64 k2, .int .i64 g2, .int .i64 n2, .slice B m2 c2] 49, rd (.slice A m c) 1 m (bvs bs), rd (.slice B m2 c2) 1 m2 (bvs bs2), frameC w0 (MutF [])] := by
    intro Ax cx Ay cy
    subst hW
    refine WA.pick (l := [4, 5]) (by kernel_rfl) rfl (fun i hi => ?_)
    simp only [List.mem_cons, List.not_mem_nil, or_false] at hi
    rcases hi with rfl | rfl
    ·
      refine WA.one1 rfl rfl (op_alloc ti50 (by decide)) (fun _ b => (by repeat (first | exact Takes.nil | exact Take.here | apply Takes.cons | apply Take.there))) fun bx => ?_
      exact WA.conv (by first | rfl | kernel_rfl) (by repeat (first | exact RS.nil | refine RS.cons rfl ?_)) (by repeat (first | exact Takes.nil | exact Take.here | apply Takes.cons | apply Take.there)) (st11111000 Ax cx Ay cy bx)
    ·
      refine WA.one1 rfl rfl (op_alloc ti50 (by decide)) (fun _ b => (by repeat (first | exact Takes.nil | exact Take.here | apply Takes.cons | apply Take.there))) fun by_ => ?_
      exact WA.conv (by first | rfl | kernel_rfl) (by repeat (first | exact RS.nil | refine RS.cons rfl ?_)) (by repeat (first | exact Takes.nil | exact Take.here | apply Takes.cons | apply Take.there)) (st11110100 Ax cx Ay cy by_)
  have st11101100 : ∀ (Ax : Option Addr) (cx : Nat) (bx : Nat) (by_ : Nat), W 3 #[true, true, true, false, true, true, false, false] 56 [(2, bv zeros), (7, .pointer (some ⟨bx, 0, none⟩)), (8, .pointer (some ⟨by_, 0, none⟩)), (12, .agg #[.int .i64 k, .int .i64 g, .int .i64 n, .slice Ax (min m 2000) cx]), (13, .agg #[.int .i64 k2, .int .i64 g2, .int .i64 n2, .slice B m2 c2])] [blk by_ [.int .i64 0, .int .i64 0, .int .i64 0, .slice none 0 0] 50, blk bx [.int .i64 0, .int .i64 0, .int .i64 0, .slice none 0 0] 50, own (.slice Ax (min m 2000) cx) 5 1 (min m 2000) (bvs (bs.take 2000)), blk b1 [.int .i64 k, .int .i64 g, .int .i64 n, .slice A m c] 49, blk b2 [.int .i64 k2, .int .i64 g2, .int .i64 n2, .slice B m2 c2] 49, rd (.slice A m c) 1 m (bvs bs), rd (.slice B m2 c2) 1 m2 (bvs bs2), frameC w0 (MutF [])] := by
    intro Ax cx bx by_
    subst hW
    refine WA.pick (l := [3]) (by kernel_rfl) rfl (fun i hi => ?_)
    simp only [List.mem_cons, List.not_mem_nil, or_false] at hi
    subst hi
    ·
      refine WA.onex rfl rfl (op_call (f27_spec k2 g2 n2 B m2 c2 bs2 hm2) ca27 (by decide) rfl (by apply Give.mk; (repeat (first | exact Takes.nil | exact Take.here | apply Takes.cons | apply Take.there)); repeat (first | exact Reads.nil | (apply Reads.rd; (focus (repeat (first | exact List.Mem.head _ | apply List.Mem.tail)); done)) | (apply Reads.own; (focus (repeat (first | exact List.Mem.head _ | apply List.Mem.tail)); done)) | (apply Reads.rx; (focus (repeat (first | exact List.Mem.head _ | apply List.Mem.tail)); done)) | (apply Reads.rows (e := false); (focus (repeat (first | exact List.Mem.head _ | apply List.Mem.tail)); done)) | (apply Reads.rows (e := true); (focus (repeat (first | exact List.Mem.head _ | apply List.Mem.tail)); done))))) (fun _ r => (by repeat (first | exact Takes.nil | exact Take.here | apply Takes.cons | apply Take.there))) ?_
      rintro ⟨Ay, cy⟩ _
      exact WA.conv (by first | rfl | kernel_rfl) (by repeat (first | exact RS.nil | refine RS.cons rfl ?_)) (by repeat (first | exact Takes.nil | exact Take.here | apply Takes.cons | apply Take.there)) (st11111100 Ax cx Ay cy bx by_)
  have st11101000 : ∀ (Ax : Option Addr) (cx : Nat) (bx : Nat), W 4 #[true, true, true, false, true, false, false, false] 56 [(2, bv zeros), (7, .pointer (some ⟨bx, 0, none⟩)), (12, .agg #[.int .i64 k, .int .i64 g, .int .i64 n, .slice Ax (min m 2000) cx]), (13, .agg #[.int .i64 k2, .int .i64 g2, .int .i64 n2, .slice B m2 c2])] [blk bx [.int .i64 0, .int .i64 0, .int .i64 0, .slice none 0 0] 50, own (.slice Ax (min m 2000) cx) 5 1 (min m 2000) (bvs (bs.take 2000)), blk b1 [.int .i64 k, .int .i64 g, .int .i64 n, .slice A m c] 49, blk b2 [.int .i64 k2, .int .i64 g2, .int .i64 n2, .slice B m2 c2] 49, rd (.slice A m c) 1 m (bvs bs), rd (.slice B m2 c2) 1 m2 (bvs bs2), frameC w0 (MutF [])] := by
    intro Ax cx bx
    subst hW
    refine WA.pick (l := [3, 5]) (by kernel_rfl) rfl (fun i hi => ?_)
    simp only [List.mem_cons, List.not_mem_nil, or_false] at hi
    rcases hi with rfl | rfl
    ·
      refine WA.onex rfl rfl (op_call (f27_spec k2 g2 n2 B m2 c2 bs2 hm2) ca27 (by decide) rfl (by apply Give.mk; (repeat (first | exact Takes.nil | exact Take.here | apply Takes.cons | apply Take.there)); repeat (first | exact Reads.nil | (apply Reads.rd; (focus (repeat (first | exact List.Mem.head _ | apply List.Mem.tail)); done)) | (apply Reads.own; (focus (repeat (first | exact List.Mem.head _ | apply List.Mem.tail)); done)) | (apply Reads.rx; (focus (repeat (first | exact List.Mem.head _ | apply List.Mem.tail)); done)) | (apply Reads.rows (e := false); (focus (repeat (first | exact List.Mem.head _ | apply List.Mem.tail)); done)) | (apply Reads.rows (e := true); (focus (repeat (first | exact List.Mem.head _ | apply List.Mem.tail)); done))))) (fun _ r => (by repeat (first | exact Takes.nil | exact Take.here | apply Takes.cons | apply Take.there))) ?_
      rintro ⟨Ay, cy⟩ _
      exact WA.conv (by first | rfl | kernel_rfl) (by repeat (first | exact RS.nil | refine RS.cons rfl ?_)) (by repeat (first | exact Takes.nil | exact Take.here | apply Takes.cons | apply Take.there)) (st11111000 Ax cx Ay cy bx)
    ·
      refine WA.one1 rfl rfl (op_alloc ti50 (by decide)) (fun _ b => (by repeat (first | exact Takes.nil | exact Take.here | apply Takes.cons | apply Take.there))) fun by_ => ?_
      exact WA.conv (by first | rfl | kernel_rfl) (by repeat (first | exact RS.nil | refine RS.cons rfl ?_)) (by repeat (first | exact Takes.nil | exact Take.here | apply Takes.cons | apply Take.there)) (st11101100 Ax cx bx by_)
  have st11100100 : ∀ (Ax : Option Addr) (cx : Nat) (by_ : Nat), W 4 #[true, true, true, false, false, true, false, false] 56 [(2, bv zeros), (8, .pointer (some ⟨by_, 0, none⟩)), (12, .agg #[.int .i64 k, .int .i64 g, .int .i64 n, .slice Ax (min m 2000) cx]), (13, .agg #[.int .i64 k2, .int .i64 g2, .int .i64 n2, .slice B m2 c2])] [blk by_ [.int .i64 0, .int .i64 0, .int .i64 0, .slice none 0 0] 50, own (.slice Ax (min m 2000) cx) 5 1 (min m 2000) (bvs (bs.take 2000)), blk b1 [.int .i64 k, .int .i64 g, .int .i64 n, .slice A m c] 49, blk b2 [.int .i64 k2, .int .i64 g2, .int .i64 n2, .slice B m2 c2] 49, rd (.slice A m c) 1 m (bvs bs), rd (.slice B m2 c2) 1 m2 (bvs bs2), frameC w0 (MutF [])] := by
    intro Ax cx by_
    subst hW
    refine WA.pick (l := [3, 4]) (by kernel_rfl) rfl (fun i hi => ?_)
    simp only [List.mem_cons, List.not_mem_nil, or_false] at hi
    rcases hi with rfl | rfl
    ·
      refine WA.onex rfl rfl (op_call (f27_spec k2 g2 n2 B m2 c2 bs2 hm2) ca27 (by decide) rfl (by apply Give.mk; (repeat (first | exact Takes.nil | exact Take.here | apply Takes.cons | apply Take.there)); repeat (first | exact Reads.nil | (apply Reads.rd; (focus (repeat (first | exact List.Mem.head _ | apply List.Mem.tail)); done)) | (apply Reads.own; (focus (repeat (first | exact List.Mem.head _ | apply List.Mem.tail)); done)) | (apply Reads.rx; (focus (repeat (first | exact List.Mem.head _ | apply List.Mem.tail)); done)) | (apply Reads.rows (e := false); (focus (repeat (first | exact List.Mem.head _ | apply List.Mem.tail)); done)) | (apply Reads.rows (e := true); (focus (repeat (first | exact List.Mem.head _ | apply List.Mem.tail)); done))))) (fun _ r => (by repeat (first | exact Takes.nil | exact Take.here | apply Takes.cons | apply Take.there))) ?_
      rintro ⟨Ay, cy⟩ _
      exact WA.conv (by first | rfl | kernel_rfl) (by repeat (first | exact RS.nil | refine RS.cons rfl ?_)) (by repeat (first | exact Takes.nil | exact Take.here | apply Takes.cons | apply Take.there)) (st11110100 Ax cx Ay cy by_)
    ·
      refine WA.one1 rfl rfl (op_alloc ti50 (by decide)) (fun _ b => (by repeat (first | exact Takes.nil | exact Take.here | apply Takes.cons | apply Take.there))) fun bx => ?_
      exact WA.conv (by first | rfl | kernel_rfl) (by repeat (first | exact RS.nil | refine RS.cons rfl ?_)) (by repeat (first | exact Takes.nil | exact Take.here | apply Takes.cons | apply Take.there)) (st11101100 Ax cx bx by_)
  have st11100000 : ∀ (Ax : Option Addr) (cx : Nat), W 5 #[true, true, true, false, false, false, false, false] 56 [(2, bv zeros), (12, .agg #[.int .i64 k, .int .i64 g, .int .i64 n, .slice Ax (min m 2000) cx]), (13, .agg #[.int .i64 k2, .int .i64 g2, .int .i64 n2, .slice B m2 c2])] [own (.slice Ax (min m 2000) cx) 5 1 (min m 2000) (bvs (bs.take 2000)), blk b1 [.int .i64 k, .int .i64 g, .int .i64 n, .slice A m c] 49, blk b2 [.int .i64 k2, .int .i64 g2, .int .i64 n2, .slice B m2 c2] 49, rd (.slice A m c) 1 m (bvs bs), rd (.slice B m2 c2) 1 m2 (bvs bs2), frameC w0 (MutF [])] := by
    intro Ax cx
    subst hW
    refine WA.pick (l := [3, 4, 5]) (by kernel_rfl) rfl (fun i hi => ?_)
    simp only [List.mem_cons, List.not_mem_nil, or_false] at hi
    rcases hi with rfl | rfl | rfl
    ·
      refine WA.onex rfl rfl (op_call (f27_spec k2 g2 n2 B m2 c2 bs2 hm2) ca27 (by decide) rfl (by apply Give.mk; (repeat (first | exact Takes.nil | exact Take.here | apply Takes.cons | apply Take.there)); repeat (first | exact Reads.nil | (apply Reads.rd; (focus (repeat (first | exact List.Mem.head _ | apply List.Mem.tail)); done)) | (apply Reads.own; (focus (repeat (first | exact List.Mem.head _ | apply List.Mem.tail)); done)) | (apply Reads.rx; (focus (repeat (first | exact List.Mem.head _ | apply List.Mem.tail)); done)) | (apply Reads.rows (e := false); (focus (repeat (first | exact List.Mem.head _ | apply List.Mem.tail)); done)) | (apply Reads.rows (e := true); (focus (repeat (first | exact List.Mem.head _ | apply List.Mem.tail)); done))))) (fun _ r => (by repeat (first | exact Takes.nil | exact Take.here | apply Takes.cons | apply Take.there))) ?_
      rintro ⟨Ay, cy⟩ _
      exact WA.conv (by first | rfl | kernel_rfl) (by repeat (first | exact RS.nil | refine RS.cons rfl ?_)) (by repeat (first | exact Takes.nil | exact Take.here | apply Takes.cons | apply Take.there)) (st11110000 Ax cx Ay cy)
    ·
      refine WA.one1 rfl rfl (op_alloc ti50 (by decide)) (fun _ b => (by repeat (first | exact Takes.nil | exact Take.here | apply Takes.cons | apply Take.there))) fun bx => ?_
      exact WA.conv (by first | rfl | kernel_rfl) (by repeat (first | exact RS.nil | refine RS.cons rfl ?_)) (by repeat (first | exact Takes.nil | exact Take.here | apply Takes.cons | apply Take.there)) (st11101000 Ax cx bx)
    ·
      refine WA.one1 rfl rfl (op_alloc ti50 (by decide)) (fun _ b => (by repeat (first | exact Takes.nil | exact Take.here | apply Takes.cons | apply Take.there))) fun by_ => ?_
      exact WA.conv (by first | rfl | kernel_rfl) (by repeat (first | exact RS.nil | refine RS.cons rfl ?_)) (by repeat (first | exact Takes.nil | exact Take.here | apply Takes.cons | apply Take.there)) (st11100100 Ax cx by_)
  have st10101100 : ∀ (bx : Nat) (by_ : Nat), W 4 #[true, false, true, false, true, true, false, false] 56 [(2, bv zeros), (7, .pointer (some ⟨bx, 0, none⟩)), (8, .pointer (some ⟨by_, 0, none⟩)), (11, .agg #[.int .i64 k, .int .i64 g, .int .i64 n, .slice A m c]), (13, .agg #[.int .i64 k2, .int .i64 g2, .int .i64 n2, .slice B m2 c2])] [blk by_ [.int .i64 0, .int .i64 0, .int .i64 0, .slice none 0 0] 50, blk bx [.int .i64 0, .int .i64 0, .int .i64 0, .slice none 0 0] 50, blk b1 [.int .i64 k, .int .i64 g, .int .i64 n, .slice A m c] 49, blk b2 [.int .i64 k2, .int .i64 g2, .int .i64 n2, .slice B m2 c2] 49, rd (.slice A m c) 1 m (bvs bs), rd (.slice B m2 c2) 1 m2 (bvs bs2), frameC w0 (MutF [])] := by
    intro bx by_
    subst hW
    refine WA.pick (l := [1]) (by kernel_rfl) rfl (fun i hi => ?_)
    simp only [List.mem_cons, List.not_mem_nil, or_false] at hi
    subst hi
    ·
      refine WA.onex rfl rfl (op_call (f27_spec k g n A m c bs hm) ca27 (by decide) rfl (by apply Give.mk; (repeat (first | exact Takes.nil | exact Take.here | apply Takes.cons | apply Take.there)); repeat (first | exact Reads.nil | (apply Reads.rd; (focus (repeat (first | exact List.Mem.head _ | apply List.Mem.tail)); done)) | (apply Reads.own; (focus (repeat (first | exact List.Mem.head _ | apply List.Mem.tail)); done)) | (apply Reads.rx; (focus (repeat (first | exact List.Mem.head _ | apply List.Mem.tail)); done)) | (apply Reads.rows (e := false); (focus (repeat (first | exact List.Mem.head _ | apply List.Mem.tail)); done)) | (apply Reads.rows (e := true); (focus (repeat (first | exact List.Mem.head _ | apply List.Mem.tail)); done))))) (fun _ r => (by repeat (first | exact Takes.nil | exact Take.here | apply Takes.cons | apply Take.there))) ?_
      rintro ⟨Ax, cx⟩ _
      exact WA.conv (by first | rfl | kernel_rfl) (by repeat (first | exact RS.nil | refine RS.cons rfl ?_)) (by repeat (first | exact Takes.nil | exact Take.here | apply Takes.cons | apply Take.there)) (st11101100 Ax cx bx by_)
  have st10101000 : ∀ (bx : Nat), W 5 #[true, false, true, false, true, false, false, false] 56 [(2, bv zeros), (7, .pointer (some ⟨bx, 0, none⟩)), (11, .agg #[.int .i64 k, .int .i64 g, .int .i64 n, .slice A m c]), (13, .agg #[.int .i64 k2, .int .i64 g2, .int .i64 n2, .slice B m2 c2])] [blk bx [.int .i64 0, .int .i64 0, .int .i64 0, .slice none 0 0] 50, blk b1 [.int .i64 k, .int .i64 g, .int .i64 n, .slice A m c] 49, blk b2 [.int .i64 k2, .int .i64 g2, .int .i64 n2, .slice B m2 c2] 49, rd (.slice A m c) 1 m (bvs bs), rd (.slice B m2 c2) 1 m2 (bvs bs2), frameC w0 (MutF [])] := by
    intro bx
    subst hW
    refine WA.pick (l := [1, 5]) (by kernel_rfl) rfl (fun i hi => ?_)
    simp only [List.mem_cons, List.not_mem_nil, or_false] at hi
    rcases hi with rfl | rfl
    ·
      refine WA.onex rfl rfl (op_call (f27_spec k g n A m c bs hm) ca27 (by decide) rfl (by apply Give.mk; (repeat (first | exact Takes.nil | exact Take.here | apply Takes.cons | apply Take.there)); repeat (first | exact Reads.nil | (apply Reads.rd; (focus (repeat (first | exact List.Mem.head _ | apply List.Mem.tail)); done)) | (apply Reads.own; (focus (repeat (first | exact List.Mem.head _ | apply List.Mem.tail)); done)) | (apply Reads.rx; (focus (repeat (first | exact List.Mem.head _ | apply List.Mem.tail)); done)) | (apply Reads.rows (e := false); (focus (repeat (first | exact List.Mem.head _ | apply List.Mem.tail)); done)) | (apply Reads.rows (e := true); (focus (repeat (first | exact List.Mem.head _ | apply List.Mem.tail)); done))))) (fun _ r => (by repeat (first | exact Takes.nil | exact Take.here | apply Takes.cons | apply Take.there))) ?_
      rintro ⟨Ax, cx⟩ _
      exact WA.conv (by first | rfl | kernel_rfl) (by repeat (first | exact RS.nil | refine RS.cons rfl ?_)) (by repeat (first | exact Takes.nil | exact Take.here | apply Takes.cons | apply Take.there)) (st11101000 Ax cx bx)
    ·
      refine WA.one1 rfl rfl (op_alloc ti50 (by decide)) (fun _ b => (by repeat (first | exact Takes.nil | exact Take.here | apply Takes.cons | apply Take.there))) fun by_ => ?_
      exact WA.conv (by first | rfl | kernel_rfl) (by repeat (first | exact RS.nil | refine RS.cons rfl ?_)) (by repeat (first | exact Takes.nil | exact Take.here | apply Takes.cons | apply Take.there)) (st10101100 bx by_)
  have st10100100 : ∀ (by_ : Nat), W 5 #[true, false, true, false, false, true, false, false] 56 [(2, bv zeros), (8, .pointer (some ⟨by_, 0, none⟩)), (11, .agg #[.int .i64 k, .int .i64 g, .int .i64 n, .slice A m c]), (13, .agg #[.int .i64 k2, .int .i64 g2, .int .i64 n2, .slice B m2 c2])] [blk by_ [.int .i64 0, .int .i64 0, .int .i64 0, .slice none 0 0] 50, blk b1 [.int .i64 k, .int .i64 g, .int .i64 n, .slice A m c] 49, blk b2 [.int .i64 k2, .int .i64 g2, .int .i64 n2, .slice B m2 c2] 49, rd (.slice A m c) 1 m (bvs bs), rd (.slice B m2 c2) 1 m2 (bvs bs2), frameC w0 (MutF [])] := by
    intro by_
    subst hW
    refine WA.pick (l := [1, 4]) (by kernel_rfl) rfl (fun i hi => ?_)
    simp only [List.mem_cons, List.not_mem_nil, or_false] at hi
    rcases hi with rfl | rfl
    ·
      refine WA.onex rfl rfl (op_call (f27_spec k g n A m c bs hm) ca27 (by decide) rfl (by apply Give.mk; (repeat (first | exact Takes.nil | exact Take.here | apply Takes.cons | apply Take.there)); repeat (first | exact Reads.nil | (apply Reads.rd; (focus (repeat (first | exact List.Mem.head _ | apply List.Mem.tail)); done)) | (apply Reads.own; (focus (repeat (first | exact List.Mem.head _ | apply List.Mem.tail)); done)) | (apply Reads.rx; (focus (repeat (first | exact List.Mem.head _ | apply List.Mem.tail)); done)) | (apply Reads.rows (e := false); (focus (repeat (first | exact List.Mem.head _ | apply List.Mem.tail)); done)) | (apply Reads.rows (e := true); (focus (repeat (first | exact List.Mem.head _ | apply List.Mem.tail)); done))))) (fun _ r => (by repeat (first | exact Takes.nil | exact Take.here | apply Takes.cons | apply Take.there))) ?_
      rintro ⟨Ax, cx⟩ _
      exact WA.conv (by first | rfl | kernel_rfl) (by repeat (first | exact RS.nil | refine RS.cons rfl ?_)) (by repeat (first | exact Takes.nil | exact Take.here | apply Takes.cons | apply Take.there)) (st11100100 Ax cx by_)
    ·
      refine WA.one1 rfl rfl (op_alloc ti50 (by decide)) (fun _ b => (by repeat (first | exact Takes.nil | exact Take.here | apply Takes.cons | apply Take.there))) fun bx => ?_
      exact WA.conv (by first | rfl | kernel_rfl) (by repeat (first | exact RS.nil | refine RS.cons rfl ?_)) (by repeat (first | exact Takes.nil | exact Take.here | apply Takes.cons | apply Take.there)) (st10101100 bx by_)
  subst hW
  refine WA.pick (l := [1, 4, 5]) (by kernel_rfl) rfl (fun i hi => ?_)
  simp only [List.mem_cons, List.not_mem_nil, or_false] at hi
  rcases hi with rfl | rfl | rfl
  ·
    refine WA.onex rfl rfl (op_call (f27_spec k g n A m c bs hm) ca27 (by decide) rfl (by apply Give.mk; (repeat (first | exact Takes.nil | exact Take.here | apply Takes.cons | apply Take.there)); repeat (first | exact Reads.nil | (apply Reads.rd; (focus (repeat (first | exact List.Mem.head _ | apply List.Mem.tail)); done)) | (apply Reads.own; (focus (repeat (first | exact List.Mem.head _ | apply List.Mem.tail)); done)) | (apply Reads.rx; (focus (repeat (first | exact List.Mem.head _ | apply List.Mem.tail)); done)) | (apply Reads.rows (e := false); (focus (repeat (first | exact List.Mem.head _ | apply List.Mem.tail)); done)) | (apply Reads.rows (e := true); (focus (repeat (first | exact List.Mem.head _ | apply List.Mem.tail)); done))))) (fun _ r => (by repeat (first | exact Takes.nil | exact Take.here | apply Takes.cons | apply Take.there))) ?_
    rintro ⟨Ax, cx⟩ _
    exact WA.conv (by first | rfl | kernel_rfl) (by repeat (first | exact RS.nil | refine RS.cons rfl ?_)) (by repeat (first | exact Takes.nil | exact Take.here | apply Takes.cons | apply Take.there)) (st11100000 Ax cx)
  ·
    refine WA.one1 rfl rfl (op_alloc ti50 (by decide)) (fun _ b => (by repeat (first | exact Takes.nil | exact Take.here | apply Takes.cons | apply Take.there))) fun bx => ?_
    exact WA.conv (by first | rfl | kernel_rfl) (by repeat (first | exact RS.nil | refine RS.cons rfl ?_)) (by repeat (first | exact Takes.nil | exact Take.here | apply Takes.cons | apply Take.there)) (st10101000 bx)
  ·
    refine WA.one1 rfl rfl (op_alloc ti50 (by decide)) (fun _ b => (by repeat (first | exact Takes.nil | exact Take.here | apply Takes.cons | apply Take.there))) fun by_ => ?_
    exact WA.conv (by first | rfl | kernel_rfl) (by repeat (first | exact RS.nil | refine RS.cons rfl ?_)) (by repeat (first | exact Takes.nil | exact Take.here | apply Takes.cons | apply Take.there)) (st10100100 by_)
end Go.Proofs.Ythephcghglldaaa.Sx
