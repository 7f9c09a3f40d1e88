import Derived.Test.YthephcghglldaaaS11
set_option linter.unusedVariables false
set_option linter.unusedSimpArgs false
namespace Go.Proofs.Ythephcghglldaaa.Sx
open Go.RowKit Go.Proofs.Ythephcghglldaaa.Ty
attribute [local irreducible] blk own rd rx frameC

def z16 : List UInt8 := List.replicate 16 0
theorem z16_length : z16.length = 16 := rfl
theorem chk_ok {k g n i c : Int} {m : Nat} (h : chk k g n i c m = 0) : fineP k g n ∧ 1 ≤ c ∧ c ≤ 586 ∧ 0 ≤ i ∧ i < c ∧ m ≤ 224 := by
  unfold chk at h
  split at h
  · omega
  · split at h
    · omega
    · rename_i h1 h2
      simp only [fineP] at *
      omega
theorem fv_lt (k g n i c m : Nat) (j : Nat) (hk : k < 65536) (hg : g < 2147483648) (hn : n < 2147483648) (hi : i < 65536) (hc : c < 65536) (hm : m < 65536) : fv k g n i c m j < 2147483648 := by
  unfold fv
  split <;> omega
theorem fil_step (k g n i c m j r : Nat) (h : r < fz j) (hj : j < 6) :
    pset (bvs (fil (z16 ++ hp k g n i c m j ++ (be (fv k g n i c m j) (fz j)).take r))) (16 + (hp k g n i c m j).length + r) (bvs [UInt8.ofNat (((fv k g n i c m j : Nat) : Int) / ((2 ^ (8 * (((fz j : Nat) : Int) - 1 - (r : Int))).toNat : Nat) : Int)).toNat])
      = bvs (fil (z16 ++ hp k g n i c m j ++ (be (fv k g n i c m j) (fz j)).take (r + 1))) := by
  have hl := hp_len k g n i c m j (by omega)
  have hz := fz_le j
  have e1 : (8 * (((fz j : Nat) : Int) - 1 - (r : Int))).toNat = 8 * (fz j - 1 - r) := by omega
  have e2 : (2 : Nat) ^ (8 * (fz j - 1 - r)) = 256 ^ (fz j - 1 - r) := by rw [Nat.pow_mul]
  have e3 : (((fv k g n i c m j : Nat) : Int) / ((256 ^ (fz j - 1 - r) : Nat) : Int)).toNat = fv k g n i c m j / 256 ^ (fz j - 1 - r) := by rw [← Int.natCast_ediv]; exact Int.toNat_natCast _
  rw [e1, e2, e3, be_take _ _ _ h, ← List.append_assoc]
  refine fil_app _ [_] _ ?_ ?_
  · simp only [List.length_append, z16_length, List.length_take, be_length]; omega
  · simp only [List.length_singleton]; omega
theorem fil_drop (x : List UInt8) (h : x.length ≤ 240) : (fil (z16 ++ x)).drop 16 = sealR x := by
  unfold fil sealR
  have e : ∀ l : List UInt8, (z16 ++ l).drop 16 = l := fun l => rfl
  rw [List.append_assoc, e, List.take_of_length_le (by simp; omega), List.length_append, z16_length]
  congr 2
  omega
theorem fil_seal (x : List UInt8) (h : x.length ≤ 240) : pset (bvs (fil (z16 ++ x))) 0 (bvs ((sha (sealR x)).take 16)) = bvs (sealB x) := by
  rw [pset_bvs]
  have : 0 + ((sha (sealR x)).take 16).length = 16 := by simp [sha_length]
  rw [this, fil_drop x h]
  rfl
set_option maxHeartbeats 400000 in
set_option maxRecDepth 10000 in
theorem f17_spec (k g n i c : Int) (A : Option Addr) (m cap : Nat) (bs : List UInt8) (hm : bs.length = m) :
    Spec Try.prog 17 [.agg (pcells k g n i c (.slice A m cap)).toArray] [] [rd (.slice A m cap) 1 m (bvs bs)] (R := Option Addr × Nat × List UInt8 × Int × Nat)
      (fun q => q.2.2.1 = encP k g n i c bs ∧ q.2.2.2.1 = chk k g n i c m ∧ q.2.2.2.2 = q.2.2.1.length) (fun q => .tuple #[.slice q.1 q.2.2.2.2 q.2.1, .int .i64 q.2.2.2.1]) (fun q => [own (.slice q.1 q.2.2.2.2 q.2.1) 5 1 q.2.2.2.2 (bvs q.2.2.1)]) := by
  refine Spec.intro Try.func17 Try.ntmps17 rfl (by simp) (by simp) fun w0 => ?_
  refine WC.seq ?_
  refine WC.region ?_
  refine wl1 (op_box (by decide) rfl rfl) rfl fun b1 => ?_
  refine wlv (op_assign (by decide) rfl) rfl ?_
  refine wlv (op_assign (by decide) rfl) rfl ?_
  refine WL.nil ?_
  refine WX.regs (L' := [(1, _)]) (by repeat (first | exact RS.nil | refine RS.cons rfl ?_)) ?_
  refine WX.next ?_
  refine WC.seq ?_
  refine WC.seq ?_
  refine WC.region ?_
  refine wlv (op_loadAll ag25 (by decide) rfl (by repeat (first | exact List.Mem.head _ | apply List.Mem.tail)) (by first | rfl | (simp [Value.cells]; done) | (simp [Value.cells]; omega))) rfl ?_
  refine wlx (op_call (f19_spec k g n i c A m cap) ca19 (by decide) rfl (by apply Give.mk; (repeat (first | exact Takes.nil | exact Take.here | apply Takes.cons | apply Take.there)); repeat (first | exact Reads.nil | (apply Reads.rd; (focus (repeat (first | exact List.Mem.head _ | apply List.Mem.tail)); done)) | (apply Reads.own; (focus (repeat (first | exact List.Mem.head _ | apply List.Mem.tail)); done)) | (apply Reads.rx; (focus (repeat (first | exact List.Mem.head _ | apply List.Mem.tail)); done)) | (apply Reads.rows (e := false); (focus (repeat (first | exact List.Mem.head _ | apply List.Mem.tail)); done)) | (apply Reads.rows (e := true); (focus (repeat (first | exact List.Mem.head _ | apply List.Mem.tail)); done))))) rfl ?_
  rintro _ rfl
  refine wlv (op_assign (by decide) rfl) rfl ?_
  refine WL.nil ?_
  refine WX.regs (L' := [(1, _), (4, _)]) (by repeat (first | exact RS.nil | refine RS.cons rfl ?_)) ?_
  refine WX.next ?_
  refine WC.seq ?_
  refine WC.region ?_
  refine wlv (op_move (by decide) rfl) rfl ?_
  refine wlv (op_neq (by decide) rfl rfl) rfl ?_
  refine WL.nil ?_
  refine WX.regs (L' := [(1, _), (4, _), (14, _)]) (by repeat (first | exact RS.nil | refine RS.cons rfl ?_)) ?_
  refine WX.next ?_
  refine WC.cond rfl (fun h1 => ?_) (fun h1 => ?_)
  ·
    refine WC.seq ?_
    refine WC.region ?_
    refine wlv (op_move (by decide) rfl) rfl ?_
    refine wlv (op_assign (by decide) rfl) rfl ?_
    refine wlv (op_assign (by decide) rfl) rfl ?_
    refine WL.nil ?_
    refine WX.nilown 5 1 ?_
    refine WX.regs (L' := [(2, _), (3, _)]) (by repeat (first | exact RS.nil | refine RS.cons rfl ?_)) ?_
    refine WX.next ?_
    refine WC.ret ?_
    refine WX.then_ret ?_
    exact Fin.ret2 (by first | exact .inl rfl | exact .inr rfl) ((none, 0, [], chk k g n i c m, 0)) (⟨by unfold encP; rw [if_neg (by rw [hm]; exact h1)], rfl, rfl⟩) Try.results17 rfl (.tmp rfl) (.tmp rfl) (by repeat (first | exact Takes.nil | exact Take.here | apply Takes.cons | apply Take.there)) (by simp)
  ·
    have h0 : chk k g n i c m = 0 := by omega
    obtain ⟨hf, hc1, hc2, hi1, hi2, h224⟩ := chk_ok h0
    simp only [fineP] at hf
    obtain ⟨k, rfl⟩ := Int.eq_ofNat_of_zero_le hf.1
    obtain ⟨g, rfl⟩ := Int.eq_ofNat_of_zero_le hf.2.2.1
    obtain ⟨n, rfl⟩ := Int.eq_ofNat_of_zero_le hf.2.2.2.2.1
    obtain ⟨i, rfl⟩ := Int.eq_ofNat_of_zero_le hi1
    obtain ⟨c, rfl⟩ := Int.eq_ofNat_of_zero_le (by omega : 0 ≤ c)
    refine WC.skip ?_
    refine WX.next ?_
    refine WC.seq ?_
    refine WC.region ?_
    refine wlv (op_loadAll ag25 (by decide) rfl (by repeat (first | exact List.Mem.head _ | apply List.Mem.tail)) (by first | rfl | (simp [Value.cells]; done) | (simp [Value.cells]; omega))) rfl ?_
    refine wlv (op_fieldAddr fo25_5 (by decide) rfl) rfl ?_
    refine wlv (op_load1 fl22 (by decide) rfl (by repeat (first | exact List.Mem.head _ | apply List.Mem.tail)) rfl) rfl ?_
    refine wlv (op_len Try.underlying22 (by decide) rfl) rfl ?_
    refine wlv (op_build (cs := (hdc k g n i c (.slice A m cap) m)) (pv := [(0, _), (1, _)]) (by decide) rfl (by kernel_rfl)) rfl ?_
    refine wl1 (op_alloc ti93 (by decide)) rfl fun b2 => ?_
    refine wl (op_storeAll sz93 rfl rfl (by repeat (first | exact Take.here | apply Take.there)) (by first | rfl | (simp [Value.cells]; done) | (simp [Value.cells]; omega)) (by first | rfl | exact wvs_one _ | exact bvs_one _) (by first | rfl | (simp [Value.cells]; done) | (simp [Value.cells]; omega))) rfl ?_
    change WL _ _ _ _ _ _ _
    refine WL.nil ?_
    refine WX.regs (L' := [(1, _), (5, _)]) (by repeat (first | exact RS.nil | refine RS.cons rfl ?_)) ?_
    refine WX.next ?_
    refine WC.seq ?_
    refine WC.region ?_
    refine wl1 (op_make (z1 := (.int .u8 0)) (sz := 1) (zero := []) Try.underlying22 ti5 (by decide) rfl rfl (by omega) (by omega) (by omega) (by omega)) rfl fun b3 => ?_
    refine WL.blkEq (b := b3) (bvs (fil (z16 ++ hp k g n i c m 0))) (by repeat (first | exact Take.here | apply Take.there)) (by rfl) ?_
    refine wlv (op_assign (by decide) rfl) rfl ?_
    refine WL.nil ?_
    refine WX.regs (L' := [(1, _), (5, _), (6, _)]) (by repeat (first | exact RS.nil | refine RS.cons rfl ?_)) ?_
    refine WX.next ?_
    refine WC.seq ?_
    refine WC.seq ?_
    refine WC.region ?_
    refine wlx (op_call (f46_spec b2) ca46 (by decide) rfl (by apply Give.mk; (repeat (first | exact Takes.nil | exact Take.here | apply Takes.cons | apply Take.there)); repeat (first | exact Reads.nil | (apply Reads.rd; (focus (repeat (first | exact List.Mem.head _ | apply List.Mem.tail)); done)) | (apply Reads.own; (focus (repeat (first | exact List.Mem.head _ | apply List.Mem.tail)); done)) | (apply Reads.rx; (focus (repeat (first | exact List.Mem.head _ | apply List.Mem.tail)); done)) | (apply Reads.rows (e := false); (focus (repeat (first | exact List.Mem.head _ | apply List.Mem.tail)); done)) | (apply Reads.rows (e := true); (focus (repeat (first | exact List.Mem.head _ | apply List.Mem.tail)); done))))) rfl ?_
    rintro _ _
    refine wlv (op_move (by decide) rfl) rfl ?_
    refine WL.nil ?_
    refine WX.regs (L' := [(1, _), (6, _), (22, _), (23, _)]) (by repeat (first | exact RS.nil | refine RS.cons rfl ?_)) ?_
    refine WX.next ?_
    refine WC.block ?_
    refine WC.loop (X := Nat) (fun j => 6 - j) (fun j => j ≤ 6) (fun j => [(1, .pointer (some ⟨b1, 0, none⟩)), (6, .slice (some ⟨b3, 0, none⟩) (16 + (hp k g n i c m j).length) 256), (22, .agg (fcells b2).toArray), (23, .int .i64 (j : Int))]) (fun j => [blk b3 (bvs (fil (z16 ++ hp k g n i c m j))) 5, blk b2 (hdc k g n i c (.slice A m cap) m) 93, blk b1 (pcells k g n i c (.slice A m cap)) 25, rd (.slice A m cap) 1 m (bvs bs), frameC w0 (MutF [])]) (0) (by omega) (fun a w hs => hs.sub (by repeat (first | exact RS.nil | refine RS.cons (by first | rfl | exact congrArg (fun z : Int => some (Value.int .i64 z)) (by omega)) ?_)) (by repeat (first | exact Takes.nil | exact Take.here | apply Takes.cons | apply Take.there))) ?_
    rintro j hj
    try dsimp only
    have hlj := hp_len k g n i c m j hj
    have hz := fz_le j
    have hfv := fv_lt k g n i c m j (by omega) (by omega) (by omega) (by omega) (by omega) (by omega)
    refine WC.seq ?_
    refine WC.region ?_
    refine wlv (op_lss (by decide) rfl rfl) rfl ?_
    refine WL.nil ?_
    refine WX.regs (L' := [(1, _), (6, _), (22, _), (23, _), (24, _)]) (by repeat (first | exact RS.nil | refine RS.cons rfl ?_)) ?_
    refine WX.next ?_
    refine WC.seq ?_
    refine WC.cond rfl (fun h2 => ?_) (fun h2 => ?_)
    ·
      refine WC.skip ?_
      refine WX.next ?_
      refine WC.seq ?_
      refine WC.block ?_
      refine WC.seq ?_
      refine WC.region ?_
      refine wlv (op_indexVN Try.underlying96 sz95 ag95 (by decide) rfl rfl (by omega) (by omega) (fcells_at b2 j (by omega)) (by simp [fcells]; omega)) rfl ?_
      refine wl1 (op_alloc ti95 (by decide)) rfl fun b4 => ?_
      refine wl (op_storeAll sz95 rfl rfl (by repeat (first | exact Take.here | apply Take.there)) (by first | rfl | (simp [Value.cells]; done) | (simp [Value.cells]; omega)) (by first | rfl | exact wvs_one _ | exact bvs_one _) (by first | rfl | (simp [Value.cells]; done) | (simp [Value.cells]; omega))) rfl ?_
      change WL _ _ _ _ _ _ _
      refine WL.nil ?_
      refine WX.regs (L' := [(1, _), (6, _), (8, _), (22, _), (23, _)]) (by repeat (first | exact RS.nil | refine RS.cons rfl ?_)) ?_
      refine WX.next ?_
      refine WC.seq ?_
      refine WC.region ?_
      refine wlv (op_fieldAddr fo95_1 (by decide) rfl) rfl ?_
      refine wlv (op_load1 fl3 (by decide) rfl (by repeat (first | exact List.Mem.head _ | apply List.Mem.tail)) rfl) rfl ?_
      refine wlv (op_sub (by decide) rfl rfl (by omega)) rfl ?_
      refine wlv (op_assign (by decide) rfl) rfl ?_
      refine WL.nil ?_
      refine WX.regs (L' := [(1, _), (6, _), (8, _), (9, _), (22, _), (23, _)]) (by repeat (first | exact RS.nil | refine RS.cons rfl ?_)) ?_
      refine WX.next ?_
      refine WC.block ?_
      rw [show z16 ++ hp k g n i c m j = z16 ++ hp k g n i c m j ++ (be (fv k g n i c m j) (fz j)).take 0 by simp]
      refine WC.loop (X := Nat) (fun r => fz j - r) (fun r => r ≤ fz j) (fun r => [(1, .pointer (some ⟨b1, 0, none⟩)), (6, .slice (some ⟨b3, 0, none⟩) (16 + (hp k g n i c m j).length + r) 256), (8, .pointer (some ⟨b4, 0, none⟩)), (9, .int .i64 (((fz j : Nat) : Int) - 1 - (r : Int))), (22, .agg (fcells b2).toArray), (23, .int .i64 (j : Int))]) (fun r => [blk b3 (bvs (fil (z16 ++ hp k g n i c m j ++ (be (fv k g n i c m j) (fz j)).take r))) 5, blk b4 [.pointer (some ⟨b2, fo j, none⟩), .int .i64 ((fz j : Nat) : Int)] 95, blk b2 (hdc k g n i c (.slice A m cap) m) 93, blk b1 (pcells k g n i c (.slice A m cap)) 25, rd (.slice A m cap) 1 m (bvs bs), frameC w0 (MutF [])]) (0) (by omega) (fun a w hs => hs.sub (by repeat (first | exact RS.nil | refine RS.cons (by first | rfl | exact congrArg (fun z : Int => some (Value.int .i64 z)) (by omega)) ?_)) (by repeat (first | exact Takes.nil | exact Take.here | apply Takes.cons | apply Take.there))) ?_
      rintro r hr
      try dsimp only
      refine WC.seq ?_
      refine WC.seq ?_
      refine WC.region ?_
      refine wlv (op_move (by decide) rfl) rfl ?_
      refine wlv (op_geq (by decide) rfl rfl) rfl ?_
      refine WL.nil ?_
      refine WX.regs (L' := [(1, _), (6, _), (8, _), (9, _), (22, _), (23, _), (30, _)]) (by repeat (first | exact RS.nil | refine RS.cons rfl ?_)) ?_
      refine WX.next ?_
      refine WC.cond rfl (fun h3 => ?_) (fun h3 => ?_)
      ·
        refine WC.skip ?_
        refine WX.next ?_
        refine WC.seq ?_
        refine WC.block ?_
        refine WC.region ?_
        refine wlv (op_move (by decide) rfl) rfl ?_
        refine wlv (op_fieldAddr fo95_0 (by decide) rfl) rfl ?_
        refine wlv (op_load1 fl94 (by decide) rfl (by repeat (first | exact List.Mem.head _ | apply List.Mem.tail)) rfl) rfl ?_
        refine wlv (op_nilCheck (by decide) rfl) rfl ?_
        refine wlv (op_load1 fl3 (by decide) rfl (by repeat (first | exact List.Mem.head _ | apply List.Mem.tail)) (hdc_at k g n i c m _ j (by omega))) rfl ?_
        refine wlv (op_move (by decide) rfl) rfl ?_
        refine wlv (op_mul (by decide) rfl rfl (by omega)) rfl ?_
        refine wlv (op_shri (by decide) rfl rfl (by omega)) rfl ?_
        refine wlv (op_convByte (by kernel_rfl) Try.underlying5 (by decide) rfl (Int.ediv_nonneg (by omega) (Int.natCast_nonneg _))) rfl ?_
        refine wl1 (op_lit1 Try.underlying22 ti5 rfl (by decide) (by decide) rfl rfl) rfl fun b5 => ?_
        refine wl (op_appendBlk Try.underlying22 ti5 (by decide) rfl rfl (by repeat (first | exact Take.here | apply Take.there)) (by first | (apply Src.rd; (repeat (first | exact List.Mem.head _ | apply List.Mem.tail)); done) | (apply Src.own; (repeat (first | exact List.Mem.head _ | apply List.Mem.tail)); done) | (apply Src.rx; (repeat (first | exact List.Mem.head _ | apply List.Mem.tail)); done)) (bvs_one [_]) (by omega) (by rw [bvs_length, fil_length _ (by simp [z16_length]; omega)])) rfl ?_
        change WL _ _ _ _ _ _ _
        refine wlv (op_assign (by decide) rfl) rfl ?_
        refine WL.nil ?_
        refine WX.blkEq (b := b3) _ (by repeat (first | exact Take.here | apply Take.there)) (fil_step k g n i c m j r (by omega) (by omega)) ?_
        refine WX.regs (L' := [(1, _), (6, _), (8, _), (9, _), (22, _), (23, _)]) (by repeat (first | exact RS.nil | refine RS.cons rfl ?_)) ?_
        refine WX.in_normal ?_
        refine WX.next ?_
        refine WC.region ?_
        refine wlv (op_move (by decide) rfl) rfl ?_
        refine wlv (op_sub (by decide) rfl rfl (by omega)) rfl ?_
        refine wlv (op_assign (by decide) rfl) rfl ?_
        refine WL.nil ?_
        refine WX.regs (L' := [(1, _), (6, _), (8, _), (9, _), (22, _), (23, _)]) (by repeat (first | exact RS.nil | refine RS.cons rfl ?_)) ?_
        refine WX.meet (r + 1) ⟨by omega, by omega⟩ (fun a w hs => hs.sub (by repeat (first | exact RS.nil | refine RS.cons (by first | rfl | exact congrArg (fun z : Int => some (Value.int .i64 z)) (by omega)) ?_)) (by repeat (first | exact Takes.nil | exact Take.here | apply Takes.cons | apply Take.there)))
      ·
        refine WC.exit ?_
        refine WX.then_exit ?_
        refine WX.then_exit ?_
        refine WX.in_hit ?_
        refine WX.in_normal ?_
        refine WX.next ?_
        refine WC.region ?_
        refine wlv (op_add (by decide) rfl rfl (by omega)) rfl ?_
        refine wlv (op_move (by decide) rfl) rfl ?_
        refine WL.nil ?_
        refine WX.regs (L' := [(1, _), (6, _), (22, _), (23, _)]) (by repeat (first | exact RS.nil | refine RS.cons rfl ?_)) ?_
        obtain rfl : r = fz j := by omega
        rw [show z16 ++ hp k g n i c m j ++ (be (fv k g n i c m j) (fz j)).take (fz j) = z16 ++ hp k g n i c m (j + 1) by rw [List.take_of_length_le (by simp)]; simp [hp], show 16 + (hp k g n i c m j).length + fz j = 16 + (hp k g n i c m (j + 1)).length by simp [hp]; omega]
        refine WX.meet (j + 1) ⟨by omega, by omega⟩ (fun a w hs => hs.sub (by repeat (first | exact RS.nil | refine RS.cons (by first | rfl | exact congrArg (fun z : Int => some (Value.int .i64 z)) (by omega)) ?_)) (by repeat (first | exact Takes.nil | exact Take.here | apply Takes.cons | apply Take.there)))
    ·
      refine WC.exit ?_
      refine WX.then_exit ?_
      refine WX.then_exit ?_
      refine WX.in_hit ?_
      refine WX.next ?_
      refine WC.seq ?_
      refine WC.region ?_
      obtain rfl : j = 6 := by omega
      rw [hp_end, hdr_length]
      refine wlv (op_move (by decide) rfl) rfl ?_
      refine wlv (op_fieldAddr fo25_5 (by decide) rfl) rfl ?_
      refine wlv (op_load1 fl22 (by decide) rfl (by repeat (first | exact List.Mem.head _ | apply List.Mem.tail)) rfl) rfl ?_
      refine wl (op_appendBlk Try.underlying22 ti5 (by decide) rfl rfl (by repeat (first | exact Take.here | apply Take.there)) (by first | (apply Src.rd; (repeat (first | exact List.Mem.head _ | apply List.Mem.tail)); done) | (apply Src.own; (repeat (first | exact List.Mem.head _ | apply List.Mem.tail)); done) | (apply Src.rx; (repeat (first | exact List.Mem.head _ | apply List.Mem.tail)); done)) (bvs_one _) (by omega) (by rw [bvs_length, fil_length _ (by simp [z16_length, hdr_length])])) rfl ?_
      change WL _ _ _ _ _ _ _
      rw [fil_app _ bs 32 (by simp [z16_length, hdr_length]) (by omega), List.append_assoc]
      refine wlv (op_assign (by decide) rfl) rfl ?_
      refine WL.nil ?_
      refine WX.regs (L' := [(6, _)]) (by repeat (first | exact RS.nil | refine RS.cons rfl ?_)) ?_
      refine WX.next ?_
      refine WC.seq ?_
      refine WC.region ?_
      refine wlv (op_move (by decide) rfl) rfl ?_
      refine wlv (op_slice_h Try.underlying22 sz5 (by decide) rfl rfl (by omega) (by omega)) rfl ?_
      refine wlv (op_assign (by decide) rfl) rfl ?_
      refine WL.nil ?_
      refine WX.regs (L' := [(6, _)]) (by repeat (first | exact RS.nil | refine RS.cons rfl ?_)) ?_
      refine WX.next ?_
      refine WC.seq ?_
      refine WC.region ?_
      refine wlv (op_move (by decide) rfl) rfl ?_
      refine wlx (op_call (f47_spec (some ⟨b3, 0, none⟩) 256 256 (fil (z16 ++ (hdr k g n i c m ++ bs))) (fil_length _ (by simp [z16_length, hdr_length]; omega)) (by decide) (by decide)) ca47 (by decide) rfl (by apply Give.mk; (exact Takes.nil); exact Reads.cons (c := blk b3 (bvs (fil (z16 ++ (hdr k g n i c m ++ bs)))) 5) (by repeat (first | exact List.Mem.head _ | apply List.Mem.tail)) (by simp) (blk_whole_rd (by rw [bvs_length, fil_length _ (by simp [z16_length, hdr_length]; omega)]) (by decide)) Reads.nil)) rfl ?_
      rintro _ _
      refine wl1 (op_alloc ti98 (by decide)) rfl fun b6 => ?_
      refine wl (op_storeAll sz98 rfl rfl (by repeat (first | exact Take.here | apply Take.there)) (by first | rfl | (simp [Value.cells]; done) | (simp [Value.cells]; omega)) (by first | rfl | exact wvs_one _ | exact bvs_one _) (by first | rfl | (simp [Value.cells]; done) | (simp [Value.cells]; omega))) rfl ?_
      change WL _ _ _ _ _ _ _
      refine WL.nil ?_
      refine WX.regs (L' := [(6, _), (10, _)]) (by repeat (first | exact RS.nil | refine RS.cons rfl ?_)) ?_
      refine WX.next ?_
      refine WC.seq ?_
      refine WC.region ?_
      refine wlv (op_move (by decide) rfl) rfl ?_
      refine wlv (op_sliceArr Try.underlying98 sz5 (by decide) rfl) rfl ?_
      refine WL.turn (c := blk b6 (bvs ((sha ((fil (z16 ++ (hdr k g n i c m ++ bs))).drop 16)).take 16)) 98) (d := rd (.slice (some ⟨b6, 0, none⟩) 16 16) 1 16 (bvs ((sha ((fil (z16 ++ (hdr k g n i c m ++ bs))).drop 16)).take 16))) (by repeat (first | exact Take.here | apply Take.there)) (blk_whole_rd (by simp [sha_length]) (by decide)) ?_
      refine wl (op_copyBlk Try.underlying22 sz5 (by decide) rfl rfl (by repeat (first | exact Take.here | apply Take.there)) (by first | (apply Src.rd; (repeat (first | exact List.Mem.head _ | apply List.Mem.tail)); done) | (apply Src.own; (repeat (first | exact List.Mem.head _ | apply List.Mem.tail)); done) | (apply Src.rx; (repeat (first | exact List.Mem.head _ | apply List.Mem.tail)); done)) (bvs_one _) (by decide) (by decide) (by rw [bvs_length, fil_length _ (by simp [z16_length, hdr_length]; omega)]; decide)) rfl ?_
      change WL _ _ _ _ _ _ _
      refine WL.nil ?_
      refine WX.regs (L' := [(6, _)]) (by repeat (first | exact RS.nil | refine RS.cons rfl ?_)) ?_
      refine WX.next ?_
      refine WC.seq ?_
      refine WC.region ?_
      rw [fil_drop _ (by simp [hdr_length]; omega), fil_seal _ (by simp [hdr_length]; omega), show sealB (hdr k g n i c m ++ bs) = enc k g n i c bs by unfold enc; rw [hm]]
      refine WL.turn (c := blk b3 (bvs (enc k g n i c bs)) 5) (d := own (.slice (some ⟨b3, 0, none⟩) 256 256) 5 1 256 (bvs (enc k g n i c bs))) (by repeat (first | exact Take.here | apply Take.there)) (own_le_blk (by rw [bvs_length, enc_length]) (by decide)) ?_
      refine wlv (op_move (by decide) rfl) rfl ?_
      refine wlv (op_assign (by decide) rfl) rfl ?_
      refine wlv (op_assign (by decide) rfl) rfl ?_
      refine WL.nil ?_
      refine WX.regs (L' := [(2, _), (3, _)]) (by repeat (first | exact RS.nil | refine RS.cons rfl ?_)) ?_
      refine WX.next ?_
      refine WC.ret ?_
      exact Fin.ret2 (by first | exact .inl rfl | exact .inr rfl) ((some ⟨b3, 0, none⟩, 256, enc k g n i c bs, 0, 256)) (⟨by unfold encP; rw [if_pos (by rw [hm]; exact h0)]; rfl, h0.symm, (enc_length _ _ _ _ _ _).symm⟩) Try.results17 rfl (.tmp rfl) (.tmp rfl) (by repeat (first | exact Takes.nil | exact Take.here | apply Takes.cons | apply Take.there)) (by simp)
end Go.Proofs.Ythephcghglldaaa.Sx
