import Derived.Test.YthephcghglldaaaS13
set_option linter.unusedVariables false
set_option linter.unusedSimpArgs false
namespace Go.Proofs.Ythephcghglldaaa.Sx
open Go.RowKit Go.Proofs.Ythephcghglldaaa.Ty
attribute [local irreducible] blk own rd rx frameC

/-- The header's cells where its fields are a 0 .. a 5 in the order of the sector. -/
def hq (a : Nat → Nat) : List Value := hdc (a 2) (a 0) (a 1) (a 3) (a 4) (.slice none 0 0) (a 5)
theorem hq_congr {a b : Nat → Nat} (h : ∀ t, t < 6 → a t = b t) : hq a = hq b := by
  unfold hq
  rw [h 0 (by decide), h 1 (by decide), h 2 (by decide), h 3 (by decide), h 4 (by decide), h 5 (by decide)]
theorem hq_at (a : Nat → Nat) (j : Nat) (h : j < 6) : (hq a)[fo j]? = some (.int .i64 (a j : Nat)) := by
  match j, h with
  | 0, _ | 1, _ | 2, _ | 3, _ | 4, _ | 5, _ => rfl
theorem fo_le (j : Nat) : fo j ≤ 6 := by
  unfold fo; split <;> decide
theorem hq_put (a : Nat → Nat) (j x : Nat) (h : j < 6) : pset (hq a) (fo j) (Value.int .i64 (x : Nat)).cells.toList = hq (fun t => if t = j then x else a t) := by
  match j, h with
  | 0, _ | 1, _ | 2, _ | 3, _ | 4, _ | 5, _ => rfl
def ps : Nat → Nat | 0 => 0 | 1 => 4 | 2 => 8 | 3 => 10 | 4 => 12 | 5 => 14 | _ => 16
theorem ps_succ (j : Nat) (h : j < 6) : ps (j + 1) = ps j + fz j := by
  match j, h with
  | 0, _ | 1, _ | 2, _ | 3, _ | 4, _ | 5, _ => rfl
theorem ps_le (j : Nat) : ps j ≤ 16 := by
  unfold ps; split <;> decide
/-- j fields are read, of the next one r bytes. -/
def ha (bs : List UInt8) (j r t : Nat) : Nat := if t = j then fld bs (16 + ps t) r else if t < j then fld bs (16 + ps t) (fz t) else 0
theorem fld_step (bs : List UInt8) (o r : Nat) (h : o + r < bs.length) : fld bs o (r + 1) = fld bs o r * 256 + (bs.getD (o + r) 0).toNat := by
  unfold fld
  rw [vl_step _ _ (by simp; omega), getD_drop]
theorem fld_lt (bs : List UInt8) (o r : Nat) (h : r ≤ 4) : fld bs o r < 4294967296 := by
  have h1 := vl_lt ((bs.drop o).take r)
  have h2 : ((bs.drop o).take r).length ≤ 4 := by simp; omega
  have h3 : 256 ^ ((bs.drop o).take r).length ≤ 256 ^ 4 := Nat.pow_le_pow_right (by decide) h2
  unfold fld
  omega
theorem ha_next (bs : List UInt8) (j t : Nat) (ht : t < 6) : ha bs j (fz j) t = ha bs (j + 1) 0 t := by
  unfold ha
  by_cases h1 : t = j
  · subst h1
    rw [if_pos rfl, if_neg (by omega), if_pos (by omega)]
  · rw [if_neg h1]
    by_cases h2 : t = j + 1
    · subst h2
      rw [if_neg (by omega), if_pos rfl]
      simp [fld, vl]
    · rw [if_neg h2]
      by_cases h3 : t < j
      · rw [if_pos h3, if_pos (by omega)]
      · rw [if_neg h3, if_neg (by omega)]
theorem ha_put (bs : List UInt8) (j r x : Nat) (hj : j < 6) (h : x = fld bs (16 + ps j) (r + 1)) : pset (hq (ha bs j r)) (fo j) (Value.int .i64 (x : Nat)).cells.toList = hq (ha bs j (r + 1)) := by
  rw [hq_put _ _ _ hj]
  apply hq_congr
  intro t _
  unfold ha
  by_cases h1 : t = j
  · subst h1; simp [h]
  · simp [h1]
theorem ha_end (bs : List UInt8) : hq (ha bs 6 0) = hdc (fld bs 24 2 : Nat) (fld bs 16 4 : Nat) (fld bs 20 4 : Nat) (fld bs 26 2 : Nat) (fld bs 28 2 : Nat) (.slice none 0 0) (fld bs 30 2 : Nat) := rfl
set_option maxHeartbeats 400000 in
set_option maxRecDepth 10000 in
theorem f21_spec (A : Option Addr) (m c : Nat) (bs : List UInt8) (hm : bs.length = m) :
    Spec Try.prog 21 [.slice A m c] [] [rd (.slice A m c) 1 m (bvs bs)] (R := Option Addr × Nat × Nat × Pt × Int)
      (fun q => (q.2.2.2.1, q.2.2.2.2) = dec bs ∧ q.2.2.1 = q.2.2.2.1.b.length)
      (fun q => .tuple #[.agg (pcells q.2.2.2.1.k q.2.2.2.1.g q.2.2.2.1.n q.2.2.2.1.i q.2.2.2.1.c (.slice q.1 q.2.2.1 q.2.1)).toArray, .int .i64 q.2.2.2.2])
      (fun q => [own (.slice q.1 q.2.2.1 q.2.1) 5 1 q.2.2.1 (bvs q.2.2.2.1.b)]) := by
  refine Spec.intro Try.func21 Try.ntmps21 rfl (by simp) (by simp) fun w0 => ?_
  refine WC.seq ?_
  refine WC.region ?_
  refine wl1 (op_alloc ti25 (by decide)) rfl fun b1 => ?_
  refine wlv (op_assign (by decide) rfl) rfl ?_
  refine WL.nil ?_
  refine WX.regs (L' := [(0, _), (2, _)]) (by repeat (first | exact RS.nil | refine RS.cons rfl ?_)) ?_
  refine WX.next ?_
  refine WC.seq ?_
  refine WC.block ?_
  refine WC.seq ?_
  refine WC.region ?_
  refine wlv (op_move (by decide) rfl) rfl ?_
  refine wlv (op_len Try.underlying22 (by decide) rfl) rfl ?_
  refine wlv (op_lss (by decide) rfl rfl) rfl ?_
  refine wlv (op_assign (by decide) rfl) rfl ?_
  refine WL.nil ?_
  refine WX.regs (L' := [(0, _), (2, _), (9, _)]) (by repeat (first | exact RS.nil | refine RS.cons rfl ?_)) ?_
  refine WX.next ?_
  refine WC.cond rfl (fun h1 => ?_) (fun h1 => ?_)
  ·
    refine WC.seq ?_
    refine WC.region ?_
    refine wlv (op_build (cs := (pcells 0 0 0 0 0 (.slice none 0 0))) (pv := []) (by decide) rfl (by kernel_rfl)) rfl ?_
    refine wl (op_storeAll sz25 rfl rfl (by repeat (first | exact Take.here | apply Take.there)) (by first | rfl | (simp [Value.cells]; done) | (simp [Value.cells]; omega)) (by first | rfl | exact wvs_one _ | exact bvs_one _) (by first | rfl | (simp [Value.cells]; done) | (simp [Value.cells]; omega))) rfl ?_
    change WL _ _ _ _ _ _ _
    refine wlv (op_assign (by decide) rfl) rfl ?_
    refine WL.nil ?_
    refine WX.nilown 5 1 ?_
    refine WX.regs (L' := [(2, _), (3, _)]) (by repeat (first | exact RS.nil | refine RS.cons rfl ?_)) ?_
    refine WX.next ?_
    refine WC.ret ?_
    refine WX.in_ret ?_
    refine WX.then_ret ?_
    exact Fin.ret2 (by first | exact .inl rfl | exact .inr rfl) ((none, 0, 0, pt0, 4)) (⟨(dec_short (by omega)).symm, rfl⟩) Try.results21 rfl (.cellN rfl ag25 (by repeat (first | exact List.Mem.head _ | apply List.Mem.tail)) (by first | rfl | (simp [Value.cells]; done) | (simp [Value.cells]; omega))) (.tmp rfl) (by repeat (first | exact Takes.nil | exact Take.here | apply Takes.cons | apply Take.there)) (by simp)
  ·
    refine WC.seq ?_
    refine WC.region ?_
    refine wlv (op_move (by decide) rfl) rfl ?_
    refine wlv (op_len Try.underlying22 (by decide) rfl) rfl ?_
    refine wlv (op_gtr (by decide) rfl rfl) rfl ?_
    refine wlv (op_assign (by decide) rfl) rfl ?_
    refine WL.nil ?_
    refine WX.regs (L' := [(0, _), (2, _), (14, _)]) (by repeat (first | exact RS.nil | refine RS.cons rfl ?_)) ?_
    refine WX.next ?_
    refine WC.cond rfl (fun h2 => ?_) (fun h2 => ?_)
    ·
      refine WC.seq ?_
      refine WC.region ?_
      refine wlv (op_build (cs := (pcells 0 0 0 0 0 (.slice none 0 0))) (pv := []) (by decide) rfl (by kernel_rfl)) rfl ?_
      refine wl (op_storeAll sz25 rfl rfl (by repeat (first | exact Take.here | apply Take.there)) (by first | rfl | (simp [Value.cells]; done) | (simp [Value.cells]; omega)) (by first | rfl | exact wvs_one _ | exact bvs_one _) (by first | rfl | (simp [Value.cells]; done) | (simp [Value.cells]; omega))) rfl ?_
      change WL _ _ _ _ _ _ _
      refine wlv (op_assign (by decide) rfl) rfl ?_
      refine WL.nil ?_
      refine WX.nilown 5 1 ?_
      refine WX.regs (L' := [(2, _), (3, _)]) (by repeat (first | exact RS.nil | refine RS.cons rfl ?_)) ?_
      refine WX.next ?_
      refine WC.ret ?_
      refine WX.in_ret ?_
      refine WX.then_ret ?_
      exact Fin.ret2 (by first | exact .inl rfl | exact .inr rfl) ((none, 0, 0, pt0, 5)) (⟨(dec_long (by omega)).symm, rfl⟩) Try.results21 rfl (.cellN rfl ag25 (by repeat (first | exact List.Mem.head _ | apply List.Mem.tail)) (by first | rfl | (simp [Value.cells]; done) | (simp [Value.cells]; omega))) (.tmp rfl) (by repeat (first | exact Takes.nil | exact Take.here | apply Takes.cons | apply Take.there)) (by simp)
    ·
      obtain rfl : m = 256 := by omega
      refine WC.capx (by first | (apply Src.rd; (repeat (first | exact List.Mem.head _ | apply List.Mem.tail)); done) | (apply Src.own; (repeat (first | exact List.Mem.head _ | apply List.Mem.tail)); done) | (apply Src.rx; (repeat (first | exact List.Mem.head _ | apply List.Mem.tail)); done)) (fun hcap => ?_)
      refine WC.skip ?_
      refine WX.in_normal ?_
      refine WX.next ?_
      refine WC.seq ?_
      refine WC.seq ?_
      refine WC.region ?_
      refine wlv (op_move (by decide) rfl) rfl ?_
      refine wlx (op_call (f47_spec A 256 c bs hm (by decide) (by decide)) ca47 (by decide) rfl (by apply Give.mk; (repeat (first | exact Takes.nil | exact Take.here | apply Takes.cons | apply Take.there)); repeat (first | exact Reads.nil | (apply Reads.rd; (focus (repeat (first | exact List.Mem.head _ | apply List.Mem.tail)); done)) | (apply Reads.own; (focus (repeat (first | exact List.Mem.head _ | apply List.Mem.tail)); done)) | (apply Reads.rx; (focus (repeat (first | exact List.Mem.head _ | apply List.Mem.tail)); done)) | (apply Reads.rows (e := false); (focus (repeat (first | exact List.Mem.head _ | apply List.Mem.tail)); done)) | (apply Reads.rows (e := true); (focus (repeat (first | exact List.Mem.head _ | apply List.Mem.tail)); done))))) rfl ?_
      rintro _ _
      refine WL.dupr (v := .slice A 256 c) (sz := 1) (m := 256) (xs := bvs bs) (by repeat (first | exact List.Mem.head _ | apply List.Mem.tail)) (rd_subB (l := 0) (h := 16) (by decide) (by decide)) ?_
      refine wl1 (op_alloc ti98 (by decide)) rfl fun b2 => ?_
      refine wl (op_storeAll sz98 rfl rfl (by repeat (first | exact Take.here | apply Take.there)) (by first | rfl | (simp [Value.cells]; done) | (simp [Value.cells]; omega)) (by first | rfl | exact wvs_one _ | exact bvs_one _) (by first | rfl | (simp [Value.cells]; done) | (simp [Value.cells]; omega))) rfl ?_
      change WL _ _ _ _ _ _ _
      refine WL.turn (c := blk b2 (bvs ((sha (bs.drop 16)).take 16)) 98) (d := rd (.slice (some ⟨b2, 0, none⟩) 16 16) 1 16 (bvs ((sha (bs.drop 16)).take 16))) (by repeat (first | exact Take.here | apply Take.there)) (blk_whole_rd (by simp [sha_length]) (by decide)) ?_
      refine WL.nil ?_
      refine WX.regs (L' := [(0, _), (2, _), (4, _)]) (by repeat (first | exact RS.nil | refine RS.cons rfl ?_)) ?_
      refine WX.next ?_
      refine WC.seq ?_
      refine WC.drawnH mo 999 ?_
      refine WA.take (i := 0) rfl (by kernel_rfl) (fun _ _ _ h => h) rfl (op_sliceArr Try.underlying98 sz5 (by decide) rfl) (by repeat (first | exact Takes.nil | exact Take.here | apply Takes.cons | apply Take.there)) ?_
      refine WA.take (i := 1) rfl (by kernel_rfl) (fun _ _ _ h => h) rfl (op_move (by decide) rfl) (by repeat (first | exact Takes.nil | exact Take.here | apply Takes.cons | apply Take.there)) ?_
      refine WA.take (i := 2) rfl (by kernel_rfl) (fun _ _ _ h => h) rfl (op_slice_h Try.underlying22 sz5 (by decide) rfl rfl (by omega) (by omega)) (by repeat (first | exact Takes.nil | exact Take.here | apply Takes.cons | apply Take.there)) ?_
      refine WA.stepx (i := 3) (by kernel_rfl) rfl rfl (op_call (f52_spec _ _ 16 _ 16 _ ((sha (bs.drop 16)).take 16) (bs.take 16)) ca52 (by decide) rfl (by apply Give.mk; (repeat (first | exact Takes.nil | exact Take.here | apply Takes.cons | apply Take.there)); repeat (first | exact Reads.nil | (apply Reads.rd; (focus (repeat (first | exact List.Mem.head _ | apply List.Mem.tail)); done)) | (apply Reads.own; (focus (repeat (first | exact List.Mem.head _ | apply List.Mem.tail)); done)) | (apply Reads.rx; (focus (repeat (first | exact List.Mem.head _ | apply List.Mem.tail)); done)) | (apply Reads.rows (e := false); (focus (repeat (first | exact List.Mem.head _ | apply List.Mem.tail)); done)) | (apply Reads.rows (e := true); (focus (repeat (first | exact List.Mem.head _ | apply List.Mem.tail)); done))))) (fun _ r => (by repeat (first | exact Takes.nil | exact Take.here | apply Takes.cons | apply Take.there))) ?_
      rintro _ _
      refine WA.take (i := 4) rfl (by kernel_rfl) (fun _ _ _ h => h) rfl (op_notp (by decide) rfl) (by repeat (first | exact Takes.nil | exact Take.here | apply Takes.cons | apply Take.there)) ?_
      refine WA.done (by kernel_rfl) ?_
      refine WX.regs (L' := [(0, _), (2, _), (25, _)]) (by repeat (first | exact RS.nil | refine RS.cons rfl ?_)) ?_
      refine WX.next ?_
      refine WC.cond rfl (fun h3 => ?_) (fun h3 => ?_)
      ·
        refine WC.seq ?_
        refine WC.region ?_
        refine wlv (op_build (cs := (pcells 0 0 0 0 0 (.slice none 0 0))) (pv := []) (by decide) rfl (by kernel_rfl)) rfl ?_
        refine wl (op_storeAll sz25 rfl rfl (by repeat (first | exact Take.here | apply Take.there)) (by first | rfl | (simp [Value.cells]; done) | (simp [Value.cells]; omega)) (by first | rfl | exact wvs_one _ | exact bvs_one _) (by first | rfl | (simp [Value.cells]; done) | (simp [Value.cells]; omega))) rfl ?_
        change WL _ _ _ _ _ _ _
        refine wlv (op_assign (by decide) rfl) rfl ?_
        refine WL.nil ?_
        refine WX.nilown 5 1 ?_
        refine WX.regs (L' := [(2, _), (3, _)]) (by repeat (first | exact RS.nil | refine RS.cons rfl ?_)) ?_
        refine WX.next ?_
        refine WC.ret ?_
        refine WX.then_ret ?_
        exact Fin.ret2 (by first | exact .inl rfl | exact .inr rfl) ((none, 0, 0, pt0, 22)) (⟨(dec_sum hm (by assumption)).symm, rfl⟩) Try.results21 rfl (.cellN rfl ag25 (by repeat (first | exact List.Mem.head _ | apply List.Mem.tail)) (by first | rfl | (simp [Value.cells]; done) | (simp [Value.cells]; omega))) (.tmp rfl) (by repeat (first | exact Takes.nil | exact Take.here | apply Takes.cons | apply Take.there)) (by simp)
      ·
        have heq := Decidable.not_not.1 h3
        refine WC.skip ?_
        refine WX.next ?_
        refine WC.seq ?_
        refine WC.region ?_
        refine wl1 (op_alloc ti93 (by decide)) rfl fun b3 => ?_
        refine WL.nil ?_
        refine WX.regs (L' := [(0, _), (2, _), (5, _)]) (by repeat (first | exact RS.nil | refine RS.cons rfl ?_)) ?_
        refine WX.next ?_
        refine WC.seq ?_
        refine WC.region ?_
        refine wlv (op_assign (by decide) rfl) rfl ?_
        refine WL.nil ?_
        refine WX.regs (L' := [(0, _), (2, _), (5, _), (6, _)]) (by repeat (first | exact RS.nil | refine RS.cons rfl ?_)) ?_
        refine WX.next ?_
        refine WC.seq ?_
        refine WC.seq ?_
        refine WC.region ?_
        refine wlx (op_call (f46_spec b3) ca46 (by decide) rfl (by apply Give.mk; (repeat (first | exact Takes.nil | exact Take.here | apply Takes.cons | apply Take.there)); repeat (first | exact Reads.nil | (apply Reads.rd; (focus (repeat (first | exact List.Mem.head _ | apply List.Mem.tail)); done)) | (apply Reads.own; (focus (repeat (first | exact List.Mem.head _ | apply List.Mem.tail)); done)) | (apply Reads.rx; (focus (repeat (first | exact List.Mem.head _ | apply List.Mem.tail)); done)) | (apply Reads.rows (e := false); (focus (repeat (first | exact List.Mem.head _ | apply List.Mem.tail)); done)) | (apply Reads.rows (e := true); (focus (repeat (first | exact List.Mem.head _ | apply List.Mem.tail)); done))))) rfl ?_
        rintro _ _
        refine wlv (op_move (by decide) rfl) rfl ?_
        refine WL.nil ?_
        refine WX.regs (L' := [(0, _), (2, _), (5, _), (6, _), (27, _), (28, _)]) (by repeat (first | exact RS.nil | refine RS.cons rfl ?_)) ?_
        refine WX.next ?_
        refine WC.block ?_
        refine WC.loop (X := Nat) (fun j => 6 - j) (fun j => j ≤ 6) (fun j => [(0, .slice A 256 c), (2, .pointer (some ⟨b1, 0, none⟩)), (5, .pointer (some ⟨b3, 0, none⟩)), (6, .int .i64 ((16 + ps j : Nat) : Int)), (27, .agg (fcells b3).toArray), (28, .int .i64 (j : Int))]) (fun j => [blk b3 (hq (ha bs j 0)) 93, blk b1 (pcells 0 0 0 0 0 (.slice none 0 0)) 25, rd (.slice A 256 c) 1 256 (bvs bs), frameC w0 (MutF [])]) (0) (by omega) (fun a w hs => hs.sub (by repeat (first | exact RS.nil | refine RS.cons (by first | rfl | exact congrArg (fun z : Int => some (Value.int .i64 z)) (by omega)) ?_)) (by repeat (first | exact Takes.nil | exact Take.here | apply Takes.cons | apply Take.there))) ?_
        rintro j hj
        try dsimp only
        have hz := fz_le j
        have hps := ps_le j
        have hps1 : j < 6 → ps j + fz j ≤ 16 := fun h => by rw [← ps_succ j h]; exact ps_le _
        refine WC.seq ?_
        refine WC.region ?_
        refine wlv (op_lss (by decide) rfl rfl) rfl ?_
        refine WL.nil ?_
        refine WX.regs (L' := [(0, _), (2, _), (5, _), (6, _), (27, _), (28, _), (29, _)]) (by repeat (first | exact RS.nil | refine RS.cons rfl ?_)) ?_
        refine WX.next ?_
        refine WC.seq ?_
        refine WC.cond rfl (fun h4 => ?_) (fun h4 => ?_)
        ·
          refine WC.skip ?_
          refine WX.next ?_
          refine WC.seq ?_
          refine WC.block ?_
          refine WC.seq ?_
          refine WC.region ?_
          refine wlv (op_indexVN Try.underlying96 sz95 ag95 (by decide) rfl rfl (by omega) (by omega) (fcells_at b3 j (by omega)) (by simp [fcells]; omega)) rfl ?_
          refine wl1 (op_alloc ti95 (by decide)) rfl fun b4 => ?_
          refine wl (op_storeAll sz95 rfl rfl (by repeat (first | exact Take.here | apply Take.there)) (by first | rfl | (simp [Value.cells]; done) | (simp [Value.cells]; omega)) (by first | rfl | exact wvs_one _ | exact bvs_one _) (by first | rfl | (simp [Value.cells]; done) | (simp [Value.cells]; omega))) rfl ?_
          change WL _ _ _ _ _ _ _
          refine WL.nil ?_
          refine WX.regs (L' := [(0, _), (2, _), (5, _), (6, _), (8, _), (27, _), (28, _)]) (by repeat (first | exact RS.nil | refine RS.cons rfl ?_)) ?_
          refine WX.next ?_
          refine WC.seq ?_
          refine WC.region ?_
          refine wlv (op_fieldAddr fo95_1 (by decide) rfl) rfl ?_
          refine wlv (op_load1 fl3 (by decide) rfl (by repeat (first | exact List.Mem.head _ | apply List.Mem.tail)) rfl) rfl ?_
          refine wlv (op_move (by decide) rfl) rfl ?_
          refine WL.nil ?_
          refine WX.regs (L' := [(0, _), (2, _), (5, _), (6, _), (8, _), (27, _), (28, _), (32, _), (33, _)]) (by repeat (first | exact RS.nil | refine RS.cons rfl ?_)) ?_
          refine WX.next ?_
          refine WC.block ?_
          refine WC.loop (X := Nat) (fun r => fz j - r) (fun r => r ≤ fz j) (fun r => [(0, .slice A 256 c), (2, .pointer (some ⟨b1, 0, none⟩)), (5, .pointer (some ⟨b3, 0, none⟩)), (6, .int .i64 ((16 + ps j + r : Nat) : Int)), (8, .pointer (some ⟨b4, 0, none⟩)), (27, .agg (fcells b3).toArray), (28, .int .i64 (j : Int)), (32, .int .i64 ((fz j : Nat) : Int)), (33, .int .i64 (r : Int))]) (fun r => [blk b3 (hq (ha bs j r)) 93, blk b4 [.pointer (some ⟨b3, fo j, none⟩), .int .i64 ((fz j : Nat) : Int)] 95, blk b1 (pcells 0 0 0 0 0 (.slice none 0 0)) 25, rd (.slice A 256 c) 1 256 (bvs bs), frameC w0 (MutF [])]) (0) (by omega) (fun a w hs => hs.sub (by repeat (first | exact RS.nil | refine RS.cons (by first | rfl | exact congrArg (fun z : Int => some (Value.int .i64 z)) (by omega)) ?_)) (by repeat (first | exact Takes.nil | exact Take.here | apply Takes.cons | apply Take.there))) ?_
          rintro r hr
          try dsimp only
          refine WC.seq ?_
          refine WC.region ?_
          refine wlv (op_lss (by decide) rfl rfl) rfl ?_
          refine WL.nil ?_
          refine WX.regs (L' := [(0, _), (2, _), (5, _), (6, _), (8, _), (27, _), (28, _), (32, _), (33, _), (34, _)]) (by repeat (first | exact RS.nil | refine RS.cons rfl ?_)) ?_
          refine WX.next ?_
          refine WC.seq ?_
          refine WC.cond rfl (fun h5 => ?_) (fun h5 => ?_)
          ·
            refine WC.skip ?_
            refine WX.next ?_
            refine WC.seq ?_
            refine WC.block ?_
            refine WC.seq ?_
            refine WC.drawnH mo 14 ?_
            refine WA.take (i := 0) rfl (by kernel_rfl) (fun _ _ _ h => h) rfl (op_fieldAddr fo95_0 (by decide) rfl) (by repeat (first | exact Takes.nil | exact Take.here | apply Takes.cons | apply Take.there)) ?_
            refine WA.take (i := 1) rfl (by kernel_rfl) (fun _ _ _ h => h) rfl (op_load1 fl94 (by decide) rfl (by repeat (first | exact List.Mem.head _ | apply List.Mem.tail)) rfl) (by repeat (first | exact Takes.nil | exact Take.here | apply Takes.cons | apply Take.there)) ?_
            refine WA.take (i := 2) rfl (by kernel_rfl) (fun _ _ _ h => h) rfl (op_fieldAddr fo95_0 (by decide) rfl) (by repeat (first | exact Takes.nil | exact Take.here | apply Takes.cons | apply Take.there)) ?_
            refine WA.take (i := 3) rfl (by kernel_rfl) (fun _ _ _ h => h) rfl (op_load1 fl94 (by decide) rfl (by repeat (first | exact List.Mem.head _ | apply List.Mem.tail)) rfl) (by repeat (first | exact Takes.nil | exact Take.here | apply Takes.cons | apply Take.there)) ?_
            refine WA.take (i := 4) rfl (by kernel_rfl) (fun _ _ _ h => h) rfl (op_nilCheck (by decide) rfl) (by repeat (first | exact Takes.nil | exact Take.here | apply Takes.cons | apply Take.there)) ?_
            refine WA.take (i := 5) rfl (by kernel_rfl) (fun _ _ _ h => h) rfl (op_load1 fl3 (by decide) rfl (by repeat (first | exact List.Mem.head _ | apply List.Mem.tail)) (hq_at _ j (by omega))) (by repeat (first | exact Takes.nil | exact Take.here | apply Takes.cons | apply Take.there)) ?_
            refine WA.take (i := 6) rfl (by kernel_rfl) (fun _ _ _ h => h) rfl (op_shl8i (by decide) rfl rfl (by have := fld_lt bs (16 + ps j) r (by omega); unfold ha; rw [if_pos rfl]; omega)) (by repeat (first | exact Takes.nil | exact Take.here | apply Takes.cons | apply Take.there)) ?_
            refine WA.take (i := 7) rfl (by kernel_rfl) (fun _ _ _ h => h) rfl (op_move (by decide) rfl) (by repeat (first | exact Takes.nil | exact Take.here | apply Takes.cons | apply Take.there)) ?_
            refine WA.take (i := 8) rfl (by kernel_rfl) (fun _ _ _ h => h) rfl (op_move (by decide) rfl) (by repeat (first | exact Takes.nil | exact Take.here | apply Takes.cons | apply Take.there)) ?_
            refine WA.take (i := 9) rfl (by kernel_rfl) (fun _ _ _ h => h) rfl (op_index Try.underlying22 sz5 (by decide) rfl rfl (by omega) (by omega) (by decide) (by first | (apply Src.rd; (repeat (first | exact List.Mem.head _ | apply List.Mem.tail)); done) | (apply Src.own; (repeat (first | exact List.Mem.head _ | apply List.Mem.tail)); done) | (apply Src.rx; (repeat (first | exact List.Mem.head _ | apply List.Mem.tail)); done))) (by repeat (first | exact Takes.nil | exact Take.here | apply Takes.cons | apply Take.there)) ?_
            refine WA.take (i := 10) rfl (by kernel_rfl) (fun _ _ _ h => h) rfl (op_loadS fl5 (by decide) rfl (by first | (apply Src.rd; (repeat (first | exact List.Mem.head _ | apply List.Mem.tail)); done) | (apply Src.own; (repeat (first | exact List.Mem.head _ | apply List.Mem.tail)); done) | (apply Src.rx; (repeat (first | exact List.Mem.head _ | apply List.Mem.tail)); done)) (bvs_at (k := 16 + ps j + r) (by omega) (by omega))) (by repeat (first | exact Takes.nil | exact Take.here | apply Takes.cons | apply Take.there)) ?_
            refine WA.take (i := 11) rfl (by kernel_rfl) (fun _ _ _ h => h) rfl (op_conv8i (by kernel_rfl) Try.underlying3 (by decide) rfl) (by repeat (first | exact Takes.nil | exact Take.here | apply Takes.cons | apply Take.there)) ?_
            refine WA.take (i := 12) rfl (by kernel_rfl) (fun _ _ _ h => h) rfl (op_ori8 (by decide) rfl rfl (by have := fld_lt bs (16 + ps j) r (by omega); have := (bs.getD (16 + ps j + r) 0).toNat_lt; unfold ha; rw [if_pos rfl]; omega)) (by repeat (first | exact Takes.nil | exact Take.here | apply Takes.cons | apply Take.there)) ?_
            refine WA.take (i := 13) rfl (by kernel_rfl) (fun _ _ _ h => h) rfl (op_nilCheck (by decide) rfl) (by repeat (first | exact Takes.nil | exact Take.here | apply Takes.cons | apply Take.there)) ?_
            refine WA.stepo (G := []) (i := 14) (by kernel_rfl) rfl rfl (op_store sz3 rfl rfl (by repeat (first | exact Take.here | apply Take.there)) (by first | rfl | (simp [Value.cells]; done) | (simp [Value.cells]; omega)) (by first | rfl | exact wvs_one _ | exact bvs_one _) (by have := fo_le j; simp [hq, hdc, pcells]; omega)) (fun h => absurd rfl h) ?_
            refine WA.done (by kernel_rfl) ?_
            rw [show ((ha bs j r j : Nat) : Int) * 256 + (((bs.getD (16 + ps j + r) 0).toNat : Nat) : Int) = ((fld bs (16 + ps j) (r + 1) : Nat) : Int) by rw [fld_step bs _ _ (by omega)]; unfold ha; rw [if_pos rfl]; simp]
            refine WX.blkEq (b := b3) _ (by repeat (first | exact Take.here | apply Take.there)) (ha_put bs j r _ (by omega) rfl) ?_
            refine WX.regs (L' := [(0, _), (2, _), (5, _), (6, _), (8, _), (27, _), (28, _), (32, _), (33, _)]) (by repeat (first | exact RS.nil | refine RS.cons rfl ?_)) ?_
            refine WX.next ?_
            refine WC.region ?_
            refine wlv (op_move (by decide) rfl) rfl ?_
            refine wlv (op_add (by decide) rfl rfl (by omega)) rfl ?_
            refine wlv (op_assign (by decide) rfl) rfl ?_
            refine WL.nil ?_
            refine WX.regs (L' := [(0, _), (2, _), (5, _), (6, _), (8, _), (27, _), (28, _), (32, _), (33, _)]) (by repeat (first | exact RS.nil | refine RS.cons rfl ?_)) ?_
            refine WX.in_normal ?_
            refine WX.next ?_
            refine WC.region ?_
            refine wlv (op_add (by decide) rfl rfl (by omega)) rfl ?_
            refine wlv (op_move (by decide) rfl) rfl ?_
            refine WL.nil ?_
            refine WX.regs (L' := [(0, _), (2, _), (5, _), (6, _), (8, _), (27, _), (28, _), (32, _), (33, _)]) (by repeat (first | exact RS.nil | refine RS.cons rfl ?_)) ?_
            refine WX.meet (r + 1) ⟨by omega, by omega⟩ (fun a w hs => hs.sub (by repeat (first | exact RS.nil | refine RS.cons (by first | rfl | exact congrArg (fun z : Int => some (Value.int .i64 z)) (by omega)) ?_)) (by repeat (first | exact Takes.nil | exact Take.here | apply Takes.cons | apply Take.there)))
          ·
            refine WC.exit ?_
            refine WX.then_exit ?_
            refine WX.then_exit ?_
            refine WX.in_hit ?_
            refine WX.in_normal ?_
            refine WX.next ?_
            refine WC.region ?_
            refine wlv (op_add (by decide) rfl rfl (by omega)) rfl ?_
            refine wlv (op_move (by decide) rfl) rfl ?_
            refine WL.nil ?_
            refine WX.regs (L' := [(0, _), (2, _), (5, _), (6, _), (27, _), (28, _)]) (by repeat (first | exact RS.nil | refine RS.cons rfl ?_)) ?_
            obtain rfl : r = fz j := by omega
            rw [hq_congr (fun t ht => ha_next bs j t ht), show 16 + ps j + fz j = 16 + ps (j + 1) by rw [ps_succ j (by omega)]; omega]
            refine WX.meet (j + 1) ⟨by omega, by omega⟩ (fun a w hs => hs.sub (by repeat (first | exact RS.nil | refine RS.cons (by first | rfl | exact congrArg (fun z : Int => some (Value.int .i64 z)) (by omega)) ?_)) (by repeat (first | exact Takes.nil | exact Take.here | apply Takes.cons | apply Take.there)))
        ·
          refine WC.exit ?_
          refine WX.then_exit ?_
          refine WX.then_exit ?_
          refine WX.in_hit ?_
          refine WX.next ?_
          refine WC.seq ?_
          refine WC.seq ?_
          refine WC.region ?_
          obtain rfl : j = 6 := by omega
          rw [ha_end]
          refine wlv (op_fieldAddr fo93_1 (by decide) rfl) rfl ?_
          refine wlv (op_load1 fl3 (by decide) rfl (by repeat (first | exact List.Mem.head _ | apply List.Mem.tail)) rfl) rfl ?_
          refine wlv (op_gtr (by decide) rfl rfl) rfl ?_
          refine wlv (op_move (by decide) rfl) rfl ?_
          refine WL.split (t := 56) rfl (fun g56 => ?_) (fun g56 => ?_)
          ·
            refine wlg_no rfl rfl rfl rfl rfl (by decide) ?_
            refine wlg_no rfl rfl rfl rfl rfl (by decide) ?_
            refine wlg_no rfl rfl rfl rfl rfl (by decide) ?_
            refine wlg_no rfl rfl rfl rfl rfl (by decide) ?_
            refine wlg_no rfl rfl rfl rfl rfl (by decide) ?_
            refine wlg_no rfl rfl rfl rfl rfl (by decide) ?_
            refine wlg_no rfl rfl rfl rfl rfl (by decide) ?_
            refine wlv (op_pickT (by decide) rfl rfl) rfl ?_
            refine WL.nil ?_
            refine WX.regs (L' := [(0, _), (2, _), (5, _), (64, _)]) (by repeat (first | exact RS.nil | refine RS.cons rfl ?_)) ?_
            refine WX.next ?_
            refine WC.condT rfl ?_
            refine WC.seq ?_
            refine WC.region ?_
            refine wlv (op_build (cs := (pcells 0 0 0 0 0 (.slice none 0 0))) (pv := []) (by decide) rfl (by kernel_rfl)) rfl ?_
            refine wl (op_storeAll sz25 rfl rfl (by repeat (first | exact Take.here | apply Take.there)) (by first | rfl | (simp [Value.cells]; done) | (simp [Value.cells]; omega)) (by first | rfl | exact wvs_one _ | exact bvs_one _) (by first | rfl | (simp [Value.cells]; done) | (simp [Value.cells]; omega))) rfl ?_
            change WL _ _ _ _ _ _ _
            refine wlv (op_assign (by decide) rfl) rfl ?_
            refine WL.nil ?_
            refine WX.nilown 5 1 ?_
            refine WX.regs (L' := [(2, _), (3, _)]) (by repeat (first | exact RS.nil | refine RS.cons rfl ?_)) ?_
            refine WX.next ?_
            refine WC.ret ?_
            refine WX.then_ret ?_
            exact Fin.ret2 (by first | exact .inl rfl | exact .inr rfl) ((none, 0, 0, pt0, 3)) (⟨Eq.symm (by first | exact dec_len hm heq (by omega) | exact dec_bad hm heq (by omega) (.inr (by simpa using h6))), rfl⟩) Try.results21 rfl (.cellN rfl ag25 (by repeat (first | exact List.Mem.head _ | apply List.Mem.tail)) (by first | rfl | (simp [Value.cells]; done) | (simp [Value.cells]; omega))) (.tmp rfl) (by repeat (first | exact Takes.nil | exact Take.here | apply Takes.cons | apply Take.there)) (by simp)
          ·
            refine WL.dupr (v := .slice A 256 c) (sz := 1) (m := 256) (xs := bvs bs) (by repeat (first | exact List.Mem.head _ | apply List.Mem.tail)) (rd_dropB (l := 32 + (fld bs 30 2)) hm (by omega)) ?_
            refine wlgv (op_move (by decide) rfl) rfl rfl rfl ?_
            refine wlgv (op_fieldAddr fo93_1 (by decide) rfl) rfl rfl rfl ?_
            refine wlgv (op_load1 fl3 (by decide) rfl (by repeat (first | exact List.Mem.head _ | apply List.Mem.tail)) rfl) rfl rfl rfl ?_
            refine wlgv (op_add (by decide) rfl rfl (by omega)) rfl rfl rfl ?_
            refine wlgv (op_slice_l Try.underlying22 sz5 (by decide) rfl rfl (by omega) (by omega)) rfl rfl rfl ?_
            refine wlgx (op_call (f42_spec _ (256 - (32 + (fld bs 30 2))) _ (bs.drop (32 + (fld bs 30 2))) (by simp; omega)) ca42 (by decide) rfl (by apply Give.mk; (repeat (first | exact Takes.nil | exact Take.here | apply Takes.cons | apply Take.there)); repeat (first | exact Reads.nil | (apply Reads.rd; (focus (repeat (first | exact List.Mem.head _ | apply List.Mem.tail)); done)) | (apply Reads.own; (focus (repeat (first | exact List.Mem.head _ | apply List.Mem.tail)); done)) | (apply Reads.rx; (focus (repeat (first | exact List.Mem.head _ | apply List.Mem.tail)); done)) | (apply Reads.rows (e := false); (focus (repeat (first | exact List.Mem.head _ | apply List.Mem.tail)); done)) | (apply Reads.rows (e := true); (focus (repeat (first | exact List.Mem.head _ | apply List.Mem.tail)); done))))) rfl rfl rfl ?_
            rintro _ rfl
            refine wlgv (op_not (by decide) rfl) rfl rfl rfl ?_
            refine wlv (op_pickF (by decide) rfl rfl) rfl ?_
            refine WL.nil ?_
            refine WX.regs (L' := [(0, _), (2, _), (5, _), (64, _)]) (by repeat (first | exact RS.nil | refine RS.cons rfl ?_)) ?_
            refine WX.next ?_
            refine WC.condb rfl (fun h6 => ?_) (fun h6 => ?_)
            ·
              refine WC.seq ?_
              refine WC.region ?_
              refine wlv (op_build (cs := (pcells 0 0 0 0 0 (.slice none 0 0))) (pv := []) (by decide) rfl (by kernel_rfl)) rfl ?_
              refine wl (op_storeAll sz25 rfl rfl (by repeat (first | exact Take.here | apply Take.there)) (by first | rfl | (simp [Value.cells]; done) | (simp [Value.cells]; omega)) (by first | rfl | exact wvs_one _ | exact bvs_one _) (by first | rfl | (simp [Value.cells]; done) | (simp [Value.cells]; omega))) rfl ?_
              change WL _ _ _ _ _ _ _
              refine wlv (op_assign (by decide) rfl) rfl ?_
              refine WL.nil ?_
              refine WX.nilown 5 1 ?_
              refine WX.regs (L' := [(2, _), (3, _)]) (by repeat (first | exact RS.nil | refine RS.cons rfl ?_)) ?_
              refine WX.next ?_
              refine WC.ret ?_
              refine WX.then_ret ?_
              exact Fin.ret2 (by first | exact .inl rfl | exact .inr rfl) ((none, 0, 0, pt0, 3)) (⟨Eq.symm (by first | exact dec_len hm heq (by omega) | exact dec_bad hm heq (by omega) (.inr (by simpa using h6))), rfl⟩) Try.results21 rfl (.cellN rfl ag25 (by repeat (first | exact List.Mem.head _ | apply List.Mem.tail)) (by first | rfl | (simp [Value.cells]; done) | (simp [Value.cells]; omega))) (.tmp rfl) (by repeat (first | exact Takes.nil | exact Take.here | apply Takes.cons | apply Take.there)) (by simp)
            ·
              refine WC.skip ?_
              refine WX.next ?_
              refine WC.seq ?_
              refine WC.region ?_
              refine WL.dupr (v := .slice A 256 c) (sz := 1) (m := 256) (xs := bvs bs) (by repeat (first | exact List.Mem.head _ | apply List.Mem.tail)) (rd_subB (l := 32) (h := 32 + (fld bs 30 2)) (by omega) (by omega)) ?_
              refine wlv (op_move (by decide) rfl) rfl ?_
              refine wlv (op_fieldAddr fo93_1 (by decide) rfl) rfl ?_
              refine wlv (op_load1 fl3 (by decide) rfl (by repeat (first | exact List.Mem.head _ | apply List.Mem.tail)) rfl) rfl ?_
              refine wlv (op_add (by decide) rfl rfl (by omega)) rfl ?_
              refine wlv (op_slice_lh Try.underlying22 sz5 (by decide) rfl rfl rfl (by omega) (by omega) (by omega)) rfl ?_
              refine wlx (op_call (f53_spec _ (32 + (fld bs 30 2) - 32) _ ((bs.drop 32).take (32 + (fld bs 30 2) - 32)) (by simp; omega) (by omega)) ca53 (by decide) rfl (by apply Give.mk; (repeat (first | exact Takes.nil | exact Take.here | apply Takes.cons | apply Take.there)); repeat (first | exact Reads.nil | (apply Reads.rd; (focus (repeat (first | exact List.Mem.head _ | apply List.Mem.tail)); done)) | (apply Reads.own; (focus (repeat (first | exact List.Mem.head _ | apply List.Mem.tail)); done)) | (apply Reads.rx; (focus (repeat (first | exact List.Mem.head _ | apply List.Mem.tail)); done)) | (apply Reads.rows (e := false); (focus (repeat (first | exact List.Mem.head _ | apply List.Mem.tail)); done)) | (apply Reads.rows (e := true); (focus (repeat (first | exact List.Mem.head _ | apply List.Mem.tail)); done))))) rfl ?_
              rintro ⟨Ac, cc⟩ _
              rw [show 32 + (fld bs 30 2) - 32 = (fld bs 30 2) by omega]
              refine wlv (op_fieldAddr fo93_0 (by decide) rfl) rfl ?_
              refine wlv (op_fieldAddr fo25_5 (by decide) rfl) rfl ?_
              refine wl (op_store sz22 rfl rfl (by repeat (first | exact Take.here | apply Take.there)) (by first | rfl | (simp [Value.cells]; done) | (simp [Value.cells]; omega)) (by first | rfl | exact wvs_one _ | exact bvs_one _) (by first | exact Nat.le_of_ble_eq_true rfl | (simp; omega))) rfl ?_
              change WL _ _ _ _ _ _ _
              refine WL.blkEq (b := b3) (hdc (fld bs 24 2 : Nat) (fld bs 16 4 : Nat) (fld bs 20 4 : Nat) (fld bs 26 2 : Nat) (fld bs 28 2 : Nat) (.slice Ac (fld bs 30 2) cc) (fld bs 30 2 : Nat)) (by repeat (first | exact Take.here | apply Take.there)) (by rfl) ?_
              refine WL.nil ?_
              refine WX.regs (L' := [(2, _), (5, _)]) (by repeat (first | exact RS.nil | refine RS.cons rfl ?_)) ?_
              refine WX.next ?_
              refine WC.seq ?_
              refine WC.seq ?_
              refine WC.region ?_
              refine wlv (op_fieldAddr fo93_0 (by decide) rfl) rfl ?_
              refine wlv (op_loadN ag25 (by decide) rfl (by repeat (first | exact List.Mem.head _ | apply List.Mem.tail)) rfl) rfl ?_
              refine wlx (op_call (f19_spec _ _ _ _ _ Ac (fld bs 30 2) cc) ca19 (by decide) rfl (by apply Give.mk; (repeat (first | exact Takes.nil | exact Take.here | apply Takes.cons | apply Take.there)); repeat (first | exact Reads.nil | (apply Reads.rd; (focus (repeat (first | exact List.Mem.head _ | apply List.Mem.tail)); done)) | (apply Reads.own; (focus (repeat (first | exact List.Mem.head _ | apply List.Mem.tail)); done)) | (apply Reads.rx; (focus (repeat (first | exact List.Mem.head _ | apply List.Mem.tail)); done)) | (apply Reads.rows (e := false); (focus (repeat (first | exact List.Mem.head _ | apply List.Mem.tail)); done)) | (apply Reads.rows (e := true); (focus (repeat (first | exact List.Mem.head _ | apply List.Mem.tail)); done))))) rfl ?_
              rintro _ rfl
              refine wlv (op_neq (by decide) rfl rfl) rfl ?_
              refine WL.nil ?_
              refine WX.regs (L' := [(2, _), (5, _), (77, _)]) (by repeat (first | exact RS.nil | refine RS.cons rfl ?_)) ?_
              refine WX.next ?_
              refine WC.cond rfl (fun h7 => ?_) (fun h7 => ?_)
              ·
                refine WC.seq ?_
                refine WC.region ?_
                refine wlv (op_build (cs := (pcells 0 0 0 0 0 (.slice none 0 0))) (pv := []) (by decide) rfl (by kernel_rfl)) rfl ?_
                refine wl (op_storeAll sz25 rfl rfl (by repeat (first | exact Take.here | apply Take.there)) (by first | rfl | (simp [Value.cells]; done) | (simp [Value.cells]; omega)) (by first | rfl | exact wvs_one _ | exact bvs_one _) (by first | rfl | (simp [Value.cells]; done) | (simp [Value.cells]; omega))) rfl ?_
                change WL _ _ _ _ _ _ _
                refine wlv (op_assign (by decide) rfl) rfl ?_
                refine WL.nil ?_
                refine WX.nilown 5 1 ?_
                refine WX.regs (L' := [(2, _), (3, _)]) (by repeat (first | exact RS.nil | refine RS.cons rfl ?_)) ?_
                refine WX.next ?_
                refine WC.ret ?_
                refine WX.then_ret ?_
                exact Fin.ret2 (by first | exact .inl rfl | exact .inr rfl) ((none, 0, 0, pt0, 3)) (⟨(dec_bad hm heq (by omega) (.inl (by unfold Pt.chk; rw [decP_len hm (by omega)]; exact h7))).symm, rfl⟩) Try.results21 rfl (.cellN rfl ag25 (by repeat (first | exact List.Mem.head _ | apply List.Mem.tail)) (by first | rfl | (simp [Value.cells]; done) | (simp [Value.cells]; omega))) (.tmp rfl) (by repeat (first | exact Takes.nil | exact Take.here | apply Takes.cons | apply Take.there)) (by simp)
              ·
                refine WC.skip ?_
                refine WX.next ?_
                refine WC.seq ?_
                refine WC.region ?_
                refine wlv (op_fieldAddr fo93_0 (by decide) rfl) rfl ?_
                refine wlv (op_loadN ag25 (by decide) rfl (by repeat (first | exact List.Mem.head _ | apply List.Mem.tail)) rfl) rfl ?_
                refine wl (op_storeAll sz25 rfl rfl (by repeat (first | exact Take.here | apply Take.there)) (by first | rfl | (simp [Value.cells]; done) | (simp [Value.cells]; omega)) (by first | rfl | exact wvs_one _ | exact bvs_one _) (by first | rfl | (simp [Value.cells]; done) | (simp [Value.cells]; omega))) rfl ?_
                change WL _ _ _ _ _ _ _
                refine wlv (op_assign (by decide) rfl) rfl ?_
                refine WL.nil ?_
                refine WX.regs (L' := [(2, _), (3, _)]) (by repeat (first | exact RS.nil | refine RS.cons rfl ?_)) ?_
                refine WX.next ?_
                refine WC.ret ?_
                exact Fin.ret2 (by first | exact .inl rfl | exact .inr rfl) ((Ac, cc, (fld bs 30 2), decP bs, 0)) (⟨(dec_ok hm heq (by omega) (by unfold Pt.chk; rw [decP_len hm (by omega)]; exact Decidable.not_not.1 h7) (by simpa using h6)).symm, (decP_len hm (by omega)).symm⟩) Try.results21 rfl (.cellN rfl ag25 (by repeat (first | exact List.Mem.head _ | apply List.Mem.tail)) (by first | rfl | (simp [Value.cells]; done) | (simp [Value.cells]; omega))) (.tmp rfl) (by repeat (first | exact Takes.nil | exact Take.here | apply Takes.cons | apply Take.there)) (by simp)
end Go.Proofs.Ythephcghglldaaa.Sx
