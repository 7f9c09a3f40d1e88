import Derived.Test.YthephcghglldaaaS4
set_option linter.unusedVariables false
set_option linter.unusedSimpArgs false
namespace Go.Proofs.Ythephcghglldaaa.Sx
open Go.RowKit Go.Proofs.Ythephcghglldaaa.Ty
attribute [local irreducible] blk own rd rx frameC

def zpad (N : Nat) : Nat := (119 - N % 64) % 64
def be8 (N : Nat) : List UInt8 := (List.range 8).map fun j => UInt8.ofNat (N * 8 / 2 ^ (8 * (7 - j)))
theorem be8_length (N : Nat) : (be8 N).length = 8 := by simp [be8]
abbrev plen (N : Nat) : Nat := zpad N + 1 + 8
def pad (N : Nat) : List UInt8 := 128 :: (List.replicate (zpad N) 0 ++ be8 N)
theorem pad_length (N : Nat) : (pad N).length = plen N := by simp [pad, be8_length]
theorem be8_step (N j : Nat) (h : j < 8) : bvs (128 :: (List.replicate (zpad N) 0 ++ (be8 N).take j)) ++ [bv (UInt8.ofNat (N * 8 / 2 ^ (8 * (7 - j))))] = bvs (128 :: (List.replicate (zpad N) 0 ++ (be8 N).take (j + 1))) := by
  have hl : j < (be8 N).length := by rw [be8_length]; exact h
  rw [List.take_succ_eq_append_getElem hl]
  simp [bvs, be8]
theorem sh8 (N j : Nat) (h : j ≤ 7) : ((N : Int) * 8 / ((2 ^ (8 * (7 - (j : Int))).toNat : Nat) : Int)).toNat = N * 8 / 2 ^ (8 * (7 - j)) := by
  have e1 : (8 * (7 - (j : Int))).toNat = 8 * (7 - j) := by omega
  rw [e1, show ((N : Int) * 8) = ((N * 8 : Nat) : Int) by omega, ← Int.natCast_ediv, Int.toNat_natCast]
theorem zeros_step (j : Nat) : bvs (128 :: List.replicate j 0) ++ [bv 0] = bvs (128 :: List.replicate (j + 1) 0) := by
  simp only [bvs, List.map_cons, List.map_replicate, List.cons_append]
  rw [List.replicate_succ']
def S8.list (s : S8) : List UInt32 := [s.a, s.b, s.c, s.d, s.e, s.f, s.g, s.h]
def wb (w : UInt32) : List UInt8 := [(w >>> 24).toUInt8, (w >>> 16).toUInt8, (w >>> 8).toUInt8, w.toUInt8]
def dig (s : S8) : List UInt8 := s.list.flatMap wb
theorem dig_length (s : S8) : (dig s).length = 32 := by simp [dig, S8.list, wb]
theorem flat_take (ws : List UInt32) (i : Nat) (h : i < ws.length) : (ws.take (i + 1)).flatMap wb = (ws.take i).flatMap wb ++ wb (ws.getD i 0) := by
  rw [List.take_succ_eq_append_getElem h, List.flatMap_append]
  simp [h]
theorem flat_length (ws : List UInt32) : (ws.flatMap wb).length = 4 * ws.length := by
  induction ws with
  | nil => rfl
  | cons w ws ih => simp [wb] at ih ⊢; omega
theorem bvs_put {bs : List UInt8} {j k : Nat} {x : UInt8} (h : j = k) (hk : k < bs.length) : pset (bvs bs) j (bv x).cells.toList = bvs (bs.set k x) := by
  subst h
  show pset (bvs bs) j [bv x] = _
  rw [pset_one _ _ _ (by simpa using hk)]
  simp [bvs, List.map_set]
theorem put4 (pre : List UInt8) (k : Nat) (w : UInt32) (i : Nat) (hp : pre.length = 4 * i) (hk : 0 < k) :
    ((((pre ++ List.replicate (4 * k) 0).set (4 * i) (w >>> 24).toUInt8).set (4 * i + 1) (w >>> 16).toUInt8).set (4 * i + 2) (w >>> 8).toUInt8).set (4 * i + 3) w.toUInt8 = (pre ++ wb w) ++ List.replicate (4 * (k - 1)) 0 := by
  obtain ⟨q, rfl⟩ : ∃ q, k = q + 1 := ⟨k - 1, by omega⟩
  have e : 4 * (q + 1) = 4 * q + 1 + 1 + 1 + 1 := by omega
  rw [e, ← hp]
  simp [List.replicate_succ, wb, List.set_append]
theorem regs_len (S : S8) (i : Nat) (h : i ≤ 8) : ((S.list.take i).flatMap wb ++ List.replicate (4 * (8 - i)) (0 : UInt8)).length = 32 := by
  rw [List.length_append, flat_length, List.length_take, List.length_replicate]
  simp [S8.list]
  omega
theorem regs_step (S : S8) (i : Nat) (h : i < 8) :
    ((((S.list.take i).flatMap wb ++ List.replicate (4 * (8 - i)) (0 : UInt8)).set (4 * i) ((S.list.getD i 0) >>> 24).toUInt8).set (4 * i + 1) ((S.list.getD i 0) >>> 16).toUInt8 |>.set (4 * i + 2) ((S.list.getD i 0) >>> 8).toUInt8).set (4 * i + 3) (S.list.getD i 0).toUInt8 =
      (S.list.take (i + 1)).flatMap wb ++ List.replicate (4 * (8 - (i + 1))) 0 := by
  rw [flat_take _ _ (by simp [S8.list]; omega)]
  rw [put4 _ (8 - i) _ i (by rw [flat_length, List.length_take]; simp [S8.list]; omega) (by omega)]
  rw [Nat.sub_sub]
set_option maxHeartbeats 400000 in
set_option maxRecDepth 10000 in
theorem f65_spec (hb : Nat) (s : S8) (A B : Option Addr) (r c m cB : Nat) (n : Nat) (rs bs : List UInt8) (hr : rs.length = r) (hm : bs.length = m) (hr' : r < 1000000) (hm' : m < 1000000) (hn : n < 1000000) :
    Spec Try.prog 65 [.pointer (some ⟨hb, 0, none⟩), .slice B m cB] [blk hb (hcells s (.slice A r c) n) 131] [rd (.slice A r c) 1 r (bvs rs), rd (.slice B m cB) 1 m (bvs bs)] (R := Option Addr × Nat) (fun _ => True)
      (fun q => .int .i64 0) (fun q => [blk hb (hcells (absorb s (rs ++ bs) ((r + m) / 64)) (.slice q.1 ((r + m) % 64) q.2) ((n + m : Nat) : Int)) 131, rx (.slice q.1 ((r + m) % 64) q.2) 1 ((r + m) % 64) (bvs ((rs ++ bs).drop (64 * ((r + m) / 64))))]) := by
  refine Spec.intro Try.func65 Try.ntmps65 rfl (by simp) (by simp) fun w0 => ?_
  refine WC.seq ?_
  refine WC.region ?_
  refine wlv (op_assign (by decide) rfl) rfl ?_
  refine WL.nil ?_
  refine WX.regs (L' := [(0, _), (1, _)]) (by repeat (first | exact RS.nil | refine RS.cons rfl ?_)) ?_
  refine WX.next ?_
  refine WC.seq ?_
  refine WC.seq ?_
  refine WC.region ?_
  refine wlv (op_move (by decide) rfl) rfl ?_
  refine wlv (op_eqlnil Try.underlying123 (by decide) rfl rfl) rfl ?_
  refine WL.nil ?_
  refine WX.regs (L' := [(0, _), (1, _), (6, _)]) (by repeat (first | exact RS.nil | refine RS.cons rfl ?_)) ?_
  refine WX.next ?_
  refine WC.condF rfl ?_
  refine WC.skip ?_
  refine WX.next ?_
  refine WC.seq ?_
  refine WC.region ?_
  refine wlv (op_move (by decide) rfl) rfl ?_
  refine wlv (op_move (by decide) rfl) rfl ?_
  refine wlx (op_call (f68_spec hb s A B r c m cB n rs bs hr hm hr' hm') ca68 (by decide) rfl (by apply Give.mk; (repeat (first | exact Takes.nil | exact Take.here | apply Takes.cons | apply Take.there)); repeat (first | exact Reads.nil | (apply Reads.rd; (focus (repeat (first | exact List.Mem.head _ | apply List.Mem.tail)); done)) | (apply Reads.own; (focus (repeat (first | exact List.Mem.head _ | apply List.Mem.tail)); done)) | (apply Reads.rx; (focus (repeat (first | exact List.Mem.head _ | apply List.Mem.tail)); done)) | (apply Reads.rows (e := false); (focus (repeat (first | exact List.Mem.head _ | apply List.Mem.tail)); done)) | (apply Reads.rows (e := true); (focus (repeat (first | exact List.Mem.head _ | apply List.Mem.tail)); done))))) rfl ?_
  rintro ⟨A1, c1⟩ _
  refine WL.nil ?_
  refine WX.regs (L' := [(0, _), (1, _)]) (by repeat (first | exact RS.nil | refine RS.cons rfl ?_)) ?_
  refine WX.next ?_
  refine WC.seq ?_
  refine WC.region ?_
  refine wlv (op_move (by decide) rfl) rfl ?_
  refine wlv (op_nilCheck (by decide) rfl) rfl ?_
  refine wlv (op_fieldAddr fo131_2 (by decide) rfl) rfl ?_
  refine wlv (op_load1 fl3 (by decide) rfl (by repeat (first | exact List.Mem.head _ | apply List.Mem.tail)) rfl) rfl ?_
  refine wlv (op_move (by decide) rfl) rfl ?_
  refine wlv (op_len Try.underlying22 (by decide) rfl) rfl ?_
  refine wlv (op_add (by decide) rfl rfl (by omega)) rfl ?_
  refine wlv (op_nilCheck (by decide) rfl) rfl ?_
  refine wlv (op_fieldAddr fo131_2 (by decide) rfl) rfl ?_
  refine wl (op_store sz3 rfl rfl (by repeat (first | exact Take.here | apply Take.there)) (by first | rfl | (simp [Value.cells]; done) | (simp [Value.cells]; omega)) (by first | rfl | exact wvs_one _ | exact bvs_one _) (by first | exact Nat.le_of_ble_eq_true rfl | (simp; omega))) rfl ?_
  change WL _ _ _ _ _ _ _
  refine WL.nil ?_
  refine WX.regs (L' := []) (by repeat (first | exact RS.nil | refine RS.cons rfl ?_)) ?_
  refine WX.next ?_
  refine WC.seq ?_
  refine WC.region ?_
  refine wlv (op_assign (by decide) rfl) rfl ?_
  refine WL.nil ?_
  refine WX.regs (L' := [(4, _)]) (by repeat (first | exact RS.nil | refine RS.cons rfl ?_)) ?_
  refine WX.next ?_
  refine WC.ret ?_
  exact Fin.ret1 (by first | exact .inl rfl | exact .inr rfl) ((A1, c1)) (trivial) Try.results65 (.tmp rfl) (by repeat (first | exact Takes.nil | exact Take.here | apply Takes.cons | apply Take.there)) (by simp)
set_option maxHeartbeats 400000 in
set_option maxRecDepth 10000 in
theorem f66_spec (hb : Nat) (s : S8) (A : Option Addr) (r c : Nat) (N : Nat) (rs : List UInt8) (hr : rs.length = r) (hr' : r < 100000) (hN : N < 1000000) :
    Spec Try.prog 66 [.pointer (some ⟨hb, 0, none⟩)] [blk hb (hcells s (.slice A r c) (N : Int)) 131] [rd (.slice A r c) 1 r (bvs rs)] (R := Unit) (fun _ => True)
      (fun _ => .agg (bvs (dig (absorb s (rs ++ pad N) ((r + plen N) / 64)))).toArray) (fun _ => [blk hb (hcells s (.slice A r c) (N : Int)) 131]) := by
  have hz : zpad N < 64 := by unfold zpad; omega
  generalize hS : absorb s (rs ++ pad N) ((r + plen N) / 64) = S
  refine Spec.intro Try.func66 Try.ntmps66 rfl (by simp) (by simp) fun w0 => ?_
  refine WC.seq ?_
  refine WC.region ?_
  refine wl1 (op_alloc ti120 (by decide)) rfl fun b1 => ?_
  refine WL.nil ?_
  refine WX.regs (L' := [(0, _), (2, _)]) (by repeat (first | exact RS.nil | refine RS.cons rfl ?_)) ?_
  refine WX.next ?_
  refine WC.seq ?_
  refine WC.seq ?_
  refine WC.region ?_
  refine wlv (op_move (by decide) rfl) rfl ?_
  refine wlv (op_eqlnil Try.underlying123 (by decide) rfl rfl) rfl ?_
  refine WL.nil ?_
  refine WX.regs (L' := [(0, _), (2, _), (11, _)]) (by repeat (first | exact RS.nil | refine RS.cons rfl ?_)) ?_
  refine WX.next ?_
  refine WC.condF rfl ?_
  refine WC.skip ?_
  refine WX.next ?_
  refine WC.seq ?_
  refine WC.region ?_
  refine wlv (op_move (by decide) rfl) rfl ?_
  refine wlx (op_call (f69_spec hb s A r c N rs (by omega)) ca69 (by decide) rfl (by apply Give.mk; (repeat (first | exact Takes.nil | exact Take.here | apply Takes.cons | apply Take.there)); repeat (first | exact Reads.nil | (apply Reads.rd; (focus (repeat (first | exact List.Mem.head _ | apply List.Mem.tail)); done)) | (apply Reads.own; (focus (repeat (first | exact List.Mem.head _ | apply List.Mem.tail)); done)) | (apply Reads.rx; (focus (repeat (first | exact List.Mem.head _ | apply List.Mem.tail)); done)) | (apply Reads.rows (e := false); (focus (repeat (first | exact List.Mem.head _ | apply List.Mem.tail)); done)) | (apply Reads.rows (e := true); (focus (repeat (first | exact List.Mem.head _ | apply List.Mem.tail)); done))))) rfl ?_
  rintro ⟨nb, Ar, cr⟩ _
  refine wlv (op_assign (by decide) rfl) rfl ?_
  refine WL.nil ?_
  refine WX.regs (L' := [(2, _), (3, _)]) (by repeat (first | exact RS.nil | refine RS.cons rfl ?_)) ?_
  refine WX.next ?_
  refine WC.seq ?_
  refine WC.region ?_
  refine wl1 (op_lit1 Try.underlying22 ti5 rfl (by decide) (by decide) rfl rfl) rfl fun b2 => ?_
  refine wlv (op_assign (by decide) rfl) rfl ?_
  refine WL.nil ?_
  refine WX.regs (L' := [(2, _), (3, _), (4, _)]) (by repeat (first | exact RS.nil | refine RS.cons rfl ?_)) ?_
  refine WX.next ?_
  refine WC.seq ?_
  refine WC.block ?_
  refine WC.loop (X := Nat × Option Addr × Nat) (fun q => zpad N - q.1) (fun q => q.1 ≤ zpad N) (fun q => [(2, .pointer (some ⟨b1, 0, none⟩)), (3, .pointer (some ⟨nb, 0, none⟩)), (4, .slice q.2.1 (q.1 + 1) q.2.2)]) (fun q => [own (.slice q.2.1 (q.1 + 1) q.2.2) 5 1 (q.1 + 1) (bvs (128 :: List.replicate q.1 0)), blk nb (hcells s (.slice Ar r cr) (N : Int)) 131, rx (.slice Ar r cr) 1 r (bvs rs), blk hb (hcells s (.slice A r c) (N : Int)) 131, blk b1 (List.replicate 32 (.int .u8 0)) 120, frameC w0 (MutF [blk hb (hcells s (.slice A r c) (N : Int)) 131])]) ((0, some ⟨b2, 0, none⟩, 1)) (Nat.zero_le _) (fun a w hs => hs.sub (by repeat (first | exact RS.nil | refine RS.cons (by first | rfl | exact congrArg (fun z : Int => some (Value.int .i64 z)) (by omega)) ?_)) (by repeat (first | exact Takes.nil | exact Take.here | apply Takes.cons | apply Take.there))) ?_
  rintro ⟨j, Aj, cj⟩ hj
  try dsimp only at hj ⊢
  refine WC.seq ?_
  refine WC.seq ?_
  refine WC.region ?_
  refine wlv (op_move (by decide) rfl) rfl ?_
  refine wlv (op_nilCheck (by decide) rfl) rfl ?_
  refine wlv (op_fieldAddr fo131_2 (by decide) rfl) rfl ?_
  refine wlv (op_load1 fl3 (by decide) rfl (by repeat (first | exact List.Mem.head _ | apply List.Mem.tail)) rfl) rfl ?_
  refine wlv (op_move (by decide) rfl) rfl ?_
  refine wlv (op_len Try.underlying22 (by decide) rfl) rfl ?_
  refine wlv (op_add (by decide) rfl rfl (by omega)) rfl ?_
  refine wlv (op_rem (by decide) rfl rfl (by omega) (by omega)) rfl ?_
  refine wlv (op_neq (by decide) rfl rfl) rfl ?_
  refine WL.nil ?_
  refine WX.regs (L' := [(2, _), (3, _), (4, _), (24, _)]) (by repeat (first | exact RS.nil | refine RS.cons rfl ?_)) ?_
  refine WX.next ?_
  refine WC.cond rfl (fun h2 => ?_) (fun h2 => ?_)
  ·
    refine WC.skip ?_
    refine WX.next ?_
    refine WC.block ?_
    refine WC.region ?_
    refine wlv (op_move (by decide) rfl) rfl ?_
    refine wl1 (op_lit1 Try.underlying22 ti5 rfl (by decide) (by decide) rfl rfl) rfl fun b3 => ?_
    refine wl2 (op_append Try.underlying22 ti5 rfl (by decide) (by decide) rfl rfl (by repeat (first | exact Take.here | apply Take.there)) (by first | (apply Src.rd; (repeat (first | exact List.Mem.head _ | apply List.Mem.tail)); done) | (apply Src.own; (repeat (first | exact List.Mem.head _ | apply List.Mem.tail)); done) | (apply Src.rx; (repeat (first | exact List.Mem.head _ | apply List.Mem.tail)); done)) (by first | rfl | exact wvs_one _ | exact bvs_one _) (by omega) (by omega)) rfl fun A1 c1 => ?_
    refine wlv (op_assign (by decide) rfl) rfl ?_
    refine WL.nil ?_
    refine WX.ownEq (v := .slice A1 (j + 1 + 1) c1) _ (by repeat (first | exact Take.here | apply Take.there)) (zeros_step j) ?_
    refine WX.regs (L' := [(2, _), (3, _), (4, _)]) (by repeat (first | exact RS.nil | refine RS.cons rfl ?_)) ?_
    refine WX.in_normal ?_
    refine WX.meet ((j + 1, _, _)) ⟨by simp only []; unfold zpad at hj ⊢; omega, by simp only []; unfold zpad at hj ⊢; omega⟩ (fun a w hs => hs.sub (by repeat (first | exact RS.nil | refine RS.cons (by first | rfl | exact congrArg (fun z : Int => some (Value.int .i64 z)) (by omega)) ?_)) (by repeat (first | exact Takes.nil | exact Take.here | apply Takes.cons | apply Take.there)))
  ·
    refine WC.exit ?_
    refine WX.then_exit ?_
    refine WX.then_exit ?_
    refine WX.in_hit ?_
    refine WX.next ?_
    refine WC.seq ?_
    refine WC.seq ?_
    refine WC.region ?_
    refine wlv (op_assign (by decide) rfl) rfl ?_
    refine WL.nil ?_
    refine WX.regs (L' := [(2, _), (3, _), (4, _), (5, _)]) (by repeat (first | exact RS.nil | refine RS.cons rfl ?_)) ?_
    refine WX.next ?_
    refine WC.block ?_
    obtain rfl : j = zpad N := by unfold zpad at hj ⊢; omega
    rw [show bvs (128 :: List.replicate (zpad N) 0) = bvs (128 :: (List.replicate (zpad N) 0 ++ (be8 N).take 0)) by simp]
    refine WC.loop (X := Nat × Option Addr × Nat) (fun q => 8 - q.1) (fun q => q.1 ≤ 8) (fun q => [(2, .pointer (some ⟨b1, 0, none⟩)), (3, .pointer (some ⟨nb, 0, none⟩)), (4, .slice q.2.1 (zpad N + 1 + q.1) q.2.2), (5, .int .i64 (7 - (q.1 : Int)))]) (fun q => [own (.slice q.2.1 (zpad N + 1 + q.1) q.2.2) 5 1 (zpad N + 1 + q.1) (bvs (128 :: (List.replicate (zpad N) 0 ++ (be8 N).take q.1))), blk nb (hcells s (.slice Ar r cr) (N : Int)) 131, rx (.slice Ar r cr) 1 r (bvs rs), blk hb (hcells s (.slice A r c) (N : Int)) 131, blk b1 (List.replicate 32 (.int .u8 0)) 120, frameC w0 (MutF [blk hb (hcells s (.slice A r c) (N : Int)) 131])]) ((0, Aj, cj)) (Nat.zero_le _) (fun a w hs => hs.sub (by repeat (first | exact RS.nil | refine RS.cons (by first | rfl | exact congrArg (fun z : Int => some (Value.int .i64 z)) (by omega)) ?_)) (by repeat (first | exact Takes.nil | exact Take.here | apply Takes.cons | apply Take.there))) ?_
    rintro ⟨j2, Ak, ck⟩ hk
    try dsimp only at hk ⊢
    refine WC.seq ?_
    refine WC.seq ?_
    refine WC.region ?_
    refine wlv (op_move (by decide) rfl) rfl ?_
    refine wlv (op_geq (by decide) rfl rfl) rfl ?_
    refine WL.nil ?_
    refine WX.regs (L' := [(2, _), (3, _), (4, _), (5, _), (29, _)]) (by repeat (first | exact RS.nil | refine RS.cons rfl ?_)) ?_
    refine WX.next ?_
    refine WC.cond rfl (fun h3 => ?_) (fun h3 => ?_)
    ·
      refine WC.skip ?_
      refine WX.next ?_
      refine WC.seq ?_
      refine WC.block ?_
      refine WC.region ?_
      refine wlv (op_move (by decide) rfl) rfl ?_
      refine wlv (op_move (by decide) rfl) rfl ?_
      refine wlv (op_nilCheck (by decide) rfl) rfl ?_
      refine wlv (op_fieldAddr fo131_2 (by decide) rfl) rfl ?_
      refine wlv (op_load1 fl3 (by decide) rfl (by repeat (first | exact List.Mem.head _ | apply List.Mem.tail)) rfl) rfl ?_
      refine wlv (op_convi64u64 (by kernel_rfl) Try.underlying122 (by decide) rfl (by omega)) rfl ?_
      refine wlv (op_mul64 (by decide) rfl rfl (by omega)) rfl ?_
      refine wlv (op_move (by decide) rfl) rfl ?_
      refine wlv (op_mul (by decide) rfl rfl (by omega)) rfl ?_
      refine wlv (op_shr64 (by decide) rfl rfl (by omega)) rfl ?_
      refine wlv (op_conv648 (by kernel_rfl) Try.underlying5 (by decide) rfl (Int.ediv_nonneg (by omega) (Int.natCast_nonneg _))) rfl ?_
      refine wl1 (op_lit1 Try.underlying22 ti5 rfl (by decide) (by decide) rfl rfl) rfl fun b4 => ?_
      refine wl2 (op_append Try.underlying22 ti5 rfl (by decide) (by decide) rfl rfl (by repeat (first | exact Take.here | apply Take.there)) (by first | (apply Src.rd; (repeat (first | exact List.Mem.head _ | apply List.Mem.tail)); done) | (apply Src.own; (repeat (first | exact List.Mem.head _ | apply List.Mem.tail)); done) | (apply Src.rx; (repeat (first | exact List.Mem.head _ | apply List.Mem.tail)); done)) (by first | rfl | exact wvs_one _ | exact bvs_one _) (by omega) (by omega)) rfl fun A2 c2 => ?_
      refine wlv (op_assign (by decide) rfl) rfl ?_
      refine WL.nil ?_
      rw [sh8 N j2 (by omega)]
      refine WX.ownEq (v := .slice A2 (zpad N + 1 + j2 + 1) c2) _ (by repeat (first | exact Take.here | apply Take.there)) (be8_step N j2 (by omega)) ?_
      refine WX.regs (L' := [(2, _), (3, _), (4, _), (5, _)]) (by repeat (first | exact RS.nil | refine RS.cons rfl ?_)) ?_
      refine WX.in_normal ?_
      refine WX.next ?_
      refine WC.region ?_
      refine wlv (op_move (by decide) rfl) rfl ?_
      refine wlv (op_sub (by decide) rfl rfl (by omega)) rfl ?_
      refine wlv (op_assign (by decide) rfl) rfl ?_
      refine WL.nil ?_
      refine WX.regs (L' := [(2, _), (3, _), (4, _), (5, _)]) (by repeat (first | exact RS.nil | refine RS.cons rfl ?_)) ?_
      refine WX.meet ((j2 + 1, _, _)) ⟨by simp only []; omega, by simp only []; omega⟩ (fun a w hs => hs.sub (by repeat (first | exact RS.nil | refine RS.cons (by first | rfl | exact congrArg (fun z : Int => some (Value.int .i64 z)) (by omega)) ?_)) (by repeat (first | exact Takes.nil | exact Take.here | apply Takes.cons | apply Take.there)))
    ·
      refine WC.exit ?_
      refine WX.then_exit ?_
      refine WX.then_exit ?_
      refine WX.in_hit ?_
      refine WX.next ?_
      refine WC.seq ?_
      refine WC.region ?_
      obtain rfl : j2 = 8 := by omega
      rw [show bvs (128 :: (List.replicate (zpad N) 0 ++ List.take 8 (be8 N))) = bvs (pad N) by rw [List.take_of_length_le (by rw [be8_length]; omega)]; rfl]
      refine wlv (op_move (by decide) rfl) rfl ?_
      refine wlv (op_move (by decide) rfl) rfl ?_
      refine wlx (op_call (f68_spec nb s Ar Ak r cr (plen N) ck N rs (pad N) hr (pad_length N) (by omega) (by show zpad N + 1 + 8 < 1000000; omega)) ca68 (by decide) rfl (by apply Give.mk; (repeat (first | exact Takes.nil | exact Take.here | apply Takes.cons | apply Take.there)); repeat (first | exact Reads.nil | (apply Reads.rd; (focus (repeat (first | exact List.Mem.head _ | apply List.Mem.tail)); done)) | (apply Reads.own; (focus (repeat (first | exact List.Mem.head _ | apply List.Mem.tail)); done)) | (apply Reads.rx; (focus (repeat (first | exact List.Mem.head _ | apply List.Mem.tail)); done)) | (apply Reads.rows (e := false); (focus (repeat (first | exact List.Mem.head _ | apply List.Mem.tail)); done)) | (apply Reads.rows (e := true); (focus (repeat (first | exact List.Mem.head _ | apply List.Mem.tail)); done))))) rfl ?_
      rintro ⟨At, ct⟩ _
      rw [hS]
      refine WL.nil ?_
      refine WX.regs (L' := [(2, _), (3, _)]) (by repeat (first | exact RS.nil | refine RS.cons rfl ?_)) ?_
      refine WX.next ?_
      refine WC.seq ?_
      refine WC.region ?_
      refine wl1 (op_alloc ti120 (by decide)) rfl fun b5 => ?_
      refine WL.nil ?_
      refine WX.regs (L' := [(2, _), (3, _), (6, _)]) (by repeat (first | exact RS.nil | refine RS.cons rfl ?_)) ?_
      refine WX.next ?_
      refine WC.seq ?_
      refine WC.region ?_
      refine wlv (op_move (by decide) rfl) rfl ?_
      refine wlv (op_nilCheck (by decide) rfl) rfl ?_
      refine wlv (op_fieldAddr fo131_0 (by decide) rfl) rfl ?_
      refine wlv (op_loadN ag128 (by decide) rfl (by repeat (first | exact List.Mem.head _ | apply List.Mem.tail)) rfl) rfl ?_
      refine wl1 (op_alloc ti128 (by decide)) rfl fun b6 => ?_
      refine wl (op_storeAll sz128 rfl rfl (by repeat (first | exact Take.here | apply Take.there)) (by first | rfl | (simp [Value.cells]; done) | (simp [Value.cells]; omega)) (by first | rfl | exact wvs_one _ | exact bvs_one _) (by first | rfl | (simp [Value.cells]; done) | (simp [Value.cells]; omega))) rfl ?_
      change WL _ _ _ _ _ _ _
      refine WL.nil ?_
      refine WX.regs (L' := [(2, _), (6, _), (7, _)]) (by repeat (first | exact RS.nil | refine RS.cons rfl ?_)) ?_
      refine WX.next ?_
      refine WC.seq ?_
      refine WC.seq ?_
      refine WC.region ?_
      refine wlv (op_fieldAddr fo128_0 (by decide) rfl) rfl ?_
      refine wlv (op_load1 fl114 (by decide) rfl (by repeat (first | exact List.Mem.head _ | apply List.Mem.tail)) rfl) rfl ?_
      refine wlv (op_fieldAddr fo128_1 (by decide) rfl) rfl ?_
      refine wlv (op_load1 fl114 (by decide) rfl (by repeat (first | exact List.Mem.head _ | apply List.Mem.tail)) rfl) rfl ?_
      refine wlv (op_fieldAddr fo128_2 (by decide) rfl) rfl ?_
      refine wlv (op_load1 fl114 (by decide) rfl (by repeat (first | exact List.Mem.head _ | apply List.Mem.tail)) rfl) rfl ?_
      refine wlv (op_fieldAddr fo128_3 (by decide) rfl) rfl ?_
      refine wlv (op_load1 fl114 (by decide) rfl (by repeat (first | exact List.Mem.head _ | apply List.Mem.tail)) rfl) rfl ?_
      refine wlv (op_fieldAddr fo128_4 (by decide) rfl) rfl ?_
      refine wlv (op_load1 fl114 (by decide) rfl (by repeat (first | exact List.Mem.head _ | apply List.Mem.tail)) rfl) rfl ?_
      refine wlv (op_fieldAddr fo128_5 (by decide) rfl) rfl ?_
      refine wlv (op_load1 fl114 (by decide) rfl (by repeat (first | exact List.Mem.head _ | apply List.Mem.tail)) rfl) rfl ?_
      refine wlv (op_fieldAddr fo128_6 (by decide) rfl) rfl ?_
      refine wlv (op_load1 fl114 (by decide) rfl (by repeat (first | exact List.Mem.head _ | apply List.Mem.tail)) rfl) rfl ?_
      refine wlv (op_fieldAddr fo128_7 (by decide) rfl) rfl ?_
      refine wlv (op_load1 fl114 (by decide) rfl (by repeat (first | exact List.Mem.head _ | apply List.Mem.tail)) rfl) rfl ?_
      refine wlv (op_build (cs := (wvs S.list)) (pv := [(0, _), (1, _), (2, _), (3, _), (4, _), (5, _), (6, _), (7, _)]) (by decide) rfl (by kernel_rfl)) rfl ?_
      refine wlv (op_move (by decide) rfl) rfl ?_
      refine WL.nil ?_
      refine WX.regs (L' := [(2, _), (6, _), (68, _), (69, _)]) (by repeat (first | exact RS.nil | refine RS.cons rfl ?_)) ?_
      refine WX.next ?_
      refine WC.block ?_
      refine WC.loop (X := Nat) (fun i => 8 - i) (fun i => i ≤ 8) (fun i => [(2, .pointer (some ⟨b1, 0, none⟩)), (6, .pointer (some ⟨b5, 0, none⟩)), (68, .agg (wvs S.list).toArray), (69, .int .i64 (i : Int))]) (fun i => [blk b5 (bvs ((S.list.take i).flatMap wb ++ List.replicate (4 * (8 - i)) 0)) 120, blk hb (hcells s (.slice A r c) (N : Int)) 131, blk b1 (List.replicate 32 (.int .u8 0)) 120, frameC w0 (MutF [blk hb (hcells s (.slice A r c) (N : Int)) 131])]) (0) (Nat.zero_le _) (fun a w hs => hs.sub (by repeat (first | exact RS.nil | refine RS.cons (by first | rfl | exact congrArg (fun z : Int => some (Value.int .i64 z)) (by omega)) ?_)) (by repeat (first | exact Takes.nil | exact Take.here | apply Takes.cons | apply Take.there))) ?_
      rintro i hi
      try dsimp only
      have hX := regs_len S i hi
      refine WC.seq ?_
      refine WC.region ?_
      refine wlv (op_lss (by decide) rfl rfl) rfl ?_
      refine WL.nil ?_
      refine WX.regs (L' := [(2, _), (6, _), (68, _), (69, _), (70, _)]) (by repeat (first | exact RS.nil | refine RS.cons rfl ?_)) ?_
      refine WX.next ?_
      refine WC.seq ?_
      refine WC.cond rfl (fun h4 => ?_) (fun h4 => ?_)
      ·
        refine WC.skip ?_
        refine WX.next ?_
        refine WC.seq ?_
        refine WC.block ?_
        refine WC.seq ?_
        refine WC.region ?_
        refine wlv (op_move (by decide) rfl) rfl ?_
        refine wlv (op_indexV Try.underlying115 sz114 fl114 (by decide) rfl rfl (by omega) (by omega) (wvs_atA (k := i) (by omega) (by simp [S8.list]; omega))) rfl ?_
        refine wlv (op_assign (by decide) rfl) rfl ?_
        refine wlv (op_assign (by decide) rfl) rfl ?_
        refine WL.nil ?_
        refine WX.regs (L' := [(2, _), (6, _), (8, _), (9, _), (68, _), (69, _)]) (by repeat (first | exact RS.nil | refine RS.cons rfl ?_)) ?_
        refine WX.next ?_
        refine WC.region ?_
        refine wlv (op_move (by decide) rfl) rfl ?_
        refine wlv (op_mul (by decide) rfl rfl (by omega)) rfl ?_
        refine wlv (op_move (by decide) rfl) rfl ?_
        refine wlv (op_mul (by decide) rfl rfl (by omega)) rfl ?_
        refine wlv (op_add (by decide) rfl rfl (by omega)) rfl ?_
        refine wlv (op_move (by decide) rfl) rfl ?_
        refine wlv (op_mul (by decide) rfl rfl (by omega)) rfl ?_
        refine wlv (op_add (by decide) rfl rfl (by omega)) rfl ?_
        refine wlv (op_move (by decide) rfl) rfl ?_
        refine wlv (op_mul (by decide) rfl rfl (by omega)) rfl ?_
        refine wlv (op_add (by decide) rfl rfl (by omega)) rfl ?_
        refine wlv (op_move (by decide) rfl) rfl ?_
        refine wlv (op_shr32 (by decide) rfl rfl (by decide)) rfl ?_
        refine wlv (op_conv328 (by kernel_rfl) Try.underlying5 (by decide) rfl) rfl ?_
        refine wlv (op_move (by decide) rfl) rfl ?_
        refine wlv (op_shr32 (by decide) rfl rfl (by decide)) rfl ?_
        refine wlv (op_conv328 (by kernel_rfl) Try.underlying5 (by decide) rfl) rfl ?_
        refine wlv (op_move (by decide) rfl) rfl ?_
        refine wlv (op_shr32 (by decide) rfl rfl (by decide)) rfl ?_
        refine wlv (op_conv328 (by kernel_rfl) Try.underlying5 (by decide) rfl) rfl ?_
        refine wlv (op_move (by decide) rfl) rfl ?_
        refine wlv (op_conv328 (by kernel_rfl) Try.underlying5 (by decide) rfl) rfl ?_
        refine wlv (op_indexArr Try.underlying120 sz5 (by decide) rfl rfl (by omega) (by omega)) rfl ?_
        refine wl (op_store sz5 rfl rfl (by repeat (first | exact Take.here | apply Take.there)) (by first | rfl | (simp [Value.cells]; done) | (simp [Value.cells]; omega)) (by first | rfl | exact wvs_one _ | exact bvs_one _) (by rw [bvs_length]; simp only [List.length_set, hX]; omega)) rfl ?_
        change WL _ _ _ _ _ _ _
        refine WL.blkEq (b := b5) _ (by repeat (first | exact Take.here | apply Take.there)) (bvs_put (k := 4 * i + 0) (by omega) (by simp only [List.length_set, hX]; omega)) ?_
        refine wlv (op_indexArr Try.underlying120 sz5 (by decide) rfl rfl (by omega) (by omega)) rfl ?_
        refine wl (op_store sz5 rfl rfl (by repeat (first | exact Take.here | apply Take.there)) (by first | rfl | (simp [Value.cells]; done) | (simp [Value.cells]; omega)) (by first | rfl | exact wvs_one _ | exact bvs_one _) (by rw [bvs_length]; simp only [List.length_set, hX]; omega)) rfl ?_
        change WL _ _ _ _ _ _ _
        refine WL.blkEq (b := b5) _ (by repeat (first | exact Take.here | apply Take.there)) (bvs_put (k := 4 * i + 1) (by omega) (by simp only [List.length_set, hX]; omega)) ?_
        refine wlv (op_indexArr Try.underlying120 sz5 (by decide) rfl rfl (by omega) (by omega)) rfl ?_
        refine wl (op_store sz5 rfl rfl (by repeat (first | exact Take.here | apply Take.there)) (by first | rfl | (simp [Value.cells]; done) | (simp [Value.cells]; omega)) (by first | rfl | exact wvs_one _ | exact bvs_one _) (by rw [bvs_length]; simp only [List.length_set, hX]; omega)) rfl ?_
        change WL _ _ _ _ _ _ _
        refine WL.blkEq (b := b5) _ (by repeat (first | exact Take.here | apply Take.there)) (bvs_put (k := 4 * i + 2) (by omega) (by simp only [List.length_set, hX]; omega)) ?_
        refine wlv (op_indexArr Try.underlying120 sz5 (by decide) rfl rfl (by omega) (by omega)) rfl ?_
        refine wl (op_store sz5 rfl rfl (by repeat (first | exact Take.here | apply Take.there)) (by first | rfl | (simp [Value.cells]; done) | (simp [Value.cells]; omega)) (by first | rfl | exact wvs_one _ | exact bvs_one _) (by rw [bvs_length]; simp only [List.length_set, hX]; omega)) rfl ?_
        change WL _ _ _ _ _ _ _
        refine WL.blkEq (b := b5) (bvs ((S.list.take (i + 1)).flatMap wb ++ List.replicate (4 * (8 - (i + 1))) 0)) (by repeat (first | exact Take.here | apply Take.there)) ((bvs_put (k := 4 * i + 3) (by omega) (by simp only [List.length_set, hX]; omega)).trans (congrArg bvs (regs_step S i (by omega)))) ?_
        refine WL.nil ?_
        refine WX.regs (L' := [(2, _), (6, _), (68, _), (69, _)]) (by repeat (first | exact RS.nil | refine RS.cons rfl ?_)) ?_
        refine WX.in_normal ?_
        refine WX.next ?_
        refine WC.region ?_
        refine wlv (op_add (by decide) rfl rfl (by omega)) rfl ?_
        refine wlv (op_move (by decide) rfl) rfl ?_
        refine WL.nil ?_
        refine WX.regs (L' := [(2, _), (6, _), (68, _), (69, _)]) (by repeat (first | exact RS.nil | refine RS.cons rfl ?_)) ?_
        refine WX.meet (i + 1) ⟨by omega, by omega⟩ (fun a w hs => hs.sub (by repeat (first | exact RS.nil | refine RS.cons (by first | rfl | exact congrArg (fun z : Int => some (Value.int .i64 z)) (by omega)) ?_)) (by repeat (first | exact Takes.nil | exact Take.here | apply Takes.cons | apply Take.there)))
      ·
        refine WC.exit ?_
        refine WX.then_exit ?_
        refine WX.then_exit ?_
        refine WX.in_hit ?_
        refine WX.next ?_
        refine WC.seq ?_
        refine WC.region ?_
        obtain rfl : i = 8 := by omega
        refine WL.blkEq (b := b5) (bvs (dig S)) (by repeat (first | exact Take.here | apply Take.there)) (by simp [dig, S8.list]) ?_
        refine wlv (op_loadAll ag120 (by decide) rfl (by repeat (first | exact List.Mem.head _ | apply List.Mem.tail)) (by rw [bvs_length, dig_length])) rfl ?_
        refine wl (op_storeAll sz120 rfl rfl (by repeat (first | exact Take.here | apply Take.there)) (by simp [Value.cells, dig_length]) (by first | rfl | exact wvs_one _ | exact bvs_one _) (by first | rfl | (simp [Value.cells]; done) | (simp [Value.cells]; omega))) rfl ?_
        change WL _ _ _ _ _ _ _
        refine WL.nil ?_
        refine WX.regs (L' := [(2, _)]) (by repeat (first | exact RS.nil | refine RS.cons rfl ?_)) ?_
        refine WX.next ?_
        refine WC.ret ?_
        exact Fin.ret1 (by first | exact .inl rfl | exact .inr rfl) (()) (trivial) Try.results66 (.cellN rfl ag120 (by repeat (first | exact List.Mem.head _ | apply List.Mem.tail)) (by first | rfl | (simp [Value.cells]; done) | (simp [Value.cells]; omega))) (by repeat (first | exact Takes.nil | exact Take.here | apply Takes.cons | apply Take.there)) (by simp)
end Go.Proofs.Ythephcghglldaaa.Sx
