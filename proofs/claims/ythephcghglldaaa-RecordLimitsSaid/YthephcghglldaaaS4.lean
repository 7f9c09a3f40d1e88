import Derived.Test.YthephcghglldaaaS3
set_option linter.unusedVariables false
set_option linter.unusedSimpArgs false
namespace Go.Proofs.Ythephcghglldaaa.Sx
open Go.RowKit Go.Proofs.Ythephcghglldaaa.Ty
attribute [local irreducible] blk own rd rx frameC

/-- A Hash in memory. -/
def hcells (s : S8) (R : Value) (n : Int) : List Value := s.cells ++ [R, .int .i64 n, .bool true]
/-- The state after k blocks of l. -/
def absorb (s : S8) (l : List UInt8) : Nat → S8
  | 0 => s
  | k + 1 => process (absorb s l k) (wds (l.drop (64 * k)) 16)
set_option maxHeartbeats 400000 in
set_option maxRecDepth 10000 in
theorem f64_spec :
    Spec Try.prog 64 [] [] [] (R := Nat) (fun _ => True) (fun r => .pointer (some ⟨r, 0, none⟩)) (fun r => [blk r (hcells S8.init (.slice none 0 0) 0) 131]) := by
  refine Spec.intro Try.func64 Try.ntmps64 rfl (by simp) (by simp) fun w0 => ?_
  refine WC.seq ?_
  refine WC.region ?_
  refine wlv (op_assign (by decide) rfl) rfl ?_
  refine WL.nil ?_
  refine WX.regs (L' := []) (by repeat (first | exact RS.nil | refine RS.cons rfl ?_)) ?_
  refine WX.next ?_
  refine WC.seq ?_
  refine WC.region ?_
  refine wlx (op_call (f67_spec) ca67 (by decide) rfl (by apply Give.mk; (repeat (first | exact Takes.nil | exact Take.here | apply Takes.cons | apply Take.there)); repeat (first | exact Reads.nil | (apply Reads.rd; (focus (repeat (first | exact List.Mem.head _ | apply List.Mem.tail)); done)) | (apply Reads.own; (focus (repeat (first | exact List.Mem.head _ | apply List.Mem.tail)); done)) | (apply Reads.rx; (focus (repeat (first | exact List.Mem.head _ | apply List.Mem.tail)); done)) | (apply Reads.rows (e := false); (focus (repeat (first | exact List.Mem.head _ | apply List.Mem.tail)); done)) | (apply Reads.rows (e := true); (focus (repeat (first | exact List.Mem.head _ | apply List.Mem.tail)); done))))) rfl ?_
  rintro r1 h1
  refine wlv (op_build (cs := (hcells S8.init (.slice none 0 0) 0)) (pv := [(0, _), (3, _)]) (by decide) rfl (by kernel_rfl)) rfl ?_
  refine wl1 (op_box (by decide) rfl rfl) rfl fun b1 => ?_
  refine wlv (op_assign (by decide) rfl) rfl ?_
  refine WL.nil ?_
  refine WX.regs (L' := [(0, _)]) (by repeat (first | exact RS.nil | refine RS.cons rfl ?_)) ?_
  refine WX.next ?_
  refine WC.ret ?_
  exact Fin.ret1 (by first | exact .inl rfl | exact .inr rfl) (b1) (trivial) Try.results64 (.tmp rfl) (by repeat (first | exact Takes.nil | exact Take.here | apply Takes.cons | apply Take.there)) (by simp)
set_option maxHeartbeats 400000 in
set_option maxRecDepth 10000 in
theorem f69_spec (hb : Nat) (s : S8) (A : Option Addr) (r c : Nat) (n : Int) (bs : List UInt8) (hr : r < 1000000) :
    Spec Try.prog 69 [.pointer (some ⟨hb, 0, none⟩)] [blk hb (hcells s (.slice A r c) n) 131] [rd (.slice A r c) 1 r (bvs bs)] (R := Nat × Option Addr × Nat) (fun _ => True)
      (fun q => .pointer (some ⟨q.1, 0, none⟩)) (fun q => [blk hb (hcells s (.slice A r c) n) 131, blk q.1 (hcells s (.slice q.2.1 r q.2.2) n) 131, rx (.slice q.2.1 r q.2.2) 1 r (bvs bs)]) := by
  refine Spec.intro Try.func69 Try.ntmps69 rfl (by simp) (by simp) fun w0 => ?_
  refine WC.seq ?_
  refine WC.region ?_
  refine wlv (op_assign (by decide) rfl) rfl ?_
  refine WL.nil ?_
  refine WX.regs (L' := [(0, _)]) (by repeat (first | exact RS.nil | refine RS.cons rfl ?_)) ?_
  refine WX.next ?_
  refine WC.seq ?_
  refine WC.seq ?_
  refine WC.region ?_
  refine wlv (op_move (by decide) rfl) rfl ?_
  refine wlv (op_eqlnil Try.underlying123 (by decide) rfl rfl) rfl ?_
  refine WL.nil ?_
  refine WX.regs (L' := [(0, _), (5, _)]) (by repeat (first | exact RS.nil | refine RS.cons rfl ?_)) ?_
  refine WX.next ?_
  refine WC.condF rfl ?_
  refine WC.skip ?_
  refine WX.next ?_
  refine WC.seq ?_
  refine WC.region ?_
  refine wlv (op_move (by decide) rfl) rfl ?_
  refine wlv (op_nilCheck (by decide) rfl) rfl ?_
  refine wlv (op_loadAll ag131 (by decide) rfl (by repeat (first | exact List.Mem.head _ | apply List.Mem.tail)) (by first | rfl | (simp [Value.cells]; done) | (simp [Value.cells]; omega))) rfl ?_
  refine wl1 (op_alloc ti131 (by decide)) rfl fun b1 => ?_
  refine wl (op_storeAll sz131 rfl rfl (by repeat (first | exact Take.here | apply Take.there)) (by first | rfl | (simp [Value.cells]; done) | (simp [Value.cells]; omega)) (by first | rfl | exact wvs_one _ | exact bvs_one _) (by first | rfl | (simp [Value.cells]; done) | (simp [Value.cells]; omega))) rfl ?_
  change WL _ _ _ _ _ _ _
  refine WL.nil ?_
  refine WX.regs (L' := [(0, _), (3, _)]) (by repeat (first | exact RS.nil | refine RS.cons rfl ?_)) ?_
  refine WX.next ?_
  refine WC.seq ?_
  refine WC.region ?_
  refine wl1 (op_lit0 Try.underlying22 ti5 (by decide)) rfl fun b2 => ?_
  refine wlv (op_move (by decide) rfl) rfl ?_
  refine wlv (op_nilCheck (by decide) rfl) rfl ?_
  refine wlv (op_fieldAddr fo131_1 (by decide) rfl) rfl ?_
  refine wlv (op_load1 fl22 (by decide) rfl (by repeat (first | exact List.Mem.head _ | apply List.Mem.tail)) rfl) rfl ?_
  refine wl2 (op_append0 Try.underlying22 ti5 rfl (by decide) (by decide) rfl rfl (by repeat (first | exact Take.here | apply Take.there)) (by first | (apply Src.rd; (repeat (first | exact List.Mem.head _ | apply List.Mem.tail)); done) | (apply Src.own; (repeat (first | exact List.Mem.head _ | apply List.Mem.tail)); done) | (apply Src.rx; (repeat (first | exact List.Mem.head _ | apply List.Mem.tail)); done)) (by first | rfl | exact wvs_one _ | exact bvs_one _) (by omega) (by omega)) rfl fun A1 c1 => ?_
  refine wlv (op_fieldAddr fo131_1 (by decide) rfl) rfl ?_
  refine wl (op_store sz22 rfl rfl (by repeat (first | exact Take.here | apply Take.there)) (by first | rfl | (simp [Value.cells]; done) | (simp [Value.cells]; omega)) (by first | rfl | exact wvs_one _ | exact bvs_one _) (by first | exact Nat.le_of_ble_eq_true rfl | (simp; omega))) rfl ?_
  change WL _ _ _ _ _ _ _
  refine WL.nil ?_
  refine WX.regs (L' := [(3, _)]) (by repeat (first | exact RS.nil | refine RS.cons rfl ?_)) ?_
  refine WX.next ?_
  refine WC.seq ?_
  refine WC.region ?_
  refine wlv (op_assign (by decide) rfl) rfl ?_
  refine WL.nil ?_
  refine WX.regs (L' := [(2, _)]) (by repeat (first | exact RS.nil | refine RS.cons rfl ?_)) ?_
  refine WX.next ?_
  refine WC.ret ?_
  refine WX.turn (c := own (.slice A1 r c1) 5 1 r (bvs bs)) (by repeat (first | exact Take.here | apply Take.there)) own_le_rx ?_
  exact Fin.ret1 (by first | exact .inl rfl | exact .inr rfl) ((b1, A1, c1)) (trivial) Try.results69 (.tmp rfl) (by repeat (first | exact Takes.nil | exact Take.here | apply Takes.cons | apply Take.there)) (by simp)

theorem drop_drop64 (l : List UInt8) (k : Nat) (m : Nat) (h : m = l.length - 64 * k) : ((bvs (l.drop (64 * k))).drop (64 * 1)).take ((m - 64) * 1) = bvs (l.drop (64 * (k + 1))) := by
  subst h
  simp only [bvs, Nat.mul_one, ← List.map_drop, List.drop_drop, ← List.map_take]
  rw [List.take_of_length_le (by simp; omega)]
  rfl
set_option maxHeartbeats 400000 in
set_option maxRecDepth 10000 in
theorem f68_spec (hb : Nat) (s : S8) (A B : Option Addr) (r c m cB : Nat) (n : Int) (rs bs : List UInt8) (hr : rs.length = r) (hm : bs.length = m) (hr' : r < 1000000) (hm' : m < 1000000) :
    Spec Try.prog 68 [.pointer (some ⟨hb, 0, none⟩), .slice B m cB] [blk hb (hcells s (.slice A r c) n) 131] [rd (.slice A r c) 1 r (bvs rs), rd (.slice B m cB) 1 m (bvs bs)] (R := Option Addr × Nat) (fun _ => True)
      (fun q => .tuple #[]) (fun q => [blk hb (hcells (absorb s (rs ++ bs) ((r + m) / 64)) (.slice q.1 ((r + m) % 64) q.2) n) 131, rx (.slice q.1 ((r + m) % 64) q.2) 1 ((r + m) % 64) (bvs ((rs ++ bs).drop (64 * ((r + m) / 64))))]) := by
  refine Spec.intro Try.func68 Try.ntmps68 rfl (by simp) (by simp) fun w0 => ?_
  refine WC.seq ?_
  refine WC.seq ?_
  refine WC.region ?_
  refine wlv (op_move (by decide) rfl) rfl ?_
  refine wlv (op_nilCheck (by decide) rfl) rfl ?_
  refine wlv (op_fieldAddr fo131_3 (by decide) rfl) rfl ?_
  refine wlv (op_load1 fl4 (by decide) rfl (by repeat (first | exact List.Mem.head _ | apply List.Mem.tail)) rfl) rfl ?_
  refine wlv (op_not (by decide) rfl) rfl ?_
  refine WL.nil ?_
  refine WX.regs (L' := [(0, _), (1, _), (9, _)]) (by repeat (first | exact RS.nil | refine RS.cons rfl ?_)) ?_
  refine WX.next ?_
  refine WC.condF rfl ?_
  refine WC.skip ?_
  refine WX.next ?_
  refine WC.seq ?_
  refine WC.region ?_
  refine wl1 (op_lit0 Try.underlying22 ti5 (by decide)) rfl fun b1 => ?_
  refine wlv (op_move (by decide) rfl) rfl ?_
  refine wlv (op_nilCheck (by decide) rfl) rfl ?_
  refine wlv (op_fieldAddr fo131_1 (by decide) rfl) rfl ?_
  refine wlv (op_load1 fl22 (by decide) rfl (by repeat (first | exact List.Mem.head _ | apply List.Mem.tail)) rfl) rfl ?_
  refine wl2 (op_append0 Try.underlying22 ti5 rfl (by decide) (by decide) rfl rfl (by repeat (first | exact Take.here | apply Take.there)) (by first | (apply Src.rd; (repeat (first | exact List.Mem.head _ | apply List.Mem.tail)); done) | (apply Src.own; (repeat (first | exact List.Mem.head _ | apply List.Mem.tail)); done) | (apply Src.rx; (repeat (first | exact List.Mem.head _ | apply List.Mem.tail)); done)) (by first | rfl | exact wvs_one _ | exact bvs_one _) (by omega) (by omega)) rfl fun A1 c1 => ?_
  refine wlv (op_move (by decide) rfl) rfl ?_
  refine wl2 (op_append Try.underlying22 ti5 rfl (by decide) (by decide) rfl rfl (by repeat (first | exact Take.here | apply Take.there)) (by first | (apply Src.rd; (repeat (first | exact List.Mem.head _ | apply List.Mem.tail)); done) | (apply Src.own; (repeat (first | exact List.Mem.head _ | apply List.Mem.tail)); done) | (apply Src.rx; (repeat (first | exact List.Mem.head _ | apply List.Mem.tail)); done)) (by first | rfl | exact wvs_one _ | exact bvs_one _) (by omega) (by omega)) rfl fun A2 c2 => ?_
  refine wlv (op_assign (by decide) rfl) rfl ?_
  refine WL.nil ?_
  rw [← bvs_append]
  refine WX.turn (c := own (.slice A2 (r + m) c2) 5 1 (r + m) (bvs (rs ++ bs))) (by repeat (first | exact Take.here | apply Take.there)) own_le_rx ?_
  refine WX.regs (L' := [(0, _), (4, _)]) (by repeat (first | exact RS.nil | refine RS.cons rfl ?_)) ?_
  refine WX.next ?_
  refine WC.seq ?_
  refine WC.block ?_
  refine WC.loop (X := Nat × Option Addr × Nat) (fun q => (r + m) - q.1) (fun q => 64 * q.1 ≤ r + m) (fun q => [(0, .pointer (some ⟨hb, 0, none⟩)), (4, .slice q.2.1 (r + m - 64 * q.1) q.2.2)]) (fun q => [blk hb (hcells (absorb s (rs ++ bs) q.1) (.slice A r c) n) 131, rx (.slice q.2.1 (r + m - 64 * q.1) q.2.2) 1 (r + m - 64 * q.1) (bvs ((rs ++ bs).drop (64 * q.1))), frameC w0 (MutF [blk hb (hcells s (.slice A r c) n) 131])]) ((0, A2, c2)) (by simp) (fun a w hs => hs.sub (by repeat (first | exact RS.nil | refine RS.cons (by first | rfl | exact congrArg (fun z : Int => some (Value.int .i64 z)) (by omega)) ?_)) (by repeat (first | exact Takes.nil | exact Take.here | apply Takes.cons | apply Take.there))) ?_
  rintro ⟨k, Ak, ck⟩ hk
  try dsimp only at hk ⊢
  refine WC.seq ?_
  refine WC.seq ?_
  refine WC.region ?_
  refine wlv (op_move (by decide) rfl) rfl ?_
  refine wlv (op_len Try.underlying22 (by decide) rfl) rfl ?_
  refine wlv (op_geq (by decide) rfl rfl) rfl ?_
  refine WL.nil ?_
  refine WX.regs (L' := [(0, _), (4, _), (27, _)]) (by repeat (first | exact RS.nil | refine RS.cons rfl ?_)) ?_
  refine WX.next ?_
  refine WC.cond rfl (fun h2 => ?_) (fun h2 => ?_)
  ·
    refine WC.skip ?_
    refine WX.next ?_
    refine WC.block ?_
    refine WC.seq ?_
    refine WC.drawnH mo 10 ?_
    refine WA.take (i := 0) rfl (by kernel_rfl) (fun _ _ _ h => h) rfl (op_move (by decide) rfl) (by repeat (first | exact Takes.nil | exact Take.here | apply Takes.cons | apply Take.there)) ?_
    refine WA.take (i := 1) rfl (by kernel_rfl) (fun _ _ _ h => h) rfl (op_move (by decide) rfl) (by repeat (first | exact Takes.nil | exact Take.here | apply Takes.cons | apply Take.there)) ?_
    refine WA.take (i := 2) rfl (by kernel_rfl) (fun _ _ _ h => h) rfl (op_nilCheck (by decide) rfl) (by repeat (first | exact Takes.nil | exact Take.here | apply Takes.cons | apply Take.there)) ?_
    refine WA.take (i := 3) rfl (by kernel_rfl) (fun _ _ _ h => h) rfl (op_fieldAddr fo131_0 (by decide) rfl) (by repeat (first | exact Takes.nil | exact Take.here | apply Takes.cons | apply Take.there)) ?_
    refine WA.take (i := 4) rfl (by kernel_rfl) (fun _ _ _ h => h) rfl (op_loadN ag128 (by decide) rfl (by repeat (first | exact List.Mem.head _ | apply List.Mem.tail)) rfl) (by repeat (first | exact Takes.nil | exact Take.here | apply Takes.cons | apply Take.there)) ?_
    refine WA.take (i := 5) rfl (by kernel_rfl) (fun _ _ _ h => h) rfl (op_move (by decide) rfl) (by repeat (first | exact Takes.nil | exact Take.here | apply Takes.cons | apply Take.there)) ?_
    refine WA.stepx (i := 6) (by kernel_rfl) rfl rfl (op_call (f71_spec _ _ _ ((rs ++ bs).drop (64 * k)) (by omega) (by simp; omega) (by omega)) ca71 (by decide) rfl (by apply Give.mk; (repeat (first | exact Takes.nil | exact Take.here | apply Takes.cons | apply Take.there)); repeat (first | exact Reads.nil | (apply Reads.rd; (focus (repeat (first | exact List.Mem.head _ | apply List.Mem.tail)); done)) | (apply Reads.own; (focus (repeat (first | exact List.Mem.head _ | apply List.Mem.tail)); done)) | (apply Reads.rx; (focus (repeat (first | exact List.Mem.head _ | apply List.Mem.tail)); done)) | (apply Reads.rows (e := false); (focus (repeat (first | exact List.Mem.head _ | apply List.Mem.tail)); done)) | (apply Reads.rows (e := true); (focus (repeat (first | exact List.Mem.head _ | apply List.Mem.tail)); done))))) (fun _ r => (by repeat (first | exact Takes.nil | exact Take.here | apply Takes.cons | apply Take.there))) ?_
    rintro r1 h1
    refine WA.stepx (i := 7) (by kernel_rfl) rfl rfl (op_call (f70_spec _ _ (wds_length _ _)) ca70 (by decide) rfl (by apply Give.mk; (repeat (first | exact Takes.nil | exact Take.here | apply Takes.cons | apply Take.there)); repeat (first | exact Reads.nil | (apply Reads.rd; (focus (repeat (first | exact List.Mem.head _ | apply List.Mem.tail)); done)) | (apply Reads.own; (focus (repeat (first | exact List.Mem.head _ | apply List.Mem.tail)); done)) | (apply Reads.rx; (focus (repeat (first | exact List.Mem.head _ | apply List.Mem.tail)); done)) | (apply Reads.rows (e := false); (focus (repeat (first | exact List.Mem.head _ | apply List.Mem.tail)); done)) | (apply Reads.rows (e := true); (focus (repeat (first | exact List.Mem.head _ | apply List.Mem.tail)); done))))) (fun _ r => (by repeat (first | exact Takes.nil | exact Take.here | apply Takes.cons | apply Take.there))) ?_
    rintro r2 h2
    refine WA.stepv (i := 8) (by kernel_rfl) rfl rfl (op_nilCheck (by decide) rfl) (fun _ => (by repeat (first | exact Takes.nil | exact Take.here | apply Takes.cons | apply Take.there))) ?_
    refine WA.take (i := 9) rfl (by kernel_rfl) (fun _ _ _ h => h) rfl (op_fieldAddr fo131_0 (by decide) rfl) (by repeat (first | exact Takes.nil | exact Take.here | apply Takes.cons | apply Take.there)) ?_
    refine WA.stepo (G := []) (i := 10) (by kernel_rfl) rfl rfl (op_store sz128 rfl rfl (by repeat (first | exact Take.here | apply Take.there)) (by first | rfl | (simp [Value.cells]; done) | (simp [Value.cells]; omega)) (by first | rfl | exact wvs_one _ | exact bvs_one _) (by first | exact Nat.le_of_ble_eq_true rfl | (simp; omega))) (fun h => absurd rfl h) ?_
    refine WA.done (by kernel_rfl) ?_
    refine WX.regs (L' := [(0, _), (4, _)]) (by repeat (first | exact RS.nil | refine RS.cons rfl ?_)) ?_
    refine WX.next ?_
    refine WC.region ?_
    refine wlv (op_move (by decide) rfl) rfl ?_
    refine wlv (op_slice_l Try.underlying22 sz5 (by decide) rfl rfl (by omega) (by omega)) rfl ?_
    refine wlv (op_assign (by decide) rfl) rfl ?_
    refine WL.nil ?_
    refine WX.turn (c := rx (.slice Ak (r + m - 64 * k) ck) 1 (r + m - 64 * k) (bvs ((rs ++ bs).drop (64 * k)))) (by repeat (first | exact Take.here | apply Take.there)) (rx_sub (l := 64) (h := r + m - 64 * k) (by omega) (by omega)) ?_
    rw [drop_drop64 _ _ _ (by simp; omega)]
    refine WX.regs (L' := [(0, _), (4, _)]) (by repeat (first | exact RS.nil | refine RS.cons rfl ?_)) ?_
    refine WX.in_normal ?_
    refine WX.meet ((k + 1, _, _)) ⟨by simp only []; omega, by simp only []; omega⟩ (fun a w hs => hs.sub (by repeat (first | exact RS.nil | refine RS.cons (by first | rfl | exact congrArg (fun z : Int => some (Value.int .i64 z)) (by omega)) ?_)) (by repeat (first | exact Takes.nil | exact Take.here | apply Takes.cons | apply Take.there)))
  ·
    refine WC.exit ?_
    refine WX.then_exit ?_
    refine WX.then_exit ?_
    refine WX.in_hit ?_
    refine WX.next ?_
    refine WC.region ?_
    refine wlv (op_move (by decide) rfl) rfl ?_
    refine wlv (op_move (by decide) rfl) rfl ?_
    refine wlv (op_nilCheck (by decide) rfl) rfl ?_
    refine wlv (op_fieldAddr fo131_1 (by decide) rfl) rfl ?_
    refine wl (op_store sz22 rfl rfl (by repeat (first | exact Take.here | apply Take.there)) (by first | rfl | (simp [Value.cells]; done) | (simp [Value.cells]; omega)) (by first | rfl | exact wvs_one _ | exact bvs_one _) (by first | exact Nat.le_of_ble_eq_true rfl | (simp; omega))) rfl ?_
    change WL _ _ _ _ _ _ _
    refine WL.nil ?_
    refine WX.regs (L' := []) (by repeat (first | exact RS.nil | refine RS.cons rfl ?_)) ?_
    obtain rfl : k = (r + m) / 64 := by omega
    rw [show r + m - 64 * ((r + m) / 64) = (r + m) % 64 by omega]
    exact Fin.ret0 (by first | exact .inl rfl | exact .inr rfl) ((Ak, ck)) (trivial) Try.results68 rfl  (by repeat (first | exact Takes.nil | exact Take.here | apply Takes.cons | apply Take.there)) (by simp)
end Go.Proofs.Ythephcghglldaaa.Sx
