import Derived.Test.YthephcghglldaaaS9
import Derived.Test.YthephcghglldaaaSo
set_option linter.unusedVariables false
set_option linter.unusedSimpArgs false
namespace Go.Proofs.Ythephcghglldaaa.Sx
open Go.RowKit Go.Proofs.Ythephcghglldaaa.Ty
attribute [local irreducible] blk own rd rx frameC

def sealR (bs : List UInt8) : List UInt8 := (bs ++ List.replicate (240 - bs.length) 0).take 240
theorem sealR_length (bs : List UInt8) : (sealR bs).length = 240 := by simp [sealR]; omega
def sealB (bs : List UInt8) : List UInt8 := (sha (sealR bs)).take 16 ++ sealR bs
theorem sealB_length (bs : List UInt8) : (sealB bs).length = 256 := by simp [sealB, sealR_length, sha_length]
theorem zeros_step3 (bs : List UInt8) (j : Nat) : bvs (bs ++ List.replicate j 0) ++ [bv 0] = bvs (bs ++ List.replicate (j + 1) 0) := by
  rw [List.replicate_succ', ← List.append_assoc, bvs_append (bs ++ _)]; rfl
def blank (bs : List UInt8) : Bool := bs.all (· == 0)
theorem blank_step (bs : List UInt8) (i : Nat) (hi : i < bs.length) (h : blank (bs.take i) = true) (h0 : bs.getD i 0 = 0) : blank (bs.take (i + 1)) = true := by
  unfold blank at *
  rw [List.take_succ_eq_append_getElem hi, List.all_append, h]
  simpa [hi] using h0
theorem blank_not (bs : List UInt8) (i : Nat) (hi : i < bs.length) (h0 : ¬ bs.getD i 0 = 0) : blank bs = false := by
  unfold blank
  rw [List.all_eq_false]
  exact ⟨bs[i], List.getElem_mem hi, by simpa [hi] using h0⟩
set_option maxHeartbeats 400000 in
set_option maxRecDepth 10000 in
theorem f55_spec (A : Option Addr) (m c : Nat) (bs : List UInt8) (hm : bs.length = m) (hmx : m ≤ 140737488355328) :
    Spec Try.prog 55 [.slice A m c] [] [rd (.slice A m c) 1 m (bvs bs)] (R := Option Addr × Nat) (fun _ => True) (fun r => .slice r.1 256 r.2) (fun r => [own (.slice r.1 256 r.2) 5 1 256 (bvs (sealB bs))]) := by
  refine Spec.intro Try.func55 Try.ntmps55 rfl (by simp) (by simp) fun w0 => ?_
  refine WC.seq ?_
  refine WC.region ?_
  refine wlv (op_assign (by decide) rfl) rfl ?_
  refine WL.nil ?_
  refine WX.regs (L' := [(0, _)]) (by repeat (first | exact RS.nil | refine RS.cons rfl ?_)) ?_
  refine WX.next ?_
  refine WC.seq ?_
  refine WC.region ?_
  refine wl1 (op_lit0 Try.underlying22 ti5 (by decide)) rfl fun b1 => ?_
  refine wlv (op_move (by decide) rfl) rfl ?_
  refine wl2 (op_append0 Try.underlying22 ti5 rfl (by decide) (by decide) rfl rfl (by repeat (first | exact Take.here | apply Take.there)) (by first | (apply Src.rd; (repeat (first | exact List.Mem.head _ | apply List.Mem.tail)); done) | (apply Src.own; (repeat (first | exact List.Mem.head _ | apply List.Mem.tail)); done) | (apply Src.rx; (repeat (first | exact List.Mem.head _ | apply List.Mem.tail)); done)) (by first | rfl | exact wvs_one _ | exact bvs_one _) (by omega) (by omega)) rfl fun A1 c1 => ?_
  refine wlv (op_assign (by decide) rfl) rfl ?_
  refine WL.nil ?_
  refine WX.regs (L' := [(3, _)]) (by repeat (first | exact RS.nil | refine RS.cons rfl ?_)) ?_
  refine WX.next ?_
  refine WC.seq ?_
  refine WC.block ?_
  rw [show bvs bs = bvs (bs ++ List.replicate 0 0) by simp]
  refine WC.loop (X := Nat × Option Addr × Nat) (fun q => 240 - (m + q.1)) (fun q => m + q.1 ≤ 240 ∨ q.1 = 0) (fun q => [(3, .slice q.2.1 (m + q.1) q.2.2)]) (fun q => [own (.slice q.2.1 (m + q.1) q.2.2) 5 1 (m + q.1) (bvs (bs ++ List.replicate q.1 0)), frameC w0 (MutF [])]) ((0, A1, c1)) (.inr rfl) (fun a w hs => hs.sub (by repeat (first | exact RS.nil | refine RS.cons (by first | rfl | exact congrArg (fun z : Int => some (Value.int .i64 z)) (by omega)) ?_)) (by repeat (first | exact Takes.nil | exact Take.here | apply Takes.cons | apply Take.there))) ?_
  rintro ⟨j, Aj, cj⟩ hj
  try dsimp only at hj ⊢
  refine WC.seq ?_
  refine WC.seq ?_
  refine WC.region ?_
  refine wlv (op_move (by decide) rfl) rfl ?_
  refine wlv (op_len Try.underlying22 (by decide) rfl) rfl ?_
  refine wlv (op_lss (by decide) rfl rfl) rfl ?_
  refine WL.nil ?_
  refine WX.regs (L' := [(3, _), (10, _)]) (by repeat (first | exact RS.nil | refine RS.cons rfl ?_)) ?_
  refine WX.next ?_
  refine WC.cond rfl (fun h1 => ?_) (fun h1 => ?_)
  ·
    refine WC.skip ?_
    refine WX.next ?_
    refine WC.block ?_
    refine WC.region ?_
    refine wlv (op_move (by decide) rfl) rfl ?_
    refine wl1 (op_lit1 Try.underlying22 ti5 rfl (by decide) (by decide) rfl rfl) rfl fun b2 => ?_
    refine wl2 (op_append Try.underlying22 ti5 rfl (by decide) (by decide) rfl rfl (by repeat (first | exact Take.here | apply Take.there)) (by first | (apply Src.rd; (repeat (first | exact List.Mem.head _ | apply List.Mem.tail)); done) | (apply Src.own; (repeat (first | exact List.Mem.head _ | apply List.Mem.tail)); done) | (apply Src.rx; (repeat (first | exact List.Mem.head _ | apply List.Mem.tail)); done)) (by first | rfl | exact wvs_one _ | exact bvs_one _) (by omega) (by omega)) rfl fun A2 c2 => ?_
    refine wlv (op_assign (by decide) rfl) rfl ?_
    refine WL.nil ?_
    refine WX.ownEq (v := .slice A2 (m + j + 1) c2) _ (by repeat (first | exact Take.here | apply Take.there)) (zeros_step3 bs j) ?_
    refine WX.regs (L' := [(3, _)]) (by repeat (first | exact RS.nil | refine RS.cons rfl ?_)) ?_
    refine WX.in_normal ?_
    refine WX.meet ((j + 1, _, _)) ⟨by simp only []; omega, by simp only []; omega⟩ (fun a w hs => hs.sub (by repeat (first | exact RS.nil | refine RS.cons (by first | rfl | exact congrArg (fun z : Int => some (Value.int .i64 z)) (by omega)) ?_)) (by repeat (first | exact Takes.nil | exact Take.here | apply Takes.cons | apply Take.there)))
  ·
    refine WC.exit ?_
    refine WX.then_exit ?_
    refine WX.then_exit ?_
    refine WX.in_hit ?_
    refine WX.next ?_
    refine WC.seq ?_
    refine WC.region ?_
    have hj2 : m + j ≥ 240 := by omega
    have hlj : (bs ++ List.replicate j 0).length = m + j := by simp [hm]
    have hR : ((bs ++ List.replicate j 0).drop 0).take (240 - 0) = sealR bs := by
      unfold sealR
      rw [List.drop_zero]
      by_cases hm240 : m ≤ 240
      · have : j = 240 - bs.length := by omega
        rw [this]
      · obtain rfl : j = 0 := by omega
        rw [hm, show 240 - m = 0 by omega]
    refine WL.turn (by repeat (first | exact Take.here | apply Take.there)) own_le_rd ?_
    refine WL.capx (by first | (apply Src.rd; (repeat (first | exact List.Mem.head _ | apply List.Mem.tail)); done) | (apply Src.own; (repeat (first | exact List.Mem.head _ | apply List.Mem.tail)); done) | (apply Src.rx; (repeat (first | exact List.Mem.head _ | apply List.Mem.tail)); done)) (fun hcj => ?_)
    refine WL.dupr (v := .slice Aj (m + j) cj) (sz := 1) (m := m + j) (xs := bvs (bs ++ List.replicate j 0)) (by repeat (first | exact List.Mem.head _ | apply List.Mem.tail)) (rd_subB (l := 0) (h := 240) (by omega) hj2) ?_
    rw [hR]
    refine wlv (op_move (by decide) rfl) rfl ?_
    refine wlv (op_slice_h Try.underlying22 sz5 (by decide) rfl rfl (by omega) (by omega)) rfl ?_
    refine wlv (op_assign (by decide) rfl) rfl ?_
    refine WL.nil ?_
    refine WX.regs (L' := [(3, _)]) (by repeat (first | exact RS.nil | refine RS.cons rfl ?_)) ?_
    refine WX.next ?_
    refine WC.seq ?_
    refine WC.region ?_
    refine wlv (op_move (by decide) rfl) rfl ?_
    refine wlx (op_call (f56_spec _ 240 _ (sealR bs) (sealR_length _) (by decide)) ca56 (by decide) rfl (by apply Give.mk; (repeat (first | exact Takes.nil | exact Take.here | apply Takes.cons | apply Take.there)); repeat (first | exact Reads.nil | (apply Reads.rd; (focus (repeat (first | exact List.Mem.head _ | apply List.Mem.tail)); done)) | (apply Reads.own; (focus (repeat (first | exact List.Mem.head _ | apply List.Mem.tail)); done)) | (apply Reads.rx; (focus (repeat (first | exact List.Mem.head _ | apply List.Mem.tail)); done)) | (apply Reads.rows (e := false); (focus (repeat (first | exact List.Mem.head _ | apply List.Mem.tail)); done)) | (apply Reads.rows (e := true); (focus (repeat (first | exact List.Mem.head _ | apply List.Mem.tail)); done))))) rfl ?_
    rintro r1 h1
    refine wl1 (op_alloc ti108 (by decide)) rfl fun b3 => ?_
    refine wl (op_storeAll sz108 rfl rfl (by repeat (first | exact Take.here | apply Take.there)) (by first | rfl | (simp [Value.cells]; done) | (simp [Value.cells]; omega)) (by first | rfl | exact wvs_one _ | exact bvs_one _) (by first | rfl | (simp [Value.cells]; done) | (simp [Value.cells]; omega))) rfl ?_
    change WL _ _ _ _ _ _ _
    refine WL.nil ?_
    refine WX.regs (L' := [(3, _), (4, _)]) (by repeat (first | exact RS.nil | refine RS.cons rfl ?_)) ?_
    refine WX.next ?_
    refine WC.seq ?_
    refine WC.region ?_
    refine WL.turn (c := blk b3 (bvs (sha (sealR bs))) 108) (d := rd (.slice (some ⟨b3, 0, none⟩) 16 32) 1 16 (bvs ((sha (sealR bs)).take 16))) (by repeat (first | exact Take.here | apply Take.there)) (blk_le_rd (by decide) (by decide) (by simp [bvs]) (by simp [sha_length])) ?_
    refine wl1 (op_lit0 Try.underlying22 ti5 (by decide)) rfl fun b4 => ?_
    refine wlv (op_sliceArr_h Try.underlying108 sz5 (by decide) rfl rfl (by decide) (by decide)) rfl ?_
    refine wl2 (op_append0 Try.underlying22 ti5 rfl (by decide) (by decide) rfl rfl (by repeat (first | exact Take.here | apply Take.there)) (by first | (apply Src.rd; (repeat (first | exact List.Mem.head _ | apply List.Mem.tail)); done) | (apply Src.own; (repeat (first | exact List.Mem.head _ | apply List.Mem.tail)); done) | (apply Src.rx; (repeat (first | exact List.Mem.head _ | apply List.Mem.tail)); done)) (by first | rfl | exact wvs_one _ | exact bvs_one _) (by omega) (by omega)) rfl fun A3 c3 => ?_
    refine wlv (op_move (by decide) rfl) rfl ?_
    refine wl2 (op_append Try.underlying22 ti5 rfl (by decide) (by decide) rfl rfl (by repeat (first | exact Take.here | apply Take.there)) (by first | (apply Src.rd; (repeat (first | exact List.Mem.head _ | apply List.Mem.tail)); done) | (apply Src.own; (repeat (first | exact List.Mem.head _ | apply List.Mem.tail)); done) | (apply Src.rx; (repeat (first | exact List.Mem.head _ | apply List.Mem.tail)); done)) (by first | rfl | exact wvs_one _ | exact bvs_one _) (by omega) (by omega)) rfl fun A4 c4 => ?_
    refine wlv (op_assign (by decide) rfl) rfl ?_
    refine WL.nil ?_
    refine WX.regs (L' := [(2, _)]) (by repeat (first | exact RS.nil | refine RS.cons rfl ?_)) ?_
    refine WX.next ?_
    refine WC.ret ?_
    exact Fin.ret1 (by first | exact .inl rfl | exact .inr rfl) ((_, _)) (trivial) Try.results55 (.tmp rfl) (by repeat (first | exact Takes.nil | exact Take.here | apply Takes.cons | apply Take.there)) (by simp)
set_option maxHeartbeats 400000 in
set_option maxRecDepth 10000 in
theorem f20_spec (k g n i c : Int) (A : Option Addr) (m cap : Nat) :
    Spec Try.prog 20 [.agg (pcells k g n i c (.slice A m cap)).toArray] [] [] (R := Int) (fun r => r = chk k g n i c m) (fun r => .int .i64 r) (fun _ => []) := by
  refine Spec.intro Try.func20 Try.ntmps20 rfl (by simp) (by simp) fun w0 => ?_
  refine WC.seq ?_
  refine WC.region ?_
  refine wl1 (op_box (by decide) rfl rfl) rfl fun b1 => ?_
  refine wlv (op_assign (by decide) rfl) rfl ?_
  refine WL.nil ?_
  refine WX.regs (L' := [(1, _)]) (by repeat (first | exact RS.nil | refine RS.cons rfl ?_)) ?_
  refine WX.next ?_
  refine WC.seq ?_
  refine WC.seq ?_
  refine WC.region ?_
  refine wlv (op_fieldAddr fo24_0 (by decide) rfl) rfl ?_
  refine wlv (op_load1 fl3 (by decide) rfl (by repeat (first | exact List.Mem.head _ | apply List.Mem.tail)) rfl) rfl ?_
  refine wlv (op_fieldAddr fo24_1 (by decide) rfl) rfl ?_
  refine wlv (op_load1 fl3 (by decide) rfl (by repeat (first | exact List.Mem.head _ | apply List.Mem.tail)) rfl) rfl ?_
  refine wlv (op_fieldAddr fo24_2 (by decide) rfl) rfl ?_
  refine wlv (op_load1 fl3 (by decide) rfl (by repeat (first | exact List.Mem.head _ | apply List.Mem.tail)) rfl) rfl ?_
  refine wlx (op_call (f51_spec _ _ _) ca51 (by decide) rfl (by apply Give.mk; (repeat (first | exact Takes.nil | exact Take.here | apply Takes.cons | apply Take.there)); repeat (first | exact Reads.nil | (apply Reads.rd; (focus (repeat (first | exact List.Mem.head _ | apply List.Mem.tail)); done)) | (apply Reads.own; (focus (repeat (first | exact List.Mem.head _ | apply List.Mem.tail)); done)) | (apply Reads.rx; (focus (repeat (first | exact List.Mem.head _ | apply List.Mem.tail)); done)) | (apply Reads.rows (e := false); (focus (repeat (first | exact List.Mem.head _ | apply List.Mem.tail)); done)) | (apply Reads.rows (e := true); (focus (repeat (first | exact List.Mem.head _ | apply List.Mem.tail)); done))))) rfl ?_
  rintro _ rfl
  refine wlv (op_notp (by decide) rfl) rfl ?_
  refine wlv (op_move (by decide) rfl) rfl ?_
  refine WL.split (t := 13) rfl (fun g13 => ?_) (fun g13 => ?_)
  ·
    refine wlg_no rfl rfl rfl rfl rfl (by decide) ?_
    refine wlg_no rfl rfl rfl rfl rfl (by decide) ?_
    refine wlg_no rfl rfl rfl rfl rfl (by decide) ?_
    refine wlv (op_pickT (by decide) rfl rfl) rfl ?_
    refine wlv (op_move (by decide) rfl) rfl ?_
    refine wlg_no rfl rfl rfl rfl rfl (by decide) ?_
    refine wlg_no rfl rfl rfl rfl rfl (by decide) ?_
    refine wlg_no rfl rfl rfl rfl rfl (by decide) ?_
    refine wlv (op_pickT (by decide) rfl rfl) rfl ?_
    refine wlv (op_move (by decide) rfl) rfl ?_
    refine wlg_no rfl rfl rfl rfl rfl (by decide) ?_
    refine wlg_no rfl rfl rfl rfl rfl (by decide) ?_
    refine wlg_no rfl rfl rfl rfl rfl (by decide) ?_
    refine wlv (op_pickT (by decide) rfl rfl) rfl ?_
    refine wlv (op_move (by decide) rfl) rfl ?_
    refine wlg_no rfl rfl rfl rfl rfl (by decide) ?_
    refine wlg_no rfl rfl rfl rfl rfl (by decide) ?_
    refine wlg_no rfl rfl rfl rfl rfl (by decide) ?_
    refine wlg_no rfl rfl rfl rfl rfl (by decide) ?_
    refine wlg_no rfl rfl rfl rfl rfl (by decide) ?_
    refine wlv (op_pickT (by decide) rfl rfl) rfl ?_
    refine WL.nil ?_
    refine WX.regs (L' := [(1, _), (34, _)]) (by repeat (first | exact RS.nil | refine RS.cons rfl ?_)) ?_
    refine WX.next ?_
    refine WC.condT rfl ?_
    refine WC.seq ?_
    refine WC.region ?_
    refine wlv (op_assign (by decide) rfl) rfl ?_
    refine WL.nil ?_
    refine WX.regs (L' := [(2, _)]) (by repeat (first | exact RS.nil | refine RS.cons rfl ?_)) ?_
    refine WX.next ?_
    refine WC.ret ?_
    refine WX.then_ret ?_
    exact Fin.ret1 (by first | exact .inl rfl | exact .inr rfl) (_) (by (try simp only []); unfold chk; (try simp only [fineP] at *); repeat (split); all_goals omega) Try.results20 (.tmp rfl) (by repeat (first | exact Takes.nil | exact Take.here | apply Takes.cons | apply Take.there)) (by simp)
  ·
    refine wlgv (op_fieldAddr fo24_4 (by decide) rfl) rfl rfl rfl ?_
    refine wlgv (op_load1 fl3 (by decide) rfl (by repeat (first | exact List.Mem.head _ | apply List.Mem.tail)) rfl) rfl rfl rfl ?_
    refine wlgv (op_lss (by decide) rfl rfl) rfl rfl rfl ?_
    refine wlv (op_pickF (by decide) rfl rfl) rfl ?_
    refine wlv (op_move (by decide) rfl) rfl ?_
    refine WL.split (t := 18) rfl (fun g18 => ?_) (fun g18 => ?_)
    ·
      refine wlg_no rfl rfl rfl rfl rfl (by decide) ?_
      refine wlg_no rfl rfl rfl rfl rfl (by decide) ?_
      refine wlg_no rfl rfl rfl rfl rfl (by decide) ?_
      refine wlv (op_pickT (by decide) rfl rfl) rfl ?_
      refine wlv (op_move (by decide) rfl) rfl ?_
      refine wlg_no rfl rfl rfl rfl rfl (by decide) ?_
      refine wlg_no rfl rfl rfl rfl rfl (by decide) ?_
      refine wlg_no rfl rfl rfl rfl rfl (by decide) ?_
      refine wlv (op_pickT (by decide) rfl rfl) rfl ?_
      refine wlv (op_move (by decide) rfl) rfl ?_
      refine wlg_no rfl rfl rfl rfl rfl (by decide) ?_
      refine wlg_no rfl rfl rfl rfl rfl (by decide) ?_
      refine wlg_no rfl rfl rfl rfl rfl (by decide) ?_
      refine wlg_no rfl rfl rfl rfl rfl (by decide) ?_
      refine wlg_no rfl rfl rfl rfl rfl (by decide) ?_
      refine wlv (op_pickT (by decide) rfl rfl) rfl ?_
      refine WL.nil ?_
      refine WX.regs (L' := [(1, _), (34, _)]) (by repeat (first | exact RS.nil | refine RS.cons rfl ?_)) ?_
      refine WX.next ?_
      refine WC.condT rfl ?_
      refine WC.seq ?_
      refine WC.region ?_
      refine wlv (op_assign (by decide) rfl) rfl ?_
      refine WL.nil ?_
      refine WX.regs (L' := [(2, _)]) (by repeat (first | exact RS.nil | refine RS.cons rfl ?_)) ?_
      refine WX.next ?_
      refine WC.ret ?_
      refine WX.then_ret ?_
      exact Fin.ret1 (by first | exact .inl rfl | exact .inr rfl) (_) (by (try simp only []); unfold chk; (try simp only [fineP] at *); repeat (split); all_goals omega) Try.results20 (.tmp rfl) (by repeat (first | exact Takes.nil | exact Take.here | apply Takes.cons | apply Take.there)) (by simp)
    ·
      refine wlgv (op_fieldAddr fo24_4 (by decide) rfl) rfl rfl rfl ?_
      refine wlgv (op_load1 fl3 (by decide) rfl (by repeat (first | exact List.Mem.head _ | apply List.Mem.tail)) rfl) rfl rfl rfl ?_
      refine wlgv (op_gtr (by decide) rfl rfl) rfl rfl rfl ?_
      refine wlv (op_pickF (by decide) rfl rfl) rfl ?_
      refine wlv (op_move (by decide) rfl) rfl ?_
      refine WL.split (t := 23) rfl (fun g23 => ?_) (fun g23 => ?_)
      ·
        refine wlg_no rfl rfl rfl rfl rfl (by decide) ?_
        refine wlg_no rfl rfl rfl rfl rfl (by decide) ?_
        refine wlg_no rfl rfl rfl rfl rfl (by decide) ?_
        refine wlv (op_pickT (by decide) rfl rfl) rfl ?_
        refine wlv (op_move (by decide) rfl) rfl ?_
        refine wlg_no rfl rfl rfl rfl rfl (by decide) ?_
        refine wlg_no rfl rfl rfl rfl rfl (by decide) ?_
        refine wlg_no rfl rfl rfl rfl rfl (by decide) ?_
        refine wlg_no rfl rfl rfl rfl rfl (by decide) ?_
        refine wlg_no rfl rfl rfl rfl rfl (by decide) ?_
        refine wlv (op_pickT (by decide) rfl rfl) rfl ?_
        refine WL.nil ?_
        refine WX.regs (L' := [(1, _), (34, _)]) (by repeat (first | exact RS.nil | refine RS.cons rfl ?_)) ?_
        refine WX.next ?_
        refine WC.condT rfl ?_
        refine WC.seq ?_
        refine WC.region ?_
        refine wlv (op_assign (by decide) rfl) rfl ?_
        refine WL.nil ?_
        refine WX.regs (L' := [(2, _)]) (by repeat (first | exact RS.nil | refine RS.cons rfl ?_)) ?_
        refine WX.next ?_
        refine WC.ret ?_
        refine WX.then_ret ?_
        exact Fin.ret1 (by first | exact .inl rfl | exact .inr rfl) (_) (by (try simp only []); unfold chk; (try simp only [fineP] at *); repeat (split); all_goals omega) Try.results20 (.tmp rfl) (by repeat (first | exact Takes.nil | exact Take.here | apply Takes.cons | apply Take.there)) (by simp)
      ·
        refine wlgv (op_fieldAddr fo24_3 (by decide) rfl) rfl rfl rfl ?_
        refine wlgv (op_load1 fl3 (by decide) rfl (by repeat (first | exact List.Mem.head _ | apply List.Mem.tail)) rfl) rfl rfl rfl ?_
        refine wlgv (op_lss (by decide) rfl rfl) rfl rfl rfl ?_
        refine wlv (op_pickF (by decide) rfl rfl) rfl ?_
        refine wlv (op_move (by decide) rfl) rfl ?_
        refine WL.split (t := 28) rfl (fun g28 => ?_) (fun g28 => ?_)
        ·
          refine wlg_no rfl rfl rfl rfl rfl (by decide) ?_
          refine wlg_no rfl rfl rfl rfl rfl (by decide) ?_
          refine wlg_no rfl rfl rfl rfl rfl (by decide) ?_
          refine wlg_no rfl rfl rfl rfl rfl (by decide) ?_
          refine wlg_no rfl rfl rfl rfl rfl (by decide) ?_
          refine wlv (op_pickT (by decide) rfl rfl) rfl ?_
          refine WL.nil ?_
          refine WX.regs (L' := [(1, _), (34, _)]) (by repeat (first | exact RS.nil | refine RS.cons rfl ?_)) ?_
          refine WX.next ?_
          refine WC.condT rfl ?_
          refine WC.seq ?_
          refine WC.region ?_
          refine wlv (op_assign (by decide) rfl) rfl ?_
          refine WL.nil ?_
          refine WX.regs (L' := [(2, _)]) (by repeat (first | exact RS.nil | refine RS.cons rfl ?_)) ?_
          refine WX.next ?_
          refine WC.ret ?_
          refine WX.then_ret ?_
          exact Fin.ret1 (by first | exact .inl rfl | exact .inr rfl) (_) (by (try simp only []); unfold chk; (try simp only [fineP] at *); repeat (split); all_goals omega) Try.results20 (.tmp rfl) (by repeat (first | exact Takes.nil | exact Take.here | apply Takes.cons | apply Take.there)) (by simp)
        ·
          refine wlgv (op_fieldAddr fo24_3 (by decide) rfl) rfl rfl rfl ?_
          refine wlgv (op_load1 fl3 (by decide) rfl (by repeat (first | exact List.Mem.head _ | apply List.Mem.tail)) rfl) rfl rfl rfl ?_
          refine wlgv (op_fieldAddr fo24_4 (by decide) rfl) rfl rfl rfl ?_
          refine wlgv (op_load1 fl3 (by decide) rfl (by repeat (first | exact List.Mem.head _ | apply List.Mem.tail)) rfl) rfl rfl rfl ?_
          refine wlgv (op_geq (by decide) rfl rfl) rfl rfl rfl ?_
          refine wlv (op_pickF (by decide) rfl rfl) rfl ?_
          refine WL.nil ?_
          refine WX.regs (L' := [(1, _), (34, _)]) (by repeat (first | exact RS.nil | refine RS.cons rfl ?_)) ?_
          refine WX.next ?_
          refine WC.cond rfl (fun h1 => ?_) (fun h1 => ?_)
          ·
            refine WC.seq ?_
            refine WC.region ?_
            refine wlv (op_assign (by decide) rfl) rfl ?_
            refine WL.nil ?_
            refine WX.regs (L' := [(2, _)]) (by repeat (first | exact RS.nil | refine RS.cons rfl ?_)) ?_
            refine WX.next ?_
            refine WC.ret ?_
            refine WX.then_ret ?_
            exact Fin.ret1 (by first | exact .inl rfl | exact .inr rfl) (_) (by (try simp only []); unfold chk; (try simp only [fineP] at *); repeat (split); all_goals omega) Try.results20 (.tmp rfl) (by repeat (first | exact Takes.nil | exact Take.here | apply Takes.cons | apply Take.there)) (by simp)
          ·
            refine WC.skip ?_
            refine WX.next ?_
            refine WC.seq ?_
            refine WC.region ?_
            refine wlv (op_fieldAddr fo24_5 (by decide) rfl) rfl ?_
            refine wlv (op_load1 fl22 (by decide) rfl (by repeat (first | exact List.Mem.head _ | apply List.Mem.tail)) rfl) rfl ?_
            refine wlv (op_len Try.underlying22 (by decide) rfl) rfl ?_
            refine wlv (op_assign (by decide) rfl) rfl ?_
            refine WL.nil ?_
            refine WX.regs (L' := [(1, _), (3, _)]) (by repeat (first | exact RS.nil | refine RS.cons rfl ?_)) ?_
            refine WX.next ?_
            refine WC.seq ?_
            refine WC.seq ?_
            refine WC.region ?_
            refine wlv (op_move (by decide) rfl) rfl ?_
            refine wlv (op_gtr (by decide) rfl rfl) rfl ?_
            refine WL.nil ?_
            refine WX.regs (L' := [(1, _), (3, _), (39, _)]) (by repeat (first | exact RS.nil | refine RS.cons rfl ?_)) ?_
            refine WX.next ?_
            refine WC.cond rfl (fun h2 => ?_) (fun h2 => ?_)
            ·
              refine WC.seq ?_
              refine WC.region ?_
              refine wlv (op_assign (by decide) rfl) rfl ?_
              refine WL.nil ?_
              refine WX.regs (L' := [(2, _)]) (by repeat (first | exact RS.nil | refine RS.cons rfl ?_)) ?_
              refine WX.next ?_
              refine WC.ret ?_
              refine WX.then_ret ?_
              exact Fin.ret1 (by first | exact .inl rfl | exact .inr rfl) (_) (by (try simp only []); unfold chk; (try simp only [fineP] at *); repeat (split); all_goals omega) Try.results20 (.tmp rfl) (by repeat (first | exact Takes.nil | exact Take.here | apply Takes.cons | apply Take.there)) (by simp)
            ·
              refine WC.skip ?_
              refine WX.next ?_
              refine WC.seq ?_
              refine WC.region ?_
              refine wlv (op_fieldAddr fo24_3 (by decide) rfl) rfl ?_
              refine wlv (op_load1 fl3 (by decide) rfl (by repeat (first | exact List.Mem.head _ | apply List.Mem.tail)) rfl) rfl ?_
              refine wlv (op_fieldAddr fo24_4 (by decide) rfl) rfl ?_
              refine wlv (op_load1 fl3 (by decide) rfl (by repeat (first | exact List.Mem.head _ | apply List.Mem.tail)) rfl) rfl ?_
              refine wlv (op_sub (by decide) rfl rfl (by simp only [fineP] at *; omega)) rfl ?_
              refine wlv (op_eql (by decide) rfl rfl) rfl ?_
              refine wlv (op_assign (by decide) rfl) rfl ?_
              refine WL.nil ?_
              refine WX.regs (L' := [(1, _), (3, _), (4, _)]) (by repeat (first | exact RS.nil | refine RS.cons rfl ?_)) ?_
              refine WX.next ?_
              refine WC.seq ?_
              refine WC.seq ?_
              refine WC.region ?_
              refine wlv (op_move (by decide) rfl) rfl ?_
              refine wlv (op_notp (by decide) rfl) rfl ?_
              refine wlv (op_move (by decide) rfl) rfl ?_
              refine WL.split (t := 48) rfl (fun g48 => ?_) (fun g48 => ?_)
              ·
                refine wlgv (op_move (by decide) rfl) rfl rfl rfl ?_
                refine wlgv (op_lss (by decide) rfl rfl) rfl rfl rfl ?_
                refine wlv (op_pickT (by decide) rfl rfl) rfl ?_
                refine wlv (op_move (by decide) rfl) rfl ?_
                refine WL.split (t := 52) rfl (fun g52 => ?_) (fun g52 => ?_)
                ·
                  refine wlg_no rfl rfl rfl rfl rfl (by decide) ?_
                  refine wlg_no rfl rfl rfl rfl rfl (by decide) ?_
                  refine wlg_undef rfl rfl rfl rfl (by decide) ?_
                  refine wlg_undef rfl rfl rfl rfl (by decide) ?_
                  refine wlg_undef rfl rfl rfl rfl (by decide) ?_
                  refine wlg_no rfl rfl rfl rfl rfl (by decide) ?_
                  refine wlg_no rfl rfl rfl rfl rfl (by decide) ?_
                  refine wlg_undef rfl rfl rfl rfl (by decide) ?_
                  refine wlg_undef rfl rfl rfl rfl (by decide) ?_
                  refine wlg_no rfl rfl rfl rfl rfl (by decide) ?_
                  refine wlv (op_pickT (by decide) rfl rfl) rfl ?_
                  refine WL.nil ?_
                  refine WX.regs (L' := [(1, _), (3, _), (4, _), (63, _)]) (by repeat (first | exact RS.nil | refine RS.cons rfl ?_)) ?_
                  refine WX.next ?_
                  refine WC.condT rfl ?_
                  refine WC.seq ?_
                  refine WC.region ?_
                  refine wlv (op_assign (by decide) rfl) rfl ?_
                  refine WL.nil ?_
                  refine WX.regs (L' := [(2, _)]) (by repeat (first | exact RS.nil | refine RS.cons rfl ?_)) ?_
                  refine WX.next ?_
                  refine WC.ret ?_
                  refine WX.then_ret ?_
                  exact Fin.ret1 (by first | exact .inl rfl | exact .inr rfl) (_) (by (try simp only []); unfold chk; (try simp only [fineP] at *); repeat (split); all_goals omega) Try.results20 (.tmp rfl) (by repeat (first | exact Takes.nil | exact Take.here | apply Takes.cons | apply Take.there)) (by simp)
                ·
                  refine wlgv (op_move (by decide) rfl) rfl rfl rfl ?_
                  refine wlgv (op_move (by decide) rfl) rfl rfl rfl ?_
                  refine WL.split (t := 54) rfl (fun g54 => ?_) (fun g54 => ?_)
                  ·
                    refine wlgv (op_fieldAddr fo24_4 (by decide) rfl) rfl rfl rfl ?_
                    refine wlgv (op_load1 fl3 (by decide) rfl (by repeat (first | exact List.Mem.head _ | apply List.Mem.tail)) rfl) rfl rfl rfl ?_
                    refine wlgv (op_gtr (by decide) rfl rfl) rfl rfl rfl ?_
                    refine wlgv (op_pickT (by decide) rfl rfl) rfl rfl rfl ?_
                    refine wlgv (op_move (by decide) rfl) rfl rfl rfl ?_
                    refine WL.split (t := 59) rfl (fun g59 => ?_) (fun g59 => ?_)
                    ·
                      refine wlgv (op_move (by decide) rfl) rfl rfl rfl ?_
                      refine wlgv (op_eql (by decide) rfl rfl) rfl rfl rfl ?_
                      refine wlgv (op_pickT (by decide) rfl rfl) rfl rfl rfl ?_
                      refine wlv (op_pickF (by decide) rfl rfl) rfl ?_
                      refine WL.nil ?_
                      refine WX.regs (L' := [(1, _), (3, _), (4, _), (63, _)]) (by repeat (first | exact RS.nil | refine RS.cons rfl ?_)) ?_
                      refine WX.next ?_
                      refine WC.cond rfl (fun h3 => ?_) (fun h3 => ?_)
                      ·
                        refine WC.seq ?_
                        refine WC.region ?_
                        refine wlv (op_assign (by decide) rfl) rfl ?_
                        refine WL.nil ?_
                        refine WX.regs (L' := [(2, _)]) (by repeat (first | exact RS.nil | refine RS.cons rfl ?_)) ?_
                        refine WX.next ?_
                        refine WC.ret ?_
                        refine WX.then_ret ?_
                        exact Fin.ret1 (by first | exact .inl rfl | exact .inr rfl) (_) (by (try simp only []); unfold chk; (try simp only [fineP] at *); repeat (split); all_goals omega) Try.results20 (.tmp rfl) (by repeat (first | exact Takes.nil | exact Take.here | apply Takes.cons | apply Take.there)) (by simp)
                      ·
                        refine WC.skip ?_
                        refine WX.next ?_
                        refine WC.seq ?_
                        refine WC.seq ?_
                        refine WC.region ?_
                        refine wlv (op_move (by decide) rfl) rfl ?_
                        refine wlv (op_move (by decide) rfl) rfl ?_
                        refine WL.split (t := 65) rfl (fun g65 => ?_) (fun g65 => ?_)
                        ·
                          refine wlgv (op_fieldAddr fo24_3 (by decide) rfl) rfl rfl rfl ?_
                          refine wlgv (op_load1 fl3 (by decide) rfl (by repeat (first | exact List.Mem.head _ | apply List.Mem.tail)) rfl) rfl rfl rfl ?_
                          refine wlgv (op_mul (by decide) rfl rfl (by omega)) rfl rfl rfl ?_
                          refine wlgv (op_move (by decide) rfl) rfl rfl rfl ?_
                          refine wlgv (op_add (by decide) rfl rfl (by omega)) rfl rfl rfl ?_
                          refine wlgv (op_gtr (by decide) rfl rfl) rfl rfl rfl ?_
                          refine wlv (op_pickT (by decide) rfl rfl) rfl ?_
                          refine WL.nil ?_
                          refine WX.regs (L' := [(72, _)]) (by repeat (first | exact RS.nil | refine RS.cons rfl ?_)) ?_
                          refine WX.next ?_
                          refine WC.cond rfl (fun h4 => ?_) (fun h4 => ?_)
                          ·
                            refine WC.seq ?_
                            refine WC.region ?_
                            refine wlv (op_assign (by decide) rfl) rfl ?_
                            refine WL.nil ?_
                            refine WX.regs (L' := [(2, _)]) (by repeat (first | exact RS.nil | refine RS.cons rfl ?_)) ?_
                            refine WX.next ?_
                            refine WC.ret ?_
                            refine WX.then_ret ?_
                            exact Fin.ret1 (by first | exact .inl rfl | exact .inr rfl) (_) (by (try simp only []); unfold chk; (try simp only [fineP] at *); repeat (split); all_goals omega) Try.results20 (.tmp rfl) (by repeat (first | exact Takes.nil | exact Take.here | apply Takes.cons | apply Take.there)) (by simp)
                          ·
                            refine WC.skip ?_
                            refine WX.next ?_
                            refine WC.seq ?_
                            refine WC.region ?_
                            refine wlv (op_assign (by decide) rfl) rfl ?_
                            refine WL.nil ?_
                            refine WX.regs (L' := [(2, _)]) (by repeat (first | exact RS.nil | refine RS.cons rfl ?_)) ?_
                            refine WX.next ?_
                            refine WC.ret ?_
                            exact Fin.ret1 (by first | exact .inl rfl | exact .inr rfl) (_) (by (try simp only []); unfold chk; (try simp only [fineP] at *); repeat (split); all_goals omega) Try.results20 (.tmp rfl) (by repeat (first | exact Takes.nil | exact Take.here | apply Takes.cons | apply Take.there)) (by simp)
                        ·
                          refine wlg_no rfl rfl rfl rfl rfl (by decide) ?_
                          refine wlg_no rfl rfl rfl rfl rfl (by decide) ?_
                          refine wlg_no rfl rfl rfl rfl rfl (by decide) ?_
                          refine wlg_no rfl rfl rfl rfl rfl (by decide) ?_
                          refine wlg_no rfl rfl rfl rfl rfl (by decide) ?_
                          refine wlg_no rfl rfl rfl rfl rfl (by decide) ?_
                          refine wlv (op_pickF (by decide) rfl rfl) rfl ?_
                          refine WL.nil ?_
                          refine WX.regs (L' := [(72, _)]) (by repeat (first | exact RS.nil | refine RS.cons rfl ?_)) ?_
                          refine WX.next ?_
                          refine WC.condF rfl ?_
                          refine WC.skip ?_
                          refine WX.next ?_
                          refine WC.seq ?_
                          refine WC.region ?_
                          refine wlv (op_assign (by decide) rfl) rfl ?_
                          refine WL.nil ?_
                          refine WX.regs (L' := [(2, _)]) (by repeat (first | exact RS.nil | refine RS.cons rfl ?_)) ?_
                          refine WX.next ?_
                          refine WC.ret ?_
                          exact Fin.ret1 (by first | exact .inl rfl | exact .inr rfl) (_) (by (try simp only []); unfold chk; (try simp only [fineP] at *); repeat (split); all_goals omega) Try.results20 (.tmp rfl) (by repeat (first | exact Takes.nil | exact Take.here | apply Takes.cons | apply Take.there)) (by simp)
                    ·
                      refine wlg_no rfl rfl rfl rfl rfl (by decide) ?_
                      refine wlg_no rfl rfl rfl rfl rfl (by decide) ?_
                      refine wlgv (op_pickF (by decide) rfl rfl) rfl rfl rfl ?_
                      refine wlv (op_pickF (by decide) rfl rfl) rfl ?_
                      refine WL.nil ?_
                      refine WX.regs (L' := [(1, _), (3, _), (4, _), (63, _)]) (by repeat (first | exact RS.nil | refine RS.cons rfl ?_)) ?_
                      refine WX.next ?_
                      refine WC.condF rfl ?_
                      refine WC.skip ?_
                      refine WX.next ?_
                      refine WC.seq ?_
                      refine WC.seq ?_
                      refine WC.region ?_
                      refine wlv (op_move (by decide) rfl) rfl ?_
                      refine wlv (op_move (by decide) rfl) rfl ?_
                      refine WL.split (t := 65) rfl (fun g65 => ?_) (fun g65 => ?_)
                      ·
                        refine wlgv (op_fieldAddr fo24_3 (by decide) rfl) rfl rfl rfl ?_
                        refine wlgv (op_load1 fl3 (by decide) rfl (by repeat (first | exact List.Mem.head _ | apply List.Mem.tail)) rfl) rfl rfl rfl ?_
                        refine wlgv (op_mul (by decide) rfl rfl (by omega)) rfl rfl rfl ?_
                        refine wlgv (op_move (by decide) rfl) rfl rfl rfl ?_
                        refine wlgv (op_add (by decide) rfl rfl (by omega)) rfl rfl rfl ?_
                        refine wlgv (op_gtr (by decide) rfl rfl) rfl rfl rfl ?_
                        refine wlv (op_pickT (by decide) rfl rfl) rfl ?_
                        refine WL.nil ?_
                        refine WX.regs (L' := [(72, _)]) (by repeat (first | exact RS.nil | refine RS.cons rfl ?_)) ?_
                        refine WX.next ?_
                        refine WC.cond rfl (fun h4 => ?_) (fun h4 => ?_)
                        ·
                          refine WC.seq ?_
                          refine WC.region ?_
                          refine wlv (op_assign (by decide) rfl) rfl ?_
                          refine WL.nil ?_
                          refine WX.regs (L' := [(2, _)]) (by repeat (first | exact RS.nil | refine RS.cons rfl ?_)) ?_
                          refine WX.next ?_
                          refine WC.ret ?_
                          refine WX.then_ret ?_
                          exact Fin.ret1 (by first | exact .inl rfl | exact .inr rfl) (_) (by (try simp only []); unfold chk; (try simp only [fineP] at *); repeat (split); all_goals omega) Try.results20 (.tmp rfl) (by repeat (first | exact Takes.nil | exact Take.here | apply Takes.cons | apply Take.there)) (by simp)
                        ·
                          refine WC.skip ?_
                          refine WX.next ?_
                          refine WC.seq ?_
                          refine WC.region ?_
                          refine wlv (op_assign (by decide) rfl) rfl ?_
                          refine WL.nil ?_
                          refine WX.regs (L' := [(2, _)]) (by repeat (first | exact RS.nil | refine RS.cons rfl ?_)) ?_
                          refine WX.next ?_
                          refine WC.ret ?_
                          exact Fin.ret1 (by first | exact .inl rfl | exact .inr rfl) (_) (by (try simp only []); unfold chk; (try simp only [fineP] at *); repeat (split); all_goals omega) Try.results20 (.tmp rfl) (by repeat (first | exact Takes.nil | exact Take.here | apply Takes.cons | apply Take.there)) (by simp)
                      ·
                        refine wlg_no rfl rfl rfl rfl rfl (by decide) ?_
                        refine wlg_no rfl rfl rfl rfl rfl (by decide) ?_
                        refine wlg_no rfl rfl rfl rfl rfl (by decide) ?_
                        refine wlg_no rfl rfl rfl rfl rfl (by decide) ?_
                        refine wlg_no rfl rfl rfl rfl rfl (by decide) ?_
                        refine wlg_no rfl rfl rfl rfl rfl (by decide) ?_
                        refine wlv (op_pickF (by decide) rfl rfl) rfl ?_
                        refine WL.nil ?_
                        refine WX.regs (L' := [(72, _)]) (by repeat (first | exact RS.nil | refine RS.cons rfl ?_)) ?_
                        refine WX.next ?_
                        refine WC.condF rfl ?_
                        refine WC.skip ?_
                        refine WX.next ?_
                        refine WC.seq ?_
                        refine WC.region ?_
                        refine wlv (op_assign (by decide) rfl) rfl ?_
                        refine WL.nil ?_
                        refine WX.regs (L' := [(2, _)]) (by repeat (first | exact RS.nil | refine RS.cons rfl ?_)) ?_
                        refine WX.next ?_
                        refine WC.ret ?_
                        exact Fin.ret1 (by first | exact .inl rfl | exact .inr rfl) (_) (by (try simp only []); unfold chk; (try simp only [fineP] at *); repeat (split); all_goals omega) Try.results20 (.tmp rfl) (by repeat (first | exact Takes.nil | exact Take.here | apply Takes.cons | apply Take.there)) (by simp)
                  ·
                    refine wlg_no rfl rfl rfl rfl rfl (by decide) ?_
                    refine wlg_no rfl rfl rfl rfl rfl (by decide) ?_
                    refine wlg_no rfl rfl rfl rfl rfl (by decide) ?_
                    refine wlgv (op_pickF (by decide) rfl rfl) rfl rfl rfl ?_
                    refine wlgv (op_move (by decide) rfl) rfl rfl rfl ?_
                    refine wlg_no rfl rfl rfl rfl rfl (by decide) ?_
                    refine wlg_no rfl rfl rfl rfl rfl (by decide) ?_
                    refine wlgv (op_pickF (by decide) rfl rfl) rfl rfl rfl ?_
                    refine wlv (op_pickF (by decide) rfl rfl) rfl ?_
                    refine WL.nil ?_
                    refine WX.regs (L' := [(1, _), (3, _), (4, _), (63, _)]) (by repeat (first | exact RS.nil | refine RS.cons rfl ?_)) ?_
                    refine WX.next ?_
                    refine WC.condF rfl ?_
                    refine WC.skip ?_
                    refine WX.next ?_
                    refine WC.seq ?_
                    refine WC.seq ?_
                    refine WC.region ?_
                    refine wlv (op_move (by decide) rfl) rfl ?_
                    refine wlv (op_move (by decide) rfl) rfl ?_
                    refine WL.split (t := 65) rfl (fun g65 => ?_) (fun g65 => ?_)
                    ·
                      refine wlgv (op_fieldAddr fo24_3 (by decide) rfl) rfl rfl rfl ?_
                      refine wlgv (op_load1 fl3 (by decide) rfl (by repeat (first | exact List.Mem.head _ | apply List.Mem.tail)) rfl) rfl rfl rfl ?_
                      refine wlgv (op_mul (by decide) rfl rfl (by omega)) rfl rfl rfl ?_
                      refine wlgv (op_move (by decide) rfl) rfl rfl rfl ?_
                      refine wlgv (op_add (by decide) rfl rfl (by omega)) rfl rfl rfl ?_
                      refine wlgv (op_gtr (by decide) rfl rfl) rfl rfl rfl ?_
                      refine wlv (op_pickT (by decide) rfl rfl) rfl ?_
                      refine WL.nil ?_
                      refine WX.regs (L' := [(72, _)]) (by repeat (first | exact RS.nil | refine RS.cons rfl ?_)) ?_
                      refine WX.next ?_
                      refine WC.cond rfl (fun h4 => ?_) (fun h4 => ?_)
                      ·
                        refine WC.seq ?_
                        refine WC.region ?_
                        refine wlv (op_assign (by decide) rfl) rfl ?_
                        refine WL.nil ?_
                        refine WX.regs (L' := [(2, _)]) (by repeat (first | exact RS.nil | refine RS.cons rfl ?_)) ?_
                        refine WX.next ?_
                        refine WC.ret ?_
                        refine WX.then_ret ?_
                        exact Fin.ret1 (by first | exact .inl rfl | exact .inr rfl) (_) (by (try simp only []); unfold chk; (try simp only [fineP] at *); repeat (split); all_goals omega) Try.results20 (.tmp rfl) (by repeat (first | exact Takes.nil | exact Take.here | apply Takes.cons | apply Take.there)) (by simp)
                      ·
                        refine WC.skip ?_
                        refine WX.next ?_
                        refine WC.seq ?_
                        refine WC.region ?_
                        refine wlv (op_assign (by decide) rfl) rfl ?_
                        refine WL.nil ?_
                        refine WX.regs (L' := [(2, _)]) (by repeat (first | exact RS.nil | refine RS.cons rfl ?_)) ?_
                        refine WX.next ?_
                        refine WC.ret ?_
                        exact Fin.ret1 (by first | exact .inl rfl | exact .inr rfl) (_) (by (try simp only []); unfold chk; (try simp only [fineP] at *); repeat (split); all_goals omega) Try.results20 (.tmp rfl) (by repeat (first | exact Takes.nil | exact Take.here | apply Takes.cons | apply Take.there)) (by simp)
                    ·
                      refine wlg_no rfl rfl rfl rfl rfl (by decide) ?_
                      refine wlg_no rfl rfl rfl rfl rfl (by decide) ?_
                      refine wlg_no rfl rfl rfl rfl rfl (by decide) ?_
                      refine wlg_no rfl rfl rfl rfl rfl (by decide) ?_
                      refine wlg_no rfl rfl rfl rfl rfl (by decide) ?_
                      refine wlg_no rfl rfl rfl rfl rfl (by decide) ?_
                      refine wlv (op_pickF (by decide) rfl rfl) rfl ?_
                      refine WL.nil ?_
                      refine WX.regs (L' := [(72, _)]) (by repeat (first | exact RS.nil | refine RS.cons rfl ?_)) ?_
                      refine WX.next ?_
                      refine WC.condF rfl ?_
                      refine WC.skip ?_
                      refine WX.next ?_
                      refine WC.seq ?_
                      refine WC.region ?_
                      refine wlv (op_assign (by decide) rfl) rfl ?_
                      refine WL.nil ?_
                      refine WX.regs (L' := [(2, _)]) (by repeat (first | exact RS.nil | refine RS.cons rfl ?_)) ?_
                      refine WX.next ?_
                      refine WC.ret ?_
                      exact Fin.ret1 (by first | exact .inl rfl | exact .inr rfl) (_) (by (try simp only []); unfold chk; (try simp only [fineP] at *); repeat (split); all_goals omega) Try.results20 (.tmp rfl) (by repeat (first | exact Takes.nil | exact Take.here | apply Takes.cons | apply Take.there)) (by simp)
              ·
                refine wlg_no rfl rfl rfl rfl rfl (by decide) ?_
                refine wlg_no rfl rfl rfl rfl rfl (by decide) ?_
                refine wlv (op_pickF (by decide) rfl rfl) rfl ?_
                refine wlv (op_move (by decide) rfl) rfl ?_
                refine wlgv (op_move (by decide) rfl) rfl rfl rfl ?_
                refine wlgv (op_move (by decide) rfl) rfl rfl rfl ?_
                refine WL.split (t := 54) rfl (fun g54 => ?_) (fun g54 => ?_)
                ·
                  refine wlgv (op_fieldAddr fo24_4 (by decide) rfl) rfl rfl rfl ?_
                  refine wlgv (op_load1 fl3 (by decide) rfl (by repeat (first | exact List.Mem.head _ | apply List.Mem.tail)) rfl) rfl rfl rfl ?_
                  refine wlgv (op_gtr (by decide) rfl rfl) rfl rfl rfl ?_
                  refine wlgv (op_pickT (by decide) rfl rfl) rfl rfl rfl ?_
                  refine wlgv (op_move (by decide) rfl) rfl rfl rfl ?_
                  refine WL.split (t := 59) rfl (fun g59 => ?_) (fun g59 => ?_)
                  ·
                    refine wlgv (op_move (by decide) rfl) rfl rfl rfl ?_
                    refine wlgv (op_eql (by decide) rfl rfl) rfl rfl rfl ?_
                    refine wlgv (op_pickT (by decide) rfl rfl) rfl rfl rfl ?_
                    refine wlv (op_pickF (by decide) rfl rfl) rfl ?_
                    refine WL.nil ?_
                    refine WX.regs (L' := [(1, _), (3, _), (4, _), (63, _)]) (by repeat (first | exact RS.nil | refine RS.cons rfl ?_)) ?_
                    refine WX.next ?_
                    refine WC.cond rfl (fun h3 => ?_) (fun h3 => ?_)
                    ·
                      refine WC.seq ?_
                      refine WC.region ?_
                      refine wlv (op_assign (by decide) rfl) rfl ?_
                      refine WL.nil ?_
                      refine WX.regs (L' := [(2, _)]) (by repeat (first | exact RS.nil | refine RS.cons rfl ?_)) ?_
                      refine WX.next ?_
                      refine WC.ret ?_
                      refine WX.then_ret ?_
                      exact Fin.ret1 (by first | exact .inl rfl | exact .inr rfl) (_) (by (try simp only []); unfold chk; (try simp only [fineP] at *); repeat (split); all_goals omega) Try.results20 (.tmp rfl) (by repeat (first | exact Takes.nil | exact Take.here | apply Takes.cons | apply Take.there)) (by simp)
                    ·
                      refine WC.skip ?_
                      refine WX.next ?_
                      refine WC.seq ?_
                      refine WC.seq ?_
                      refine WC.region ?_
                      refine wlv (op_move (by decide) rfl) rfl ?_
                      refine wlv (op_move (by decide) rfl) rfl ?_
                      refine WL.split (t := 65) rfl (fun g65 => ?_) (fun g65 => ?_)
                      ·
                        refine wlgv (op_fieldAddr fo24_3 (by decide) rfl) rfl rfl rfl ?_
                        refine wlgv (op_load1 fl3 (by decide) rfl (by repeat (first | exact List.Mem.head _ | apply List.Mem.tail)) rfl) rfl rfl rfl ?_
                        refine wlgv (op_mul (by decide) rfl rfl (by omega)) rfl rfl rfl ?_
                        refine wlgv (op_move (by decide) rfl) rfl rfl rfl ?_
                        refine wlgv (op_add (by decide) rfl rfl (by omega)) rfl rfl rfl ?_
                        refine wlgv (op_gtr (by decide) rfl rfl) rfl rfl rfl ?_
                        refine wlv (op_pickT (by decide) rfl rfl) rfl ?_
                        refine WL.nil ?_
                        refine WX.regs (L' := [(72, _)]) (by repeat (first | exact RS.nil | refine RS.cons rfl ?_)) ?_
                        refine WX.next ?_
                        refine WC.cond rfl (fun h4 => ?_) (fun h4 => ?_)
                        ·
                          refine WC.seq ?_
                          refine WC.region ?_
                          refine wlv (op_assign (by decide) rfl) rfl ?_
                          refine WL.nil ?_
                          refine WX.regs (L' := [(2, _)]) (by repeat (first | exact RS.nil | refine RS.cons rfl ?_)) ?_
                          refine WX.next ?_
                          refine WC.ret ?_
                          refine WX.then_ret ?_
                          exact Fin.ret1 (by first | exact .inl rfl | exact .inr rfl) (_) (by (try simp only []); unfold chk; (try simp only [fineP] at *); repeat (split); all_goals omega) Try.results20 (.tmp rfl) (by repeat (first | exact Takes.nil | exact Take.here | apply Takes.cons | apply Take.there)) (by simp)
                        ·
                          refine WC.skip ?_
                          refine WX.next ?_
                          refine WC.seq ?_
                          refine WC.region ?_
                          refine wlv (op_assign (by decide) rfl) rfl ?_
                          refine WL.nil ?_
                          refine WX.regs (L' := [(2, _)]) (by repeat (first | exact RS.nil | refine RS.cons rfl ?_)) ?_
                          refine WX.next ?_
                          refine WC.ret ?_
                          exact Fin.ret1 (by first | exact .inl rfl | exact .inr rfl) (_) (by (try simp only []); unfold chk; (try simp only [fineP] at *); repeat (split); all_goals omega) Try.results20 (.tmp rfl) (by repeat (first | exact Takes.nil | exact Take.here | apply Takes.cons | apply Take.there)) (by simp)
                      ·
                        refine wlg_no rfl rfl rfl rfl rfl (by decide) ?_
                        refine wlg_no rfl rfl rfl rfl rfl (by decide) ?_
                        refine wlg_no rfl rfl rfl rfl rfl (by decide) ?_
                        refine wlg_no rfl rfl rfl rfl rfl (by decide) ?_
                        refine wlg_no rfl rfl rfl rfl rfl (by decide) ?_
                        refine wlg_no rfl rfl rfl rfl rfl (by decide) ?_
                        refine wlv (op_pickF (by decide) rfl rfl) rfl ?_
                        refine WL.nil ?_
                        refine WX.regs (L' := [(72, _)]) (by repeat (first | exact RS.nil | refine RS.cons rfl ?_)) ?_
                        refine WX.next ?_
                        refine WC.condF rfl ?_
                        refine WC.skip ?_
                        refine WX.next ?_
                        refine WC.seq ?_
                        refine WC.region ?_
                        refine wlv (op_assign (by decide) rfl) rfl ?_
                        refine WL.nil ?_
                        refine WX.regs (L' := [(2, _)]) (by repeat (first | exact RS.nil | refine RS.cons rfl ?_)) ?_
                        refine WX.next ?_
                        refine WC.ret ?_
                        exact Fin.ret1 (by first | exact .inl rfl | exact .inr rfl) (_) (by (try simp only []); unfold chk; (try simp only [fineP] at *); repeat (split); all_goals omega) Try.results20 (.tmp rfl) (by repeat (first | exact Takes.nil | exact Take.here | apply Takes.cons | apply Take.there)) (by simp)
                  ·
                    refine wlg_no rfl rfl rfl rfl rfl (by decide) ?_
                    refine wlg_no rfl rfl rfl rfl rfl (by decide) ?_
                    refine wlgv (op_pickF (by decide) rfl rfl) rfl rfl rfl ?_
                    refine wlv (op_pickF (by decide) rfl rfl) rfl ?_
                    refine WL.nil ?_
                    refine WX.regs (L' := [(1, _), (3, _), (4, _), (63, _)]) (by repeat (first | exact RS.nil | refine RS.cons rfl ?_)) ?_
                    refine WX.next ?_
                    refine WC.condF rfl ?_
                    refine WC.skip ?_
                    refine WX.next ?_
                    refine WC.seq ?_
                    refine WC.seq ?_
                    refine WC.region ?_
                    refine wlv (op_move (by decide) rfl) rfl ?_
                    refine wlv (op_move (by decide) rfl) rfl ?_
                    refine WL.split (t := 65) rfl (fun g65 => ?_) (fun g65 => ?_)
                    ·
                      refine wlgv (op_fieldAddr fo24_3 (by decide) rfl) rfl rfl rfl ?_
                      refine wlgv (op_load1 fl3 (by decide) rfl (by repeat (first | exact List.Mem.head _ | apply List.Mem.tail)) rfl) rfl rfl rfl ?_
                      refine wlgv (op_mul (by decide) rfl rfl (by omega)) rfl rfl rfl ?_
                      refine wlgv (op_move (by decide) rfl) rfl rfl rfl ?_
                      refine wlgv (op_add (by decide) rfl rfl (by omega)) rfl rfl rfl ?_
                      refine wlgv (op_gtr (by decide) rfl rfl) rfl rfl rfl ?_
                      refine wlv (op_pickT (by decide) rfl rfl) rfl ?_
                      refine WL.nil ?_
                      refine WX.regs (L' := [(72, _)]) (by repeat (first | exact RS.nil | refine RS.cons rfl ?_)) ?_
                      refine WX.next ?_
                      refine WC.cond rfl (fun h4 => ?_) (fun h4 => ?_)
                      ·
                        refine WC.seq ?_
                        refine WC.region ?_
                        refine wlv (op_assign (by decide) rfl) rfl ?_
                        refine WL.nil ?_
                        refine WX.regs (L' := [(2, _)]) (by repeat (first | exact RS.nil | refine RS.cons rfl ?_)) ?_
                        refine WX.next ?_
                        refine WC.ret ?_
                        refine WX.then_ret ?_
                        exact Fin.ret1 (by first | exact .inl rfl | exact .inr rfl) (_) (by (try simp only []); unfold chk; (try simp only [fineP] at *); repeat (split); all_goals omega) Try.results20 (.tmp rfl) (by repeat (first | exact Takes.nil | exact Take.here | apply Takes.cons | apply Take.there)) (by simp)
                      ·
                        refine WC.skip ?_
                        refine WX.next ?_
                        refine WC.seq ?_
                        refine WC.region ?_
                        refine wlv (op_assign (by decide) rfl) rfl ?_
                        refine WL.nil ?_
                        refine WX.regs (L' := [(2, _)]) (by repeat (first | exact RS.nil | refine RS.cons rfl ?_)) ?_
                        refine WX.next ?_
                        refine WC.ret ?_
                        exact Fin.ret1 (by first | exact .inl rfl | exact .inr rfl) (_) (by (try simp only []); unfold chk; (try simp only [fineP] at *); repeat (split); all_goals omega) Try.results20 (.tmp rfl) (by repeat (first | exact Takes.nil | exact Take.here | apply Takes.cons | apply Take.there)) (by simp)
                    ·
                      refine wlg_no rfl rfl rfl rfl rfl (by decide) ?_
                      refine wlg_no rfl rfl rfl rfl rfl (by decide) ?_
                      refine wlg_no rfl rfl rfl rfl rfl (by decide) ?_
                      refine wlg_no rfl rfl rfl rfl rfl (by decide) ?_
                      refine wlg_no rfl rfl rfl rfl rfl (by decide) ?_
                      refine wlg_no rfl rfl rfl rfl rfl (by decide) ?_
                      refine wlv (op_pickF (by decide) rfl rfl) rfl ?_
                      refine WL.nil ?_
                      refine WX.regs (L' := [(72, _)]) (by repeat (first | exact RS.nil | refine RS.cons rfl ?_)) ?_
                      refine WX.next ?_
                      refine WC.condF rfl ?_
                      refine WC.skip ?_
                      refine WX.next ?_
                      refine WC.seq ?_
                      refine WC.region ?_
                      refine wlv (op_assign (by decide) rfl) rfl ?_
                      refine WL.nil ?_
                      refine WX.regs (L' := [(2, _)]) (by repeat (first | exact RS.nil | refine RS.cons rfl ?_)) ?_
                      refine WX.next ?_
                      refine WC.ret ?_
                      exact Fin.ret1 (by first | exact .inl rfl | exact .inr rfl) (_) (by (try simp only []); unfold chk; (try simp only [fineP] at *); repeat (split); all_goals omega) Try.results20 (.tmp rfl) (by repeat (first | exact Takes.nil | exact Take.here | apply Takes.cons | apply Take.there)) (by simp)
                ·
                  refine wlg_no rfl rfl rfl rfl rfl (by decide) ?_
                  refine wlg_no rfl rfl rfl rfl rfl (by decide) ?_
                  refine wlg_no rfl rfl rfl rfl rfl (by decide) ?_
                  refine wlgv (op_pickF (by decide) rfl rfl) rfl rfl rfl ?_
                  refine wlgv (op_move (by decide) rfl) rfl rfl rfl ?_
                  refine wlg_no rfl rfl rfl rfl rfl (by decide) ?_
                  refine wlg_no rfl rfl rfl rfl rfl (by decide) ?_
                  refine wlgv (op_pickF (by decide) rfl rfl) rfl rfl rfl ?_
                  refine wlv (op_pickF (by decide) rfl rfl) rfl ?_
                  refine WL.nil ?_
                  refine WX.regs (L' := [(1, _), (3, _), (4, _), (63, _)]) (by repeat (first | exact RS.nil | refine RS.cons rfl ?_)) ?_
                  refine WX.next ?_
                  refine WC.condF rfl ?_
                  refine WC.skip ?_
                  refine WX.next ?_
                  refine WC.seq ?_
                  refine WC.seq ?_
                  refine WC.region ?_
                  refine wlv (op_move (by decide) rfl) rfl ?_
                  refine wlv (op_move (by decide) rfl) rfl ?_
                  refine WL.split (t := 65) rfl (fun g65 => ?_) (fun g65 => ?_)
                  ·
                    refine wlgv (op_fieldAddr fo24_3 (by decide) rfl) rfl rfl rfl ?_
                    refine wlgv (op_load1 fl3 (by decide) rfl (by repeat (first | exact List.Mem.head _ | apply List.Mem.tail)) rfl) rfl rfl rfl ?_
                    refine wlgv (op_mul (by decide) rfl rfl (by omega)) rfl rfl rfl ?_
                    refine wlgv (op_move (by decide) rfl) rfl rfl rfl ?_
                    refine wlgv (op_add (by decide) rfl rfl (by omega)) rfl rfl rfl ?_
                    refine wlgv (op_gtr (by decide) rfl rfl) rfl rfl rfl ?_
                    refine wlv (op_pickT (by decide) rfl rfl) rfl ?_
                    refine WL.nil ?_
                    refine WX.regs (L' := [(72, _)]) (by repeat (first | exact RS.nil | refine RS.cons rfl ?_)) ?_
                    refine WX.next ?_
                    refine WC.cond rfl (fun h4 => ?_) (fun h4 => ?_)
                    ·
                      refine WC.seq ?_
                      refine WC.region ?_
                      refine wlv (op_assign (by decide) rfl) rfl ?_
                      refine WL.nil ?_
                      refine WX.regs (L' := [(2, _)]) (by repeat (first | exact RS.nil | refine RS.cons rfl ?_)) ?_
                      refine WX.next ?_
                      refine WC.ret ?_
                      refine WX.then_ret ?_
                      exact Fin.ret1 (by first | exact .inl rfl | exact .inr rfl) (_) (by (try simp only []); unfold chk; (try simp only [fineP] at *); repeat (split); all_goals omega) Try.results20 (.tmp rfl) (by repeat (first | exact Takes.nil | exact Take.here | apply Takes.cons | apply Take.there)) (by simp)
                    ·
                      refine WC.skip ?_
                      refine WX.next ?_
                      refine WC.seq ?_
                      refine WC.region ?_
                      refine wlv (op_assign (by decide) rfl) rfl ?_
                      refine WL.nil ?_
                      refine WX.regs (L' := [(2, _)]) (by repeat (first | exact RS.nil | refine RS.cons rfl ?_)) ?_
                      refine WX.next ?_
                      refine WC.ret ?_
                      exact Fin.ret1 (by first | exact .inl rfl | exact .inr rfl) (_) (by (try simp only []); unfold chk; (try simp only [fineP] at *); repeat (split); all_goals omega) Try.results20 (.tmp rfl) (by repeat (first | exact Takes.nil | exact Take.here | apply Takes.cons | apply Take.there)) (by simp)
                  ·
                    refine wlg_no rfl rfl rfl rfl rfl (by decide) ?_
                    refine wlg_no rfl rfl rfl rfl rfl (by decide) ?_
                    refine wlg_no rfl rfl rfl rfl rfl (by decide) ?_
                    refine wlg_no rfl rfl rfl rfl rfl (by decide) ?_
                    refine wlg_no rfl rfl rfl rfl rfl (by decide) ?_
                    refine wlg_no rfl rfl rfl rfl rfl (by decide) ?_
                    refine wlv (op_pickF (by decide) rfl rfl) rfl ?_
                    refine WL.nil ?_
                    refine WX.regs (L' := [(72, _)]) (by repeat (first | exact RS.nil | refine RS.cons rfl ?_)) ?_
                    refine WX.next ?_
                    refine WC.condF rfl ?_
                    refine WC.skip ?_
                    refine WX.next ?_
                    refine WC.seq ?_
                    refine WC.region ?_
                    refine wlv (op_assign (by decide) rfl) rfl ?_
                    refine WL.nil ?_
                    refine WX.regs (L' := [(2, _)]) (by repeat (first | exact RS.nil | refine RS.cons rfl ?_)) ?_
                    refine WX.next ?_
                    refine WC.ret ?_
                    exact Fin.ret1 (by first | exact .inl rfl | exact .inr rfl) (_) (by (try simp only []); unfold chk; (try simp only [fineP] at *); repeat (split); all_goals omega) Try.results20 (.tmp rfl) (by repeat (first | exact Takes.nil | exact Take.here | apply Takes.cons | apply Take.there)) (by simp)
set_option maxHeartbeats 400000 in
set_option maxRecDepth 10000 in
theorem f52_spec (A B : Option Addr) (m c m2 c2 : Nat) (xs bs : List UInt8) :
    Spec Try.prog 52 [.slice A m c, .slice B m2 c2] [] [rd (.slice A m c) 1 m (bvs xs), rd (.slice B m2 c2) 1 m2 (bvs bs)] (R := Unit) (fun _ => True) (fun _ => .bool (decide (xs = bs))) (fun _ => []) := by
  refine Spec.intro Try.func52 Try.ntmps52 rfl (by simp) (by simp) fun w0 => ?_
  refine WC.seq ?_
  refine WC.region ?_
  refine wlv (op_assign (by decide) rfl) rfl ?_
  refine WL.nil ?_
  refine WX.regs (L' := [(0, _), (1, _)]) (by repeat (first | exact RS.nil | refine RS.cons rfl ?_)) ?_
  refine WX.next ?_
  refine WC.seq ?_
  refine WC.region ?_
  refine wlv (op_move (by decide) rfl) rfl ?_
  refine wlv (op_bytesStr Try.underlying22 Try.underlying5 Try.underlying9 (by decide) rfl (by first | (apply Src.rd; (repeat (first | exact List.Mem.head _ | apply List.Mem.tail)); done) | (apply Src.own; (repeat (first | exact List.Mem.head _ | apply List.Mem.tail)); done) | (apply Src.rx; (repeat (first | exact List.Mem.head _ | apply List.Mem.tail)); done))) rfl ?_
  refine wlv (op_move (by decide) rfl) rfl ?_
  refine wlv (op_bytesStr Try.underlying22 Try.underlying5 Try.underlying9 (by decide) rfl (by first | (apply Src.rd; (repeat (first | exact List.Mem.head _ | apply List.Mem.tail)); done) | (apply Src.own; (repeat (first | exact List.Mem.head _ | apply List.Mem.tail)); done) | (apply Src.rx; (repeat (first | exact List.Mem.head _ | apply List.Mem.tail)); done))) rfl ?_
  refine wlv (op_eqls (by decide) rfl rfl) rfl ?_
  refine wlv (op_assign (by decide) rfl) rfl ?_
  refine WL.nil ?_
  refine WX.regs (L' := [(4, _)]) (by repeat (first | exact RS.nil | refine RS.cons rfl ?_)) ?_
  refine WX.next ?_
  refine WC.ret ?_
  exact Fin.ret1 (by first | exact .inl rfl | exact .inr rfl) (()) (trivial) Try.results52 (.tmp rfl) (by repeat (first | exact Takes.nil | exact Take.here | apply Takes.cons | apply Take.there)) (by simp)
set_option maxHeartbeats 400000 in
set_option maxRecDepth 10000 in
theorem f53_spec (A : Option Addr) (m c : Nat) (bs : List UInt8) (hm : bs.length = m) (hmx : m ≤ 140737488355328) :
    Spec Try.prog 53 [.slice A m c] [] [rd (.slice A m c) 1 m (bvs bs)] (R := Option Addr × Nat) (fun _ => True) (fun r => .slice r.1 m r.2) (fun r => [own (.slice r.1 m r.2) 5 1 m (bvs bs)]) := by
  refine Spec.intro Try.func53 Try.ntmps53 rfl (by simp) (by simp) fun w0 => ?_
  refine WC.seq ?_
  refine WC.region ?_
  refine wlv (op_assign (by decide) rfl) rfl ?_
  refine WL.nil ?_
  refine WX.regs (L' := [(0, _)]) (by repeat (first | exact RS.nil | refine RS.cons rfl ?_)) ?_
  refine WX.next ?_
  refine WC.seq ?_
  refine WC.seq ?_
  refine WC.region ?_
  refine wlv (op_move (by decide) rfl) rfl ?_
  refine wlv (op_eqlsnil Try.underlying22 (by decide) rfl rfl) rfl ?_
  refine WL.nil ?_
  refine WX.regs (L' := [(0, _), (4, _)]) (by repeat (first | exact RS.nil | refine RS.cons rfl ?_)) ?_
  refine WX.next ?_
  refine WC.cond rfl (fun h1 => ?_) (fun h1 => ?_)
  ·
    subst h1
    refine WC.none0 (by first | (apply Src.rd; (repeat (first | exact List.Mem.head _ | apply List.Mem.tail)); done) | (apply Src.own; (repeat (first | exact List.Mem.head _ | apply List.Mem.tail)); done) | (apply Src.rx; (repeat (first | exact List.Mem.head _ | apply List.Mem.tail)); done)) (by decide) (fun hm0 => ?_)
    subst hm0
    obtain rfl : bs = [] := List.eq_nil_of_length_eq_zero hm
    refine WC.nilslice 5 1 ?_
    refine WC.seq ?_
    refine WC.region ?_
    refine wlv (op_assign (by decide) rfl) rfl ?_
    refine WL.nil ?_
    refine WX.regs (L' := [(2, _)]) (by repeat (first | exact RS.nil | refine RS.cons rfl ?_)) ?_
    refine WX.next ?_
    refine WC.ret ?_
    refine WX.then_ret ?_
    exact Fin.ret1 (by first | exact .inl rfl | exact .inr rfl) ((none, 0)) (trivial) Try.results53 (.tmp rfl) (by repeat (first | exact Takes.nil | exact Take.here | apply Takes.cons | apply Take.there)) (by simp)
  ·
    refine WC.skip ?_
    refine WX.next ?_
    refine WC.seq ?_
    refine WC.region ?_
    refine wl1 (op_lit0 Try.underlying22 ti5 (by decide)) rfl fun b1 => ?_
    refine wlv (op_move (by decide) rfl) rfl ?_
    refine wl2 (op_append0 Try.underlying22 ti5 rfl (by decide) (by decide) rfl rfl (by repeat (first | exact Take.here | apply Take.there)) (by first | (apply Src.rd; (repeat (first | exact List.Mem.head _ | apply List.Mem.tail)); done) | (apply Src.own; (repeat (first | exact List.Mem.head _ | apply List.Mem.tail)); done) | (apply Src.rx; (repeat (first | exact List.Mem.head _ | apply List.Mem.tail)); done)) (by first | rfl | exact wvs_one _ | exact bvs_one _) (by omega) (by omega)) rfl fun A1 c1 => ?_
    refine wlv (op_assign (by decide) rfl) rfl ?_
    refine WL.nil ?_
    refine WX.regs (L' := [(2, _)]) (by repeat (first | exact RS.nil | refine RS.cons rfl ?_)) ?_
    refine WX.next ?_
    refine WC.ret ?_
    exact Fin.ret1 (by first | exact .inl rfl | exact .inr rfl) ((_, _)) (trivial) Try.results53 (.tmp rfl) (by repeat (first | exact Takes.nil | exact Take.here | apply Takes.cons | apply Take.there)) (by simp)
set_option maxHeartbeats 400000 in
set_option maxRecDepth 10000 in
theorem f42_spec (A : Option Addr) (m c : Nat) (bs : List UInt8) (hm : bs.length = m) :
    Spec Try.prog 42 [.slice A m c] [] [rd (.slice A m c) 1 m (bvs bs)] (R := Bool) (fun b => b = blank bs) (fun b => .bool b) (fun _ => []) := by
  refine Spec.intro Try.func42 Try.ntmps42 rfl (by simp) (by simp) fun w0 => ?_
  refine WC.seq ?_
  refine WC.region ?_
  refine wlv (op_assign (by decide) rfl) rfl ?_
  refine WL.nil ?_
  refine WX.regs (L' := [(0, _)]) (by repeat (first | exact RS.nil | refine RS.cons rfl ?_)) ?_
  refine WX.next ?_
  refine WC.seq ?_
  refine WC.seq ?_
  refine WC.region ?_
  refine wlv (op_move (by decide) rfl) rfl ?_
  refine wlv (op_len Try.underlying22 (by decide) rfl) rfl ?_
  refine wlv (op_move (by decide) rfl) rfl ?_
  refine WL.nil ?_
  refine WX.regs (L' := [(5, _), (6, _), (7, _)]) (by repeat (first | exact RS.nil | refine RS.cons rfl ?_)) ?_
  refine WX.next ?_
  refine WC.block ?_
  refine WC.loop (X := Nat) (fun i => m - i) (fun i => i ≤ m ∧ blank (bs.take i) = true) (fun i => [(5, .slice A m c), (6, .int .i64 (m : Int)), (7, .int .i64 (i : Int))]) (fun i => [rd (.slice A m c) 1 m (bvs bs), frameC w0 (MutF [])]) (0) (⟨by omega, rfl⟩) (fun a w hs => hs.sub (by repeat (first | exact RS.nil | refine RS.cons (by first | rfl | exact congrArg (fun z : Int => some (Value.int .i64 z)) (by omega)) ?_)) (by repeat (first | exact Takes.nil | exact Take.here | apply Takes.cons | apply Take.there))) ?_
  rintro i ⟨hi, hb⟩
  try dsimp only
  refine WC.seq ?_
  refine WC.region ?_
  refine wlv (op_lss (by decide) rfl rfl) rfl ?_
  refine WL.nil ?_
  refine WX.regs (L' := [(5, _), (6, _), (7, _), (8, _)]) (by repeat (first | exact RS.nil | refine RS.cons rfl ?_)) ?_
  refine WX.next ?_
  refine WC.seq ?_
  refine WC.cond rfl (fun h1 => ?_) (fun h1 => ?_)
  ·
    refine WC.skip ?_
    refine WX.next ?_
    refine WC.seq ?_
    refine WC.block ?_
    refine WC.seq ?_
    refine WC.region ?_
    refine wlv (op_index Try.underlying22 sz5 (by decide) rfl rfl (by omega) (by omega) (by decide) (by first | (apply Src.rd; (repeat (first | exact List.Mem.head _ | apply List.Mem.tail)); done) | (apply Src.own; (repeat (first | exact List.Mem.head _ | apply List.Mem.tail)); done) | (apply Src.rx; (repeat (first | exact List.Mem.head _ | apply List.Mem.tail)); done))) rfl ?_
    refine wlv (op_loadS fl5 (by decide) rfl (by first | (apply Src.rd; (repeat (first | exact List.Mem.head _ | apply List.Mem.tail)); done) | (apply Src.own; (repeat (first | exact List.Mem.head _ | apply List.Mem.tail)); done) | (apply Src.rx; (repeat (first | exact List.Mem.head _ | apply List.Mem.tail)); done)) (bvs_at (k := i) (by omega) (by omega))) rfl ?_
    refine wlv (op_assign (by decide) rfl) rfl ?_
    refine WL.nil ?_
    refine WX.regs (L' := [(4, _), (5, _), (6, _), (7, _)]) (by repeat (first | exact RS.nil | refine RS.cons rfl ?_)) ?_
    refine WX.next ?_
    refine WC.seq ?_
    refine WC.region ?_
    refine wlv (op_move (by decide) rfl) rfl ?_
    refine wlv (op_neq8 (b := 0) (by decide) rfl rfl) rfl ?_
    refine WL.nil ?_
    refine WX.regs (L' := [(5, _), (6, _), (7, _), (12, _)]) (by repeat (first | exact RS.nil | refine RS.cons rfl ?_)) ?_
    refine WX.next ?_
    refine WC.cond rfl (fun h2 => ?_) (fun h2 => ?_)
    ·
      refine WC.seq ?_
      refine WC.region ?_
      refine wlv (op_assign (by decide) rfl) rfl ?_
      refine WL.nil ?_
      refine WX.regs (L' := [(2, _)]) (by repeat (first | exact RS.nil | refine RS.cons rfl ?_)) ?_
      refine WX.next ?_
      refine WC.ret ?_
      refine WX.in_ret ?_
      refine WX.then_ret ?_
      refine WX.then_ret ?_
      refine WX.in_ret ?_
      refine WX.then_ret ?_
      exact Fin.ret1 (by first | exact .inl rfl | exact .inr rfl) (_) ((blank_not bs i (by omega) h2).symm) Try.results42 (.tmp rfl) (by repeat (first | exact Takes.nil | exact Take.here | apply Takes.cons | apply Take.there)) (by simp)
    ·
      refine WC.skip ?_
      refine WX.in_normal ?_
      refine WX.next ?_
      refine WC.region ?_
      refine WL.capm (by first | (apply Src.rd; (repeat (first | exact List.Mem.head _ | apply List.Mem.tail)); done) | (apply Src.own; (repeat (first | exact List.Mem.head _ | apply List.Mem.tail)); done) | (apply Src.rx; (repeat (first | exact List.Mem.head _ | apply List.Mem.tail)); done)) (fun hcm => ?_)
      refine wlv (op_add (by decide) rfl rfl (by omega)) rfl ?_
      refine wlv (op_move (by decide) rfl) rfl ?_
      refine WL.nil ?_
      refine WX.regs (L' := [(5, _), (6, _), (7, _)]) (by repeat (first | exact RS.nil | refine RS.cons rfl ?_)) ?_
      refine WX.meet (i + 1) ⟨⟨by omega, blank_step bs i (by omega) hb (by simpa using h2)⟩, by omega⟩ (fun a w hs => hs.sub (by repeat (first | exact RS.nil | refine RS.cons (by first | rfl | exact congrArg (fun z : Int => some (Value.int .i64 z)) (by omega)) ?_)) (by repeat (first | exact Takes.nil | exact Take.here | apply Takes.cons | apply Take.there)))
  ·
    refine WC.exit ?_
    refine WX.then_exit ?_
    refine WX.then_exit ?_
    refine WX.in_hit ?_
    refine WX.next ?_
    refine WC.seq ?_
    refine WC.region ?_
    refine wlv (op_assign (by decide) rfl) rfl ?_
    refine WL.nil ?_
    refine WX.regs (L' := [(2, _)]) (by repeat (first | exact RS.nil | refine RS.cons rfl ?_)) ?_
    refine WX.next ?_
    refine WC.ret ?_
    exact Fin.ret1 (by first | exact .inl rfl | exact .inr rfl) (_) (by rw [← hb, show bs.take i = bs by rw [List.take_of_length_le (by omega)]]) Try.results42 (.tmp rfl) (by repeat (first | exact Takes.nil | exact Take.here | apply Takes.cons | apply Take.there)) (by simp)
end Go.Proofs.Ythephcghglldaaa.Sx
