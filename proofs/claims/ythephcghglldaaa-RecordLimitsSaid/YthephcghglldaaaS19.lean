import Derived.Test.YthephcghglldaaaS18
import Derived.Test.YthephcghglldaaaSk
set_option linter.unusedVariables false
set_option linter.unusedSimpArgs false
namespace Go.Proofs.Ythephcghglldaaa.Sx
open Go.RowKit Go.Proofs.Ythephcghglldaaa.Ty
attribute [local irreducible] blk own rd rx frameC

structure Sc where
  (kd at_ by_ : UInt8)
  (k g n i c k2 g2 n2 i2 c2 : Int)
  (p o y : Bs)
def Sc.cells (s : Sc) : List Value := [bv s.kd, .int .i64 s.k, .int .i64 s.g, .int .i64 s.n, .int .i64 s.i, .int .i64 s.c, s.p.v, .int .i64 s.k2, .int .i64 s.g2, .int .i64 s.n2, .int .i64 s.i2, .int .i64 s.c2, s.o.v, bv s.at_, bv s.by_, s.y.v]
def Sc.rows (s : Sc) : List Bs := [s.p, s.o, s.y]
theorem pset_len (cur ys : List UInt8) (l : Nat) (h : l + ys.length ≤ cur.length) : (cur.take l ++ ys ++ cur.drop (l + ys.length)).length = cur.length := by
  simp; omega
set_option maxHeartbeats 400000 in
set_option maxRecDepth 10000 in
theorem f24_spec (x : Sc) (hy : x.y.s.length ≤ 140737488355328) :
    Spec Try.prog 24 [.agg x.cells.toArray] [] [rowsC false x.rows] (R := Option Addr × Nat × List UInt8) (fun q => q.2.2.length = 256) (fun q => .slice q.1 256 q.2.1) (fun q => [own (.slice q.1 256 q.2.1) 5 1 256 (bvs q.2.2)]) := by
  have hat : x.at_.toNat < 256 := x.at_.toNat_lt
  refine Spec.intro Try.func24 Try.ntmps24 rfl (by simp) (by simp) fun w0 => ?_
  refine WC.dup (c := rowsC false x.rows) (d := rd (.slice x.p.A x.p.s.length x.p.c) 1 x.p.s.length (bvs x.p.s)) (by repeat (first | exact List.Mem.head _ | apply List.Mem.tail)) rfl (by simp) (rowsC_get (r := x.p) (by simp [Sc.rows])) ?_
  refine WC.dup (c := rowsC false x.rows) (d := rd (.slice x.o.A x.o.s.length x.o.c) 1 x.o.s.length (bvs x.o.s)) (by repeat (first | exact List.Mem.head _ | apply List.Mem.tail)) rfl (by simp) (rowsC_get (r := x.o) (by simp [Sc.rows])) ?_
  refine WC.dup (c := rowsC false x.rows) (d := rd (.slice x.y.A x.y.s.length x.y.c) 1 x.y.s.length (bvs x.y.s)) (by repeat (first | exact List.Mem.head _ | apply List.Mem.tail)) rfl (by simp) (rowsC_get (r := x.y) (by simp [Sc.rows])) ?_
  refine WC.seq ?_
  refine WC.region ?_
  refine wl1 (op_box (by decide) rfl rfl) rfl fun b1 => ?_
  refine wlv (op_assign (by decide) rfl) rfl ?_
  refine WL.nil ?_
  refine WX.regs (L' := [(1, _)]) (by repeat (first | exact RS.nil | refine RS.cons rfl ?_)) ?_
  refine WX.next ?_
  refine WC.seq ?_
  refine WC.region ?_
  refine wlv (op_fieldAddr fo40_1 (by decide) rfl) rfl ?_
  refine wlv (op_loadN ag24 (by decide) rfl (by repeat (first | exact List.Mem.head _ | apply List.Mem.tail)) rfl) rfl ?_
  refine wl1 (op_alloc ti24 (by decide)) rfl fun b2 => ?_
  refine wl (op_storeAll sz24 rfl rfl (by repeat (first | exact Take.here | apply Take.there)) (by first | rfl | (simp [Value.cells]; done) | (simp [Value.cells]; omega)) (by first | rfl | exact wvs_one _ | exact bvs_one _) (by first | rfl | (simp [Value.cells]; done) | (simp [Value.cells]; omega))) rfl ?_
  change WL _ _ _ _ _ _ _
  refine WL.nil ?_
  refine WX.regs (L' := [(1, _), (3, _)]) (by repeat (first | exact RS.nil | refine RS.cons rfl ?_)) ?_
  refine WX.next ?_
  refine WC.seq ?_
  refine WC.region ?_
  refine WL.capx (A := x.p.A) (m := x.p.s.length) (c := x.p.c) (Src.rd (xs := bvs x.p.s) (by repeat (first | exact List.Mem.head _ | apply List.Mem.tail))) (fun hcapp => ?_)
  refine wlv (op_fieldAddr fo24_5 (by decide) rfl) rfl ?_
  refine wlv (op_load1 fl22 (by decide) rfl (by repeat (first | exact List.Mem.head _ | apply List.Mem.tail)) rfl) rfl ?_
  refine wlv (op_fieldAddr fo24_5 (by decide) rfl) rfl ?_
  refine wlv (op_load1 fl22 (by decide) rfl (by repeat (first | exact List.Mem.head _ | apply List.Mem.tail)) rfl) rfl ?_
  refine wlv (op_len Try.underlying22 (by decide) rfl) rfl ?_
  refine wlv (op_minN (a := x.p.s.length) (b := 224) (by decide) rfl rfl) rfl ?_
  refine wlv (op_slice_h Try.underlying22 sz5 (by decide) rfl rfl (by omega) (by omega)) rfl ?_
  refine wlv (op_fieldAddr fo24_5 (by decide) rfl) rfl ?_
  refine wl (op_store sz22 rfl rfl (by repeat (first | exact Take.here | apply Take.there)) (by first | rfl | (simp [Value.cells]; done) | (simp [Value.cells]; omega)) (by first | rfl | exact wvs_one _ | exact bvs_one _) (by first | exact Nat.le_of_ble_eq_true rfl | (simp; omega))) rfl ?_
  change WL _ _ _ _ _ _ _
  refine WL.nil ?_
  refine WX.blkEq (b := b2) (pcells x.k x.g x.n x.i x.c (sliced x.p.A 0 (min x.p.s.length 224) x.p.c 1)) (by repeat (first | exact Take.here | apply Take.there)) (by rfl) ?_
  refine WX.regs (L' := [(1, _), (3, _)]) (by repeat (first | exact RS.nil | refine RS.cons rfl ?_)) ?_
  refine WX.next ?_
  refine WC.seq ?_
  refine WC.region ?_
  refine wlv (op_fieldAddr fo40_2 (by decide) rfl) rfl ?_
  refine wlv (op_loadN ag24 (by decide) rfl (by repeat (first | exact List.Mem.head _ | apply List.Mem.tail)) rfl) rfl ?_
  refine wl1 (op_alloc ti24 (by decide)) rfl fun b3 => ?_
  refine wl (op_storeAll sz24 rfl rfl (by repeat (first | exact Take.here | apply Take.there)) (by first | rfl | (simp [Value.cells]; done) | (simp [Value.cells]; omega)) (by first | rfl | exact wvs_one _ | exact bvs_one _) (by first | rfl | (simp [Value.cells]; done) | (simp [Value.cells]; omega))) rfl ?_
  change WL _ _ _ _ _ _ _
  refine WL.nil ?_
  refine WX.regs (L' := [(1, _), (3, _), (4, _)]) (by repeat (first | exact RS.nil | refine RS.cons rfl ?_)) ?_
  refine WX.next ?_
  refine WC.seq ?_
  refine WC.region ?_
  refine WL.capx (A := x.o.A) (m := x.o.s.length) (c := x.o.c) (Src.rd (xs := bvs x.o.s) (by repeat (first | exact List.Mem.head _ | apply List.Mem.tail))) (fun hcapo => ?_)
  refine wlv (op_fieldAddr fo24_5 (by decide) rfl) rfl ?_
  refine wlv (op_load1 fl22 (by decide) rfl (by repeat (first | exact List.Mem.head _ | apply List.Mem.tail)) rfl) rfl ?_
  refine wlv (op_fieldAddr fo24_5 (by decide) rfl) rfl ?_
  refine wlv (op_load1 fl22 (by decide) rfl (by repeat (first | exact List.Mem.head _ | apply List.Mem.tail)) rfl) rfl ?_
  refine wlv (op_len Try.underlying22 (by decide) rfl) rfl ?_
  refine wlv (op_minN (a := x.o.s.length) (b := 224) (by decide) rfl rfl) rfl ?_
  refine wlv (op_slice_h Try.underlying22 sz5 (by decide) rfl rfl (by omega) (by omega)) rfl ?_
  refine wlv (op_fieldAddr fo24_5 (by decide) rfl) rfl ?_
  refine wl (op_store sz22 rfl rfl (by repeat (first | exact Take.here | apply Take.there)) (by first | rfl | (simp [Value.cells]; done) | (simp [Value.cells]; omega)) (by first | rfl | exact wvs_one _ | exact bvs_one _) (by first | exact Nat.le_of_ble_eq_true rfl | (simp; omega))) rfl ?_
  change WL _ _ _ _ _ _ _
  refine WL.nil ?_
  refine WX.blkEq (b := b3) (pcells x.k2 x.g2 x.n2 x.i2 x.c2 (sliced x.o.A 0 (min x.o.s.length 224) x.o.c 1)) (by repeat (first | exact Take.here | apply Take.there)) (by rfl) ?_
  refine WX.regs (L' := [(1, _), (3, _), (4, _)]) (by repeat (first | exact RS.nil | refine RS.cons rfl ?_)) ?_
  refine WX.next ?_
  refine WC.seq ?_
  refine WC.seq ?_
  refine WC.region ?_
  refine wlv (op_loadAll ag24 (by decide) rfl (by repeat (first | exact List.Mem.head _ | apply List.Mem.tail)) (by first | rfl | (simp [Value.cells]; done) | (simp [Value.cells]; omega))) rfl ?_
  refine wlx (op_call (f20_spec _ _ _ _ _ _ (min x.p.s.length 224 - 0) _) ca20 (by decide) rfl (by apply Give.mk; (repeat (first | exact Takes.nil | exact Take.here | apply Takes.cons | apply Take.there)); repeat (first | exact Reads.nil | (apply Reads.rd; (focus (repeat (first | exact List.Mem.head _ | apply List.Mem.tail)); done)) | (apply Reads.own; (focus (repeat (first | exact List.Mem.head _ | apply List.Mem.tail)); done)) | (apply Reads.rx; (focus (repeat (first | exact List.Mem.head _ | apply List.Mem.tail)); done)) | (apply Reads.rows (e := false); (focus (repeat (first | exact List.Mem.head _ | apply List.Mem.tail)); done)) | (apply Reads.rows (e := true); (focus (repeat (first | exact List.Mem.head _ | apply List.Mem.tail)); done))))) rfl ?_
  rintro _ rfl
  refine wlv (op_neq (by decide) rfl rfl) rfl ?_
  refine wlv (op_move (by decide) rfl) rfl ?_
  refine WL.split (t := 29) rfl (fun g29 => ?_) (fun g29 => ?_)
  ·
    refine wlg_no rfl rfl rfl rfl rfl (by decide) ?_
    refine wlg_no rfl rfl rfl rfl rfl (by decide) ?_
    refine wlg_no rfl rfl rfl rfl rfl (by decide) ?_
    refine wlv (op_pickT (by decide) rfl rfl) rfl ?_
    refine WL.nil ?_
    refine WX.regs (L' := [(1, _), (3, _), (4, _), (33, _)]) (by repeat (first | exact RS.nil | refine RS.cons rfl ?_)) ?_
    refine WX.next ?_
    refine WC.condT rfl ?_
    refine WC.seq ?_
    refine WC.region ?_
    refine wlv (op_fieldAddr fo40_5 (by decide) rfl) rfl ?_
    refine wlv (op_load1 fl22 (by decide) rfl (by repeat (first | exact List.Mem.head _ | apply List.Mem.tail)) rfl) rfl ?_
    refine wlx (op_call (f55_spec x.y.A x.y.s.length x.y.c x.y.s rfl hy) ca55 (by decide) rfl (by apply Give.mk; (repeat (first | exact Takes.nil | exact Take.here | apply Takes.cons | apply Take.there)); repeat (first | exact Reads.nil | (apply Reads.rd; (focus (repeat (first | exact List.Mem.head _ | apply List.Mem.tail)); done)) | (apply Reads.own; (focus (repeat (first | exact List.Mem.head _ | apply List.Mem.tail)); done)) | (apply Reads.rx; (focus (repeat (first | exact List.Mem.head _ | apply List.Mem.tail)); done)) | (apply Reads.rows (e := false); (focus (repeat (first | exact List.Mem.head _ | apply List.Mem.tail)); done)) | (apply Reads.rows (e := true); (focus (repeat (first | exact List.Mem.head _ | apply List.Mem.tail)); done))))) rfl ?_
    rintro ⟨As, cs⟩ _
    refine wlv (op_assign (by decide) rfl) rfl ?_
    refine WL.nil ?_
    refine WX.regs (L' := [(2, _)]) (by repeat (first | exact RS.nil | refine RS.cons rfl ?_)) ?_
    refine WX.next ?_
    refine WC.ret ?_
    refine WX.then_ret ?_
    exact Fin.ret1 (by first | exact .inl rfl | exact .inr rfl) ((As, cs, sealB x.y.s)) (sealB_length _) Try.results24 (.tmp rfl) (by repeat (first | exact Takes.nil | exact Take.here | apply Takes.cons | apply Take.there)) (by simp)
  ·
    refine wlgv (op_loadAll ag24 (by decide) rfl (by repeat (first | exact List.Mem.head _ | apply List.Mem.tail)) (by first | rfl | (simp [Value.cells]; done) | (simp [Value.cells]; omega))) rfl rfl rfl ?_
    refine wlgx (op_call (f20_spec _ _ _ _ _ _ (min x.o.s.length 224 - 0) _) ca20 (by decide) rfl (by apply Give.mk; (repeat (first | exact Takes.nil | exact Take.here | apply Takes.cons | apply Take.there)); repeat (first | exact Reads.nil | (apply Reads.rd; (focus (repeat (first | exact List.Mem.head _ | apply List.Mem.tail)); done)) | (apply Reads.own; (focus (repeat (first | exact List.Mem.head _ | apply List.Mem.tail)); done)) | (apply Reads.rx; (focus (repeat (first | exact List.Mem.head _ | apply List.Mem.tail)); done)) | (apply Reads.rows (e := false); (focus (repeat (first | exact List.Mem.head _ | apply List.Mem.tail)); done)) | (apply Reads.rows (e := true); (focus (repeat (first | exact List.Mem.head _ | apply List.Mem.tail)); done))))) rfl rfl rfl ?_
    rintro _ rfl
    refine wlgv (op_neq (by decide) rfl rfl) rfl rfl rfl ?_
    refine wlv (op_pickF (by decide) rfl rfl) rfl ?_
    refine WL.nil ?_
    refine WX.regs (L' := [(1, _), (3, _), (4, _), (33, _)]) (by repeat (first | exact RS.nil | refine RS.cons rfl ?_)) ?_
    refine WX.next ?_
    refine WC.cond rfl (fun h1 => ?_) (fun h1 => ?_)
    ·
      refine WC.seq ?_
      refine WC.region ?_
      refine wlv (op_fieldAddr fo40_5 (by decide) rfl) rfl ?_
      refine wlv (op_load1 fl22 (by decide) rfl (by repeat (first | exact List.Mem.head _ | apply List.Mem.tail)) rfl) rfl ?_
      refine wlx (op_call (f55_spec x.y.A x.y.s.length x.y.c x.y.s rfl hy) ca55 (by decide) rfl (by apply Give.mk; (repeat (first | exact Takes.nil | exact Take.here | apply Takes.cons | apply Take.there)); repeat (first | exact Reads.nil | (apply Reads.rd; (focus (repeat (first | exact List.Mem.head _ | apply List.Mem.tail)); done)) | (apply Reads.own; (focus (repeat (first | exact List.Mem.head _ | apply List.Mem.tail)); done)) | (apply Reads.rx; (focus (repeat (first | exact List.Mem.head _ | apply List.Mem.tail)); done)) | (apply Reads.rows (e := false); (focus (repeat (first | exact List.Mem.head _ | apply List.Mem.tail)); done)) | (apply Reads.rows (e := true); (focus (repeat (first | exact List.Mem.head _ | apply List.Mem.tail)); done))))) rfl ?_
      rintro ⟨As, cs⟩ _
      refine wlv (op_assign (by decide) rfl) rfl ?_
      refine WL.nil ?_
      refine WX.regs (L' := [(2, _)]) (by repeat (first | exact RS.nil | refine RS.cons rfl ?_)) ?_
      refine WX.next ?_
      refine WC.ret ?_
      refine WX.then_ret ?_
      exact Fin.ret1 (by first | exact .inl rfl | exact .inr rfl) ((As, cs, sealB x.y.s)) (sealB_length _) Try.results24 (.tmp rfl) (by repeat (first | exact Takes.nil | exact Take.here | apply Takes.cons | apply Take.there)) (by simp)
    ·
      refine WC.skip ?_
      refine WX.next ?_
      refine WC.seq ?_
      refine WC.region ?_
      obtain ⟨hf, hc1, hc2, hi1, hi2, hb⟩ := chk_ok (Decidable.not_not.1 g29)
      simp only [fineP] at hf
      obtain ⟨hf2, hc12, hc22, hi12, hi22, hb2⟩ := chk_ok (Decidable.not_not.1 h1)
      simp only [fineP] at hf2
      have ek : (((x.k).toNat : Nat) : Int) = x.k := Int.toNat_of_nonneg (by omega)
      have eg : (((x.g).toNat : Nat) : Int) = x.g := Int.toNat_of_nonneg (by omega)
      have en : (((x.n).toNat : Nat) : Int) = x.n := Int.toNat_of_nonneg (by omega)
      have ei : (((x.i).toNat : Nat) : Int) = x.i := Int.toNat_of_nonneg (by omega)
      have ec : (((x.c).toNat : Nat) : Int) = x.c := Int.toNat_of_nonneg (by omega)
      have ek2 : (((x.k2).toNat : Nat) : Int) = x.k2 := Int.toNat_of_nonneg (by omega)
      have eg2 : (((x.g2).toNat : Nat) : Int) = x.g2 := Int.toNat_of_nonneg (by omega)
      have en2 : (((x.n2).toNat : Nat) : Int) = x.n2 := Int.toNat_of_nonneg (by omega)
      have ei2 : (((x.i2).toNat : Nat) : Int) = x.i2 := Int.toNat_of_nonneg (by omega)
      have ec2 : (((x.c2).toNat : Nat) : Int) = x.c2 := Int.toNat_of_nonneg (by omega)
      refine WL.dup (c := rd (.slice x.p.A x.p.s.length x.p.c) 1 x.p.s.length (bvs x.p.s)) (d := rd (sliced x.p.A 0 (min x.p.s.length 224) x.p.c 1) 1 (min x.p.s.length 224 - 0) (bvs ((x.p.s.drop 0).take (min x.p.s.length 224 - 0)))) (by repeat (first | exact List.Mem.head _ | apply List.Mem.tail)) (by simp) (by simp) (rd_subB (l := 0) (h := min x.p.s.length 224) (Nat.zero_le _) (Nat.min_le_left _ _)) ?_
      refine WL.dup (c := rd (.slice x.o.A x.o.s.length x.o.c) 1 x.o.s.length (bvs x.o.s)) (d := rd (sliced x.o.A 0 (min x.o.s.length 224) x.o.c 1) 1 (min x.o.s.length 224 - 0) (bvs ((x.o.s.drop 0).take (min x.o.s.length 224 - 0)))) (by repeat (first | exact List.Mem.head _ | apply List.Mem.tail)) (by simp) (by simp) (rd_subB (l := 0) (h := min x.o.s.length 224) (Nat.zero_le _) (Nat.min_le_left _ _)) ?_
      refine wlv (op_loadAll ag24 (by decide) rfl (by repeat (first | exact List.Mem.head _ | apply List.Mem.tail)) (by first | rfl | (simp [Value.cells]; done) | (simp [Value.cells]; omega))) rfl ?_
      rw [show ((pcells x.k x.g x.n x.i x.c (sliced x.p.A 0 (min x.p.s.length 224) x.p.c 1)) : List Value) = pcells (x.k.toNat : Nat) (x.g.toNat : Nat) (x.n.toNat : Nat) (x.i.toNat : Nat) (x.c.toNat : Nat) (sliced x.p.A 0 (min x.p.s.length 224) x.p.c 1) by rw [ek, eg, en, ei, ec]]
      refine wlx (op_call (f22_spec x.k.toNat x.g.toNat x.n.toNat x.i.toNat x.c.toNat _ (min x.p.s.length 224 - 0) _ ((x.p.s.drop 0).take (min x.p.s.length 224 - 0)) (by simp only [List.length_take, List.length_drop]; omega) (by omega) (by omega) (by omega) (by omega) (by omega) (by omega)) ca22 (by decide) rfl (by apply Give.mk; (repeat (first | exact Takes.nil | exact Take.here | apply Takes.cons | apply Take.there)); repeat (first | exact Reads.nil | (apply Reads.rd; (focus (repeat (first | exact List.Mem.head _ | apply List.Mem.tail)); done)) | (apply Reads.own; (focus (repeat (first | exact List.Mem.head _ | apply List.Mem.tail)); done)) | (apply Reads.rx; (focus (repeat (first | exact List.Mem.head _ | apply List.Mem.tail)); done)) | (apply Reads.rows (e := false); (focus (repeat (first | exact List.Mem.head _ | apply List.Mem.tail)); done)) | (apply Reads.rows (e := true); (focus (repeat (first | exact List.Mem.head _ | apply List.Mem.tail)); done))))) rfl ?_
      rintro ⟨Ae, ce⟩ _
      refine wlv (op_assign (by decide) rfl) rfl ?_
      refine WL.nil ?_
      refine WX.regs (L' := [(1, _), (4, _), (5, _)]) (by repeat (first | exact RS.nil | refine RS.cons rfl ?_)) ?_
      refine WX.next ?_
      refine WC.cut (X := Option Addr × Nat × List UInt8) (fun q => q.2.2.length = 256) (fun q => [(5, .slice q.1 256 q.2.1)]) (fun q => [own (.slice q.1 256 q.2.1) 5 1 256 (bvs q.2.2), frameC w0 (MutF [])]) ?_ ?_
      ·
        refine WC.seq ?_
        refine WC.region ?_
        refine wlv (op_fieldAddr fo40_0 (by decide) rfl) rfl ?_
        refine wlv (op_load1 fl5 (by decide) rfl (by repeat (first | exact List.Mem.head _ | apply List.Mem.tail)) rfl) rfl ?_
        refine wlv (op_rem (by decide) rfl rfl (by omega) (by omega)) rfl ?_
        refine WL.nil ?_
        refine WX.regs (L' := [(1, _), (4, _), (5, _), (41, _)]) (by repeat (first | exact RS.nil | refine RS.cons rfl ?_)) ?_
        refine WX.next ?_
        refine WC.block ?_
        refine WC.seq ?_
        refine WC.region ?_
        refine wlv (op_eql (by decide) rfl rfl) rfl ?_
        refine wlv (op_assign (by decide) rfl) rfl ?_
        refine WL.nil ?_
        refine WX.regs (L' := [(1, _), (4, _), (5, _), (41, _), (42, _)]) (by repeat (first | exact RS.nil | refine RS.cons rfl ?_)) ?_
        refine WX.next ?_
        refine WC.cond rfl (fun h2 => ?_) (fun h2 => ?_)
        ·
          refine WC.drawnH mo 9 ?_
          refine WA.take (i := 0) rfl (by kernel_rfl) (fun _ _ _ h => h) rfl (op_move (by decide) rfl) (by repeat (first | exact Takes.nil | exact Take.here | apply Takes.cons | apply Take.there)) ?_
          refine WA.take (i := 1) rfl (by kernel_rfl) (fun _ _ _ h => h) rfl (op_fieldAddr fo40_3 (by decide) rfl) (by repeat (first | exact Takes.nil | exact Take.here | apply Takes.cons | apply Take.there)) ?_
          refine WA.take (i := 2) rfl (by kernel_rfl) (fun _ _ _ h => h) rfl (op_load1 fl5 (by decide) rfl (by repeat (first | exact List.Mem.head _ | apply List.Mem.tail)) rfl) (by repeat (first | exact Takes.nil | exact Take.here | apply Takes.cons | apply Take.there)) ?_
          refine WA.take (i := 3) rfl (by kernel_rfl) (fun _ _ _ h => h) rfl (op_index Try.underlying22 sz5 (by decide) rfl rfl (by omega) (by omega) (by decide) (by first | (apply Src.rd; (repeat (first | exact List.Mem.head _ | apply List.Mem.tail)); done) | (apply Src.own; (repeat (first | exact List.Mem.head _ | apply List.Mem.tail)); done) | (apply Src.rx; (repeat (first | exact List.Mem.head _ | apply List.Mem.tail)); done))) (by repeat (first | exact Takes.nil | exact Take.here | apply Takes.cons | apply Take.there)) ?_
          refine WA.take (i := 4) rfl (by kernel_rfl) (fun _ _ _ h => h) rfl (op_loadS fl5 (by decide) rfl (by first | (apply Src.rd; (repeat (first | exact List.Mem.head _ | apply List.Mem.tail)); done) | (apply Src.own; (repeat (first | exact List.Mem.head _ | apply List.Mem.tail)); done) | (apply Src.rx; (repeat (first | exact List.Mem.head _ | apply List.Mem.tail)); done)) (bvs_at (k := x.at_.toNat) (by omega) (by rw [enc_length]; exact hat))) (by repeat (first | exact Takes.nil | exact Take.here | apply Takes.cons | apply Take.there)) ?_
          refine WA.take (i := 5) rfl (by kernel_rfl) (fun _ _ _ h => h) rfl (op_fieldAddr fo40_4 (by decide) rfl) (by repeat (first | exact Takes.nil | exact Take.here | apply Takes.cons | apply Take.there)) ?_
          refine WA.take (i := 6) rfl (by kernel_rfl) (fun _ _ _ h => h) rfl (op_load1 fl5 (by decide) rfl (by repeat (first | exact List.Mem.head _ | apply List.Mem.tail)) rfl) (by repeat (first | exact Takes.nil | exact Take.here | apply Takes.cons | apply Take.there)) ?_
          refine WA.take (i := 7) rfl (by kernel_rfl) (fun _ _ _ h => h) rfl (op_xor8 (by decide) rfl rfl) (by repeat (first | exact Takes.nil | exact Take.here | apply Takes.cons | apply Take.there)) ?_
          refine WA.take (i := 8) rfl (by kernel_rfl) (fun _ _ _ h => h) rfl (op_index Try.underlying22 sz5 (by decide) rfl rfl (by omega) (by omega) (by decide) (by first | (apply Src.rd; (repeat (first | exact List.Mem.head _ | apply List.Mem.tail)); done) | (apply Src.own; (repeat (first | exact List.Mem.head _ | apply List.Mem.tail)); done) | (apply Src.rx; (repeat (first | exact List.Mem.head _ | apply List.Mem.tail)); done))) (by repeat (first | exact Takes.nil | exact Take.here | apply Takes.cons | apply Take.there)) ?_
          refine WA.stepo (G := []) (i := 9) (by kernel_rfl) rfl rfl (op_storeS sz5 rfl rfl (by repeat (first | exact Take.here | apply Take.there)) rfl rfl (by simp [enc_length]; omega) (by decide)) (fun h => absurd rfl h) ?_
          refine WA.done (by kernel_rfl) ?_
          refine WX.ownEq (v := .slice Ae 256 ce) (bvs ((enc x.k.toNat x.g.toNat x.n.toNat x.i.toNat x.c.toNat ((x.p.s.drop 0).take (min x.p.s.length 224 - 0))).set x.at_.toNat ((enc x.k.toNat x.g.toNat x.n.toNat x.i.toNat x.c.toNat ((x.p.s.drop 0).take (min x.p.s.length 224 - 0))).getD x.at_.toNat 0 ^^^ x.by_))) (by repeat (first | exact Take.here | apply Take.there)) (bvs_put (k := x.at_.toNat) (by omega) (by rw [enc_length]; exact hat)) ?_
          refine WX.regs (L' := [(5, _)]) (by repeat (first | exact RS.nil | refine RS.cons rfl ?_)) ?_
          refine WX.in_normal ?_
          refine WX.meet ((Ae, ce, ((enc x.k.toNat x.g.toNat x.n.toNat x.i.toNat x.c.toNat ((x.p.s.drop 0).take (min x.p.s.length 224 - 0))).set x.at_.toNat ((enc x.k.toNat x.g.toNat x.n.toNat x.i.toNat x.c.toNat ((x.p.s.drop 0).take (min x.p.s.length 224 - 0))).getD x.at_.toNat 0 ^^^ x.by_)))) (by simp [enc_length]) (fun a w hs => hs.sub (by repeat (first | exact RS.nil | refine RS.cons (by first | rfl | exact congrArg (fun z : Int => some (Value.int .i64 z)) (by omega)) ?_)) (by repeat (first | exact Takes.nil | exact Take.here | apply Takes.cons | apply Take.there)))
        ·
          refine WC.seq ?_
          refine WC.region ?_
          refine wlv (op_eql (by decide) rfl rfl) rfl ?_
          refine wlv (op_assign (by decide) rfl) rfl ?_
          refine WL.nil ?_
          refine WX.regs (L' := [(1, _), (4, _), (5, _), (41, _), (53, _)]) (by repeat (first | exact RS.nil | refine RS.cons rfl ?_)) ?_
          refine WX.next ?_
          refine WC.cond rfl (fun h3 => ?_) (fun h3 => ?_)
          ·
            refine WC.drawn (Hs := [blk b1 x.cells 40, blk b3 (pcells x.k2 x.g2 x.n2 x.i2 x.c2 (sliced x.o.A 0 (min x.o.s.length 224) x.o.c 1)) 24]) mo 999 ?_
            refine WA.take (i := 0) rfl (by kernel_rfl) (fun _ _ _ h => h) rfl (op_move (by decide) rfl) (by repeat (first | exact Takes.nil | exact Take.here | apply Takes.cons | apply Take.there)) ?_
            refine WA.take (i := 1) rfl (by kernel_rfl) (fun _ _ _ h => h) rfl (op_fieldAddr fo40_3 (by decide) rfl) (by repeat (first | exact Takes.nil | exact Take.here | apply Takes.cons | apply Take.there)) ?_
            refine WA.take (i := 2) rfl (by kernel_rfl) (fun _ _ _ h => h) rfl (op_load1 fl5 (by decide) rfl (by repeat (first | exact List.Mem.head _ | apply List.Mem.tail)) rfl) (by repeat (first | exact Takes.nil | exact Take.here | apply Takes.cons | apply Take.there)) ?_
            refine WA.take (i := 3) rfl (by kernel_rfl) (fun _ _ _ h => h) rfl (op_conv8i (by kernel_rfl) Try.underlying3 (by decide) rfl) (by repeat (first | exact Takes.nil | exact Take.here | apply Takes.cons | apply Take.there)) ?_
            refine WA.take (i := 4) rfl (by kernel_rfl) (fun _ _ _ h => h) rfl (op_rem (by decide) rfl rfl (by omega) (by omega)) (by repeat (first | exact Takes.nil | exact Take.here | apply Takes.cons | apply Take.there)) ?_
            refine WA.take (i := 5) rfl (by kernel_rfl) (fun _ _ _ h => h) rfl (op_mul (by decide) rfl rfl (by omega)) (by repeat (first | exact Takes.nil | exact Take.here | apply Takes.cons | apply Take.there)) ?_
            refine WA.take (i := 6) rfl (by kernel_rfl) (fun _ _ _ h => h) rfl (op_slice_l Try.underlying22 sz5 (by decide) rfl rfl (by omega) (by omega)) (by repeat (first | exact Takes.nil | exact Take.here | apply Takes.cons | apply Take.there)) ?_
            refine WA.take (i := 7) rfl (by kernel_rfl) (fun _ _ _ h => h) rfl (op_loadAll ag24 (by decide) rfl (by repeat (first | exact List.Mem.head _ | apply List.Mem.tail)) (by first | rfl | (simp [Value.cells]; done) | (simp [Value.cells]; omega))) (by repeat (first | exact Takes.nil | exact Take.here | apply Takes.cons | apply Take.there)) ?_
            rw [show ((pcells x.k2 x.g2 x.n2 x.i2 x.c2 (sliced x.o.A 0 (min x.o.s.length 224) x.o.c 1)) : List Value) = pcells (x.k2.toNat : Nat) (x.g2.toNat : Nat) (x.n2.toNat : Nat) (x.i2.toNat : Nat) (x.c2.toNat : Nat) (sliced x.o.A 0 (min x.o.s.length 224) x.o.c 1) by rw [ek2, eg2, en2, ei2, ec2]]
            refine WA.take (i := 9) rfl (by kernel_rfl) (fun _ _ _ h => h) rfl (op_fieldAddr fo40_3 (by decide) rfl) (by repeat (first | exact Takes.nil | exact Take.here | apply Takes.cons | apply Take.there)) ?_
            refine WA.take (i := 10) rfl (by kernel_rfl) (fun _ _ _ h => h) rfl (op_load1 fl5 (by decide) rfl (by repeat (first | exact List.Mem.head _ | apply List.Mem.tail)) rfl) (by repeat (first | exact Takes.nil | exact Take.here | apply Takes.cons | apply Take.there)) ?_
            refine WA.take (i := 11) rfl (by kernel_rfl) (fun _ _ _ h => h) rfl (op_conv8i (by kernel_rfl) Try.underlying3 (by decide) rfl) (by repeat (first | exact Takes.nil | exact Take.here | apply Takes.cons | apply Take.there)) ?_
            refine WA.take (i := 12) rfl (by kernel_rfl) (fun _ _ _ h => h) rfl (op_rem (by decide) rfl rfl (by omega) (by omega)) (by repeat (first | exact Takes.nil | exact Take.here | apply Takes.cons | apply Take.there)) ?_
            refine WA.take (i := 13) rfl (by kernel_rfl) (fun _ _ _ h => h) rfl (op_mul (by decide) rfl rfl (by omega)) (by repeat (first | exact Takes.nil | exact Take.here | apply Takes.cons | apply Take.there)) ?_
            refine WA.stepx (i := 8) (by kernel_rfl) rfl rfl (op_call (f22_spec x.k2.toNat x.g2.toNat x.n2.toNat x.i2.toNat x.c2.toNat _ (min x.o.s.length 224 - 0) _ ((x.o.s.drop 0).take (min x.o.s.length 224 - 0)) (by simp only [List.length_take, List.length_drop]; omega) (by omega) (by omega) (by omega) (by omega) (by omega) (by omega)) ca22 (by decide) rfl (by apply Give.mk; (repeat (first | exact Takes.nil | exact Take.here | apply Takes.cons | apply Take.there)); repeat (first | exact Reads.nil | (apply Reads.rd; (focus (repeat (first | exact List.Mem.head _ | apply List.Mem.tail)); done)) | (apply Reads.own; (focus (repeat (first | exact List.Mem.head _ | apply List.Mem.tail)); done)) | (apply Reads.rx; (focus (repeat (first | exact List.Mem.head _ | apply List.Mem.tail)); done)) | (apply Reads.rows (e := false); (focus (repeat (first | exact List.Mem.head _ | apply List.Mem.tail)); done)) | (apply Reads.rows (e := true); (focus (repeat (first | exact List.Mem.head _ | apply List.Mem.tail)); done))))) (fun _ r => (by repeat (first | exact Takes.nil | exact Take.here | apply Takes.cons | apply Take.there))) ?_
            rintro ⟨Af, cf⟩ _
            refine WA.turn (c := own (.slice Af 256 cf) 5 1 256 (bvs (enc x.k2.toNat x.g2.toNat x.n2.toNat x.i2.toNat x.c2.toNat ((x.o.s.drop 0).take (min x.o.s.length 224 - 0))))) (d := rd (.slice Af 256 cf) 1 256 (bvs (enc x.k2.toNat x.g2.toNat x.n2.toNat x.i2.toNat x.c2.toNat ((x.o.s.drop 0).take (min x.o.s.length 224 - 0))))) (by repeat (first | exact Take.here | apply Take.there)) own_le_rd ?_
            refine WA.dup (c := rd (.slice Af 256 cf) 1 256 (bvs (enc x.k2.toNat x.g2.toNat x.n2.toNat x.i2.toNat x.c2.toNat ((x.o.s.drop 0).take (min x.o.s.length 224 - 0))))) (d := rd (sliced Af (16 * (x.at_.toNat % 17)) 256 cf 1) 1 (256 - (16 * (x.at_.toNat % 17))) (bvs ((enc x.k2.toNat x.g2.toNat x.n2.toNat x.i2.toNat x.c2.toNat ((x.o.s.drop 0).take (min x.o.s.length 224 - 0))).drop (16 * (x.at_.toNat % 17))))) (by repeat (first | exact List.Mem.head _ | apply List.Mem.tail)) (by simp) (by simp) (rd_dropB (enc_length _ _ _ _ _ _) (by omega)) ?_
            refine WA.take (i := 14) rfl (by kernel_rfl) (fun _ _ _ h => h) rfl (op_slice_l Try.underlying22 sz5 (by decide) rfl rfl (by omega) (by omega)) (by repeat (first | exact Takes.nil | exact Take.here | apply Takes.cons | apply Take.there)) ?_
            refine WA.stepo (i := 15) (by kernel_rfl) rfl rfl (op_copyz Try.underlying22 sz5 (by decide) rfl rfl (by repeat (first | exact Take.here | apply Take.there)) (Src.rd (by repeat (first | exact List.Mem.head _ | apply List.Mem.tail))) (bvs_one _) (by omega)) (fun _ => (by repeat (first | exact Takes.nil | exact Take.here | apply Takes.cons | apply Take.there))) ?_
            refine WA.done (by kernel_rfl) ?_
            refine WX.ownEq (v := .slice Ae 256 ce) (bvs ((enc x.k.toNat x.g.toNat x.n.toNat x.i.toNat x.c.toNat ((x.p.s.drop 0).take (min x.p.s.length 224 - 0))).take (16 * (x.at_.toNat % 17)) ++ (enc x.k2.toNat x.g2.toNat x.n2.toNat x.i2.toNat x.c2.toNat ((x.o.s.drop 0).take (min x.o.s.length 224 - 0))).drop (16 * (x.at_.toNat % 17)) ++ (enc x.k.toNat x.g.toNat x.n.toNat x.i.toNat x.c.toNat ((x.p.s.drop 0).take (min x.p.s.length 224 - 0))).drop ((16 * (x.at_.toNat % 17)) + ((enc x.k2.toNat x.g2.toNat x.n2.toNat x.i2.toNat x.c2.toNat ((x.o.s.drop 0).take (min x.o.s.length 224 - 0))).drop (16 * (x.at_.toNat % 17))).length))) (by repeat (first | exact Take.here | apply Take.there)) (pset_bvs _ _ _) ?_
            refine WX.regs (L' := [(5, _)]) (by repeat (first | exact RS.nil | refine RS.cons rfl ?_)) ?_
            refine WX.in_normal ?_
            refine WX.meet ((Ae, ce, ((enc x.k.toNat x.g.toNat x.n.toNat x.i.toNat x.c.toNat ((x.p.s.drop 0).take (min x.p.s.length 224 - 0))).take (16 * (x.at_.toNat % 17)) ++ (enc x.k2.toNat x.g2.toNat x.n2.toNat x.i2.toNat x.c2.toNat ((x.o.s.drop 0).take (min x.o.s.length 224 - 0))).drop (16 * (x.at_.toNat % 17)) ++ (enc x.k.toNat x.g.toNat x.n.toNat x.i.toNat x.c.toNat ((x.p.s.drop 0).take (min x.p.s.length 224 - 0))).drop ((16 * (x.at_.toNat % 17)) + ((enc x.k2.toNat x.g2.toNat x.n2.toNat x.i2.toNat x.c2.toNat ((x.o.s.drop 0).take (min x.o.s.length 224 - 0))).drop (16 * (x.at_.toNat % 17))).length)))) (by have h := pset_len (enc x.k.toNat x.g.toNat x.n.toNat x.i.toNat x.c.toNat ((x.p.s.drop 0).take (min x.p.s.length 224 - 0))) ((enc x.k2.toNat x.g2.toNat x.n2.toNat x.i2.toNat x.c2.toNat ((x.o.s.drop 0).take (min x.o.s.length 224 - 0))).drop (16 * (x.at_.toNat % 17))) (16 * (x.at_.toNat % 17)) (by simp [enc_length]; omega); rw [enc_length] at h; exact h) (fun a w hs => hs.sub (by repeat (first | exact RS.nil | refine RS.cons (by first | rfl | exact congrArg (fun z : Int => some (Value.int .i64 z)) (by omega)) ?_)) (by repeat (first | exact Takes.nil | exact Take.here | apply Takes.cons | apply Take.there)))
          ·
            refine WC.seq ?_
            refine WC.region ?_
            refine wlv (op_eql (by decide) rfl rfl) rfl ?_
            refine wlv (op_assign (by decide) rfl) rfl ?_
            refine WL.nil ?_
            refine WX.regs (L' := [(1, _), (5, _), (41, _), (71, _)]) (by repeat (first | exact RS.nil | refine RS.cons rfl ?_)) ?_
            refine WX.next ?_
            refine WC.cond rfl (fun h4 => ?_) (fun h4 => ?_)
            ·
              refine WC.region ?_
              refine wl1 (op_make (z1 := (.int .u8 0)) (sz := 1) (zero := []) Try.underlying22 ti5 (by decide) rfl rfl (by omega) (by omega) (by omega) (by omega)) rfl fun b4 => ?_
              refine wlv (op_assign (by decide) rfl) rfl ?_
              refine WL.nil ?_
              refine WX.turn (c := blk b4 (List.replicate 256 (.int .u8 0)) 5) (d := own (.slice (some ⟨b4, 0, none⟩) 256 256) 5 1 256 (bvs (List.replicate 256 0))) (by repeat (first | exact Take.here | apply Take.there)) (own_le_blk (by rfl) (by decide)) ?_
              refine WX.regs (L' := [(5, _)]) (by repeat (first | exact RS.nil | refine RS.cons rfl ?_)) ?_
              refine WX.in_normal ?_
              refine WX.meet ((some ⟨b4, 0, none⟩, 256, List.replicate 256 0)) (by rfl) (fun a w hs => hs.sub (by repeat (first | exact RS.nil | refine RS.cons (by first | rfl | exact congrArg (fun z : Int => some (Value.int .i64 z)) (by omega)) ?_)) (by repeat (first | exact Takes.nil | exact Take.here | apply Takes.cons | apply Take.there)))
            ·
              refine WC.seq ?_
              refine WC.region ?_
              refine wlv (op_eql (by decide) rfl rfl) rfl ?_
              refine wlv (op_assign (by decide) rfl) rfl ?_
              refine WL.nil ?_
              refine WX.regs (L' := [(1, _), (5, _), (74, _)]) (by repeat (first | exact RS.nil | refine RS.cons rfl ?_)) ?_
              refine WX.next ?_
              refine WC.cond rfl (fun h5 => ?_) (fun h5 => ?_)
              ·
                refine WC.region ?_
                refine wlv (op_fieldAddr fo40_5 (by decide) rfl) rfl ?_
                refine wlv (op_load1 fl22 (by decide) rfl (by repeat (first | exact List.Mem.head _ | apply List.Mem.tail)) rfl) rfl ?_
                refine wlx (op_call (f55_spec x.y.A x.y.s.length x.y.c x.y.s rfl hy) ca55 (by decide) rfl (by apply Give.mk; (repeat (first | exact Takes.nil | exact Take.here | apply Takes.cons | apply Take.there)); repeat (first | exact Reads.nil | (apply Reads.rd; (focus (repeat (first | exact List.Mem.head _ | apply List.Mem.tail)); done)) | (apply Reads.own; (focus (repeat (first | exact List.Mem.head _ | apply List.Mem.tail)); done)) | (apply Reads.rx; (focus (repeat (first | exact List.Mem.head _ | apply List.Mem.tail)); done)) | (apply Reads.rows (e := false); (focus (repeat (first | exact List.Mem.head _ | apply List.Mem.tail)); done)) | (apply Reads.rows (e := true); (focus (repeat (first | exact List.Mem.head _ | apply List.Mem.tail)); done))))) rfl ?_
                rintro ⟨As, cs⟩ _
                refine wlv (op_assign (by decide) rfl) rfl ?_
                refine WL.nil ?_
                refine WX.regs (L' := [(5, _)]) (by repeat (first | exact RS.nil | refine RS.cons rfl ?_)) ?_
                refine WX.in_normal ?_
                refine WX.meet ((As, cs, sealB x.y.s)) (sealB_length _) (fun a w hs => hs.sub (by repeat (first | exact RS.nil | refine RS.cons (by first | rfl | exact congrArg (fun z : Int => some (Value.int .i64 z)) (by omega)) ?_)) (by repeat (first | exact Takes.nil | exact Take.here | apply Takes.cons | apply Take.there)))
              ·
                refine WC.skip ?_
                refine WX.in_normal ?_
                refine WX.meet ((Ae, ce, (enc x.k.toNat x.g.toNat x.n.toNat x.i.toNat x.c.toNat ((x.p.s.drop 0).take (min x.p.s.length 224 - 0))))) (enc_length _ _ _ _ _ _) (fun a w hs => hs.sub (by repeat (first | exact RS.nil | refine RS.cons (by first | rfl | exact congrArg (fun z : Int => some (Value.int .i64 z)) (by omega)) ?_)) (by repeat (first | exact Takes.nil | exact Take.here | apply Takes.cons | apply Take.there)))
      · rintro ⟨Aq, cq, lq⟩ hq
        try dsimp only at hq ⊢
        refine WC.seq ?_
        refine WC.region ?_
        refine wlv (op_move (by decide) rfl) rfl ?_
        refine wlv (op_assign (by decide) rfl) rfl ?_
        refine WL.nil ?_
        refine WX.regs (L' := [(2, _)]) (by repeat (first | exact RS.nil | refine RS.cons rfl ?_)) ?_
        refine WX.next ?_
        refine WC.ret ?_
        exact Fin.ret1 (by first | exact .inl rfl | exact .inr rfl) ((Aq, cq, lq)) (hq) Try.results24 (.tmp rfl) (by repeat (first | exact Takes.nil | exact Take.here | apply Takes.cons | apply Take.there)) (by simp)
end Go.Proofs.Ythephcghglldaaa.Sx
