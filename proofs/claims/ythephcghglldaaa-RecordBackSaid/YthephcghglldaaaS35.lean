import Derived.Test.YthephcghglldaaaS29
set_option linter.unusedVariables false
set_option linter.unusedSimpArgs false
namespace Go.Proofs.Ythephcghglldaaa.Sx
open Go.RowKit Go.Proofs.Ythephcghglldaaa.Ty
attribute [local irreducible] blk own rd rx frameC

theorem split_ok {k g n : Int} {p : List UInt8} {l : List (List UInt8)} (h : (l, 0) = split k g n p) : fineP k g n ∧ p.length ≤ 131072 ∧ l = sects k g n p := by
  unfold split at h
  split at h
  · exact absurd (Prod.mk.inj h).2 (by decide)
  · split at h
    · exact absurd (Prod.mk.inj h).2 (by decide)
    · rename_i h1 h2
      exact ⟨Decidable.not_not.1 h1, by omega, (Prod.mk.inj h).1⟩
set_option maxHeartbeats 400000 in
set_option maxRecDepth 10000 in
theorem f10_spec (k g n : Int) (A : Option Addr) (m c : Nat) (bs : List UInt8) (hm : bs.length = m) (AB : Option Addr) (MB cB : Nat) (lb : List Sc) (hMB : lb.length = MB) (hyb : ∀ s ∈ lb, s.y.s.length ≤ 140737488355328) (less : UInt8) :
    Spec Try.prog 10 [.agg #[.int .i64 k, .int .i64 g, .int .i64 n, .slice A m c], .slice AB MB cB, bv less] [] [rd (.slice A m c) 1 m (bvs bs), rd (.slice AB MB cB) 16 MB (lb.flatMap Sc.cells), rowsC false (lb.flatMap Sc.rows)] (R := Bool) (fun b => b = true) (fun b => .bool b) (fun _ => []) := by
  have hm2 : (bs.take 2000).length = (min m 2000) := by rw [List.length_take, hm]; omega
  have hls : less.toNat < 256 := less.toNat_lt
  refine Spec.intro Try.func10 Try.ntmps10 rfl (by simp) (by simp) fun w0 => ?_
  refine WC.seq ?_
  refine WC.region ?_
  refine wl1 (op_box (by decide) rfl rfl) rfl fun b1 => ?_
  refine wlv (op_assign (by decide) rfl) rfl ?_
  refine WL.nil ?_
  refine WX.regs (L' := [(1, _), (2, _), (3, _)]) (by repeat (first | exact RS.nil | refine RS.cons rfl ?_)) ?_
  refine WX.next ?_
  refine WC.seq ?_
  refine WC.region ?_
  refine wlv (op_loadAll ag49 (by decide) rfl (by repeat (first | exact List.Mem.head _ | apply List.Mem.tail)) (by first | rfl | (simp [Value.cells]; done) | (simp [Value.cells]; omega))) rfl ?_
  refine wlx (op_call (f27_spec k g n A m c bs hm) ca27 (by decide) rfl (by apply Give.mk; (repeat (first | exact Takes.nil | exact Take.here | apply Takes.cons | apply Take.there)); repeat (first | exact Reads.nil | (apply Reads.rd; (focus (repeat (first | exact List.Mem.head _ | apply List.Mem.tail)); done)) | (apply Reads.own; (focus (repeat (first | exact List.Mem.head _ | apply List.Mem.tail)); done)) | (apply Reads.rx; (focus (repeat (first | exact List.Mem.head _ | apply List.Mem.tail)); done)) | (apply Reads.rows (e := false); (focus (repeat (first | exact List.Mem.head _ | apply List.Mem.tail)); done)) | (apply Reads.rows (e := true); (focus (repeat (first | exact List.Mem.head _ | apply List.Mem.tail)); done))))) rfl ?_
  rintro ⟨Ax, cx⟩ _
  refine wl1 (op_alloc ti50 (by decide)) rfl fun b2 => ?_
  refine wl (op_storeAll sz50 rfl rfl (by repeat (first | exact Take.here | apply Take.there)) (by first | rfl | (simp [Value.cells]; done) | (simp [Value.cells]; omega)) (by first | rfl | exact wvs_one _ | exact bvs_one _) (by first | rfl | (simp [Value.cells]; done) | (simp [Value.cells]; omega))) rfl ?_
  change WL _ _ _ _ _ _ _
  refine WL.nil ?_
  refine WX.regs (L' := [(1, _), (2, _), (7, _)]) (by repeat (first | exact RS.nil | refine RS.cons rfl ?_)) ?_
  refine WX.next ?_
  refine WC.seq ?_
  refine WC.region ?_
  refine wlv (op_loadAll ag50 (by decide) rfl (by repeat (first | exact List.Mem.head _ | apply List.Mem.tail)) (by first | rfl | (simp [Value.cells]; done) | (simp [Value.cells]; omega))) rfl ?_
  refine wlx (op_call (f30_spec k g n Ax (min m 2000) cx) ca30 (by decide) rfl (by apply Give.mk; (repeat (first | exact Takes.nil | exact Take.here | apply Takes.cons | apply Take.there)); repeat (first | exact Reads.nil | (apply Reads.rd; (focus (repeat (first | exact List.Mem.head _ | apply List.Mem.tail)); done)) | (apply Reads.own; (focus (repeat (first | exact List.Mem.head _ | apply List.Mem.tail)); done)) | (apply Reads.rx; (focus (repeat (first | exact List.Mem.head _ | apply List.Mem.tail)); done)) | (apply Reads.rows (e := false); (focus (repeat (first | exact List.Mem.head _ | apply List.Mem.tail)); done)) | (apply Reads.rows (e := true); (focus (repeat (first | exact List.Mem.head _ | apply List.Mem.tail)); done))))) rfl ?_
  rintro _ _
  refine wlx (op_call (f29_spec k g n Ax (min m 2000) cx (bs.take 2000) hm2) ca29 (by decide) rfl (by apply Give.mk; (repeat (first | exact Takes.nil | exact Take.here | apply Takes.cons | apply Take.there)); repeat (first | exact Reads.nil | (apply Reads.rd; (focus (repeat (first | exact List.Mem.head _ | apply List.Mem.tail)); done)) | (apply Reads.own; (focus (repeat (first | exact List.Mem.head _ | apply List.Mem.tail)); done)) | (apply Reads.rx; (focus (repeat (first | exact List.Mem.head _ | apply List.Mem.tail)); done)) | (apply Reads.rows (e := false); (focus (repeat (first | exact List.Mem.head _ | apply List.Mem.tail)); done)) | (apply Reads.rows (e := true); (focus (repeat (first | exact List.Mem.head _ | apply List.Mem.tail)); done))))) rfl ?_
  rintro ⟨Al, cl, rl, el⟩ hl
  dsimp only at hl
  dsimp only
  refine wlv (op_move (by decide) rfl) rfl ?_
  refine wlv (op_extract (by decide) rfl rfl) rfl ?_
  refine wlv (op_extract (by decide) rfl rfl) rfl ?_
  refine wlv (op_assign (by decide) rfl) rfl ?_
  refine wlv (op_assign (by decide) rfl) rfl ?_
  refine WL.nil ?_
  refine WX.regs (L' := [(1, _), (2, _), (7, _), (8, _), (9, _)]) (by repeat (first | exact RS.nil | refine RS.cons rfl ?_)) ?_
  refine WX.next ?_
  refine WC.seq ?_
  refine WC.seq ?_
  refine WC.region ?_
  refine wlx (op_call (f18_spec) ca18 (by decide) rfl (by apply Give.mk; (repeat (first | exact Takes.nil | exact Take.here | apply Takes.cons | apply Take.there)); repeat (first | exact Reads.nil | (apply Reads.rd; (focus (repeat (first | exact List.Mem.head _ | apply List.Mem.tail)); done)) | (apply Reads.own; (focus (repeat (first | exact List.Mem.head _ | apply List.Mem.tail)); done)) | (apply Reads.rx; (focus (repeat (first | exact List.Mem.head _ | apply List.Mem.tail)); done)) | (apply Reads.rows (e := false); (focus (repeat (first | exact List.Mem.head _ | apply List.Mem.tail)); done)) | (apply Reads.rows (e := true); (focus (repeat (first | exact List.Mem.head _ | apply List.Mem.tail)); done))))) rfl ?_
  rintro _ _
  refine wlv (op_not (by decide) rfl) rfl ?_
  refine wlv (op_move (by decide) rfl) rfl ?_
  refine wlgv (op_move (by decide) rfl) rfl rfl rfl ?_
  refine wlgv (op_neq (by decide) rfl rfl) rfl rfl rfl ?_
  refine wlv (op_pickF (by decide) rfl rfl) rfl ?_
  refine WL.nil ?_
  refine WX.regs (L' := [(1, _), (2, _), (7, _), (8, _), (30, _)]) (by repeat (first | exact RS.nil | refine RS.cons rfl ?_)) ?_
  refine WX.next ?_
  refine WC.cond rfl (fun h1 => ?_) (fun h1 => ?_)
  ·
    refine WC.seq ?_
    refine WC.region ?_
    refine wlx (op_call (f18_spec) ca18 (by decide) rfl (by apply Give.mk; (repeat (first | exact Takes.nil | exact Take.here | apply Takes.cons | apply Take.there)); repeat (first | exact Reads.nil | (apply Reads.rd; (focus (repeat (first | exact List.Mem.head _ | apply List.Mem.tail)); done)) | (apply Reads.own; (focus (repeat (first | exact List.Mem.head _ | apply List.Mem.tail)); done)) | (apply Reads.rx; (focus (repeat (first | exact List.Mem.head _ | apply List.Mem.tail)); done)) | (apply Reads.rows (e := false); (focus (repeat (first | exact List.Mem.head _ | apply List.Mem.tail)); done)) | (apply Reads.rows (e := true); (focus (repeat (first | exact List.Mem.head _ | apply List.Mem.tail)); done))))) rfl ?_
    rintro _ _
    refine wlv (op_assign (by decide) rfl) rfl ?_
    refine WL.nil ?_
    refine WX.regs (L' := [(6, _)]) (by repeat (first | exact RS.nil | refine RS.cons rfl ?_)) ?_
    refine WX.next ?_
    refine WC.ret ?_
    refine WX.then_ret ?_
    exact Fin.ret1 (by first | exact .inl rfl | exact .inr rfl) (_) (rfl) Try.results10 (.tmp rfl) (by repeat (first | exact Takes.nil | exact Take.here | apply Takes.cons | apply Take.there)) (by simp)
  ·
    obtain rfl : el = 0 := by omega
    obtain ⟨hf, hp, hls2⟩ := split_ok hl
    have hrl : rl.length = need (bs.take 2000).length := by rw [← sects_length k g n (bs.take 2000), ← hls2, List.length_map]
    have hnd := need_le hp
    refine WC.turn (c := rowsC true rl) (d := rowsC false rl) (by repeat (first | exact Take.here | apply Take.there)) (rowsC_read fun _ h => h) ?_
    refine WC.turn (c := own (.slice Al rl.length cl) 22 1 rl.length (rl.map Bs.v)) (d := rd (.slice Al rl.length cl) 1 rl.length (rl.map Bs.v)) (by repeat (first | exact Take.here | apply Take.there)) own_le_rd ?_
    refine WC.turn (c := own (.slice Ax (min m 2000) cx) 5 1 (min m 2000) (bvs (bs.take 2000))) (d := rd (.slice Ax (min m 2000) cx) 1 (min m 2000) (bvs (bs.take 2000))) (by repeat (first | exact Take.here | apply Take.there)) own_le_rd ?_
    refine WC.skip ?_
    refine WX.next ?_
    refine WC.seq ?_
    refine WC.region ?_
    refine wl1 (op_lit0 Try.underlying52 ti22 (by decide)) rfl fun b3 => ?_
    refine wlv (op_move (by decide) rfl) rfl ?_
    refine wl2 (op_append0 Try.underlying52 ti22 rfl (by decide) (by decide) rfl rfl (by repeat (first | exact Take.here | apply Take.there)) (by first | (apply Src.rd; (repeat (first | exact List.Mem.head _ | apply List.Mem.tail)); done) | (apply Src.own; (repeat (first | exact List.Mem.head _ | apply List.Mem.tail)); done) | (apply Src.rx; (repeat (first | exact List.Mem.head _ | apply List.Mem.tail)); done)) (rows_one _) (by omega) (by omega)) rfl fun A1 c1 => ?_
    refine wlv (op_move (by decide) rfl) rfl ?_
    refine wlx (op_call (f35_spec AB MB cB lb hMB hyb) ca35 (by decide) rfl (by apply Give.mk; (repeat (first | exact Takes.nil | exact Take.here | apply Takes.cons | apply Take.there)); repeat (first | exact Reads.nil | (apply Reads.rd; (focus (repeat (first | exact List.Mem.head _ | apply List.Mem.tail)); done)) | (apply Reads.own; (focus (repeat (first | exact List.Mem.head _ | apply List.Mem.tail)); done)) | (apply Reads.rx; (focus (repeat (first | exact List.Mem.head _ | apply List.Mem.tail)); done)) | (apply Reads.rows (e := false); (focus (repeat (first | exact List.Mem.head _ | apply List.Mem.tail)); done)) | (apply Reads.rows (e := true); (focus (repeat (first | exact List.Mem.head _ | apply List.Mem.tail)); done))))) rfl ?_
    rintro ⟨Ab, cb, rm⟩ ⟨hrm, _⟩
    dsimp only at hrm
    dsimp only
    refine wl2 (op_append Try.underlying52 ti22 rfl (by decide) (by decide) rfl rfl (by repeat (first | exact Take.here | apply Take.there)) (by first | (apply Src.rd; (repeat (first | exact List.Mem.head _ | apply List.Mem.tail)); done) | (apply Src.own; (repeat (first | exact List.Mem.head _ | apply List.Mem.tail)); done) | (apply Src.rx; (repeat (first | exact List.Mem.head _ | apply List.Mem.tail)); done)) (rows_one _) (by omega) (by omega)) rfl fun A2 c2 => ?_
    refine WL.ownEq (v := .slice A2 (rl.length + rm.length) c2) ((rl ++ rm).map Bs.v) (by repeat (first | exact Take.here | apply Take.there)) (by rw [List.map_append]) ?_
    refine WL.dup (c := rowsC false rl) (d := rowsC false rl) (by repeat (first | exact List.Mem.head _ | apply List.Mem.tail)) rfl rfl (Ch.Le.refl _) ?_
    refine WL.merge2 (c1 := rowsC false rl) (c2 := rowsC true rm) (d := rowsC false (rl ++ rm)) (by repeat (first | exact Take.here | apply Take.there)) (by repeat (first | exact Take.here | apply Take.there)) (rowsC_app (e1 := false) (e2 := true)) ?_
    refine wlx (op_call (f34_spec A2 (rl.length + rm.length) c2 (rl ++ rm) (by simp)) ca34 (by decide) rfl (by apply Give.mk; (repeat (first | exact Takes.nil | exact Take.here | apply Takes.cons | apply Take.there)); repeat (first | exact Reads.nil | (apply Reads.rd; (focus (repeat (first | exact List.Mem.head _ | apply List.Mem.tail)); done)) | (apply Reads.own; (focus (repeat (first | exact List.Mem.head _ | apply List.Mem.tail)); done)) | (apply Reads.rx; (focus (repeat (first | exact List.Mem.head _ | apply List.Mem.tail)); done)) | (apply Reads.rows (e := false); (focus (repeat (first | exact List.Mem.head _ | apply List.Mem.tail)); done)) | (apply Reads.rows (e := true); (focus (repeat (first | exact List.Mem.head _ | apply List.Mem.tail)); done))))) rfl ?_
    rintro ⟨Ao, co, qo, no, eo⟩ hjo
    dsimp only at hjo
    have hj2 : join ((rl ++ rm).map Bs.s) = ((⟨k, g, n, (bs.take 2000)⟩ : Rcd), ((need (bs.take 2000).length : Nat) : Int), (0 : Int)) := join_sects hf hp fun j hj => by rw [List.map_append, hls2, List.getElem?_append_left (by rw [sects_length]; exact hj), sects_at hj]
    rw [hj2] at hjo
    simp only [Prod.mk.injEq] at hjo
    obtain ⟨rfl, rfl, rfl⟩ := hjo
    dsimp only
    refine wlv (op_move (by decide) rfl) rfl ?_
    refine wlv (op_extract (by decide) rfl rfl) rfl ?_
    refine wlv (op_extract (by decide) rfl rfl) rfl ?_
    refine wlv (op_extract (by decide) rfl rfl) rfl ?_
    refine wl1 (op_alloc ti50 (by decide)) rfl fun b4 => ?_
    refine wl (op_storeAll sz50 rfl rfl (by repeat (first | exact Take.here | apply Take.there)) (by first | rfl | (simp [Value.cells]; done) | (simp [Value.cells]; omega)) (by first | rfl | exact wvs_one _ | exact bvs_one _) (by first | rfl | (simp [Value.cells]; done) | (simp [Value.cells]; omega))) rfl ?_
    change WL _ _ _ _ _ _ _
    refine wlv (op_assign (by decide) rfl) rfl ?_
    refine wlv (op_assign (by decide) rfl) rfl ?_
    refine WL.nil ?_
    refine WX.regs (L' := [(2, _), (7, _), (8, _), (10, _), (11, _), (12, _)]) (by repeat (first | exact RS.nil | refine RS.cons rfl ?_)) ?_
    refine WX.next ?_
    refine WC.seq ?_
    refine WC.region ?_
    refine wlv (op_move (by decide) rfl) rfl ?_
    refine wlv (op_conv8i (by kernel_rfl) Try.underlying3 (by decide) rfl) rfl ?_
    refine wlv (op_move (by decide) rfl) rfl ?_
    refine wlv (op_len Try.underlying52 (by decide) rfl) rfl ?_
    refine wlv (op_sub (by decide) rfl rfl (by omega)) rfl ?_
    rw [show ((rl.length : Nat) : Int) - 1 = ((rl.length - 1 : Nat) : Int) by omega]
    refine wlv (op_maxN (a := rl.length - 1) (b := 1) (by decide) rfl rfl) rfl ?_
    refine wlv (op_rem (by decide) rfl rfl (by omega) (by omega)) rfl ?_
    rw [show ((less.toNat : Nat) : Int) % ((max (rl.length - 1) 1 : Nat) : Int) = ((less.toNat % max (rl.length - 1) 1 : Nat) : Int) from (Int.natCast_emod ..).symm]
    obtain ⟨z, hz⟩ : ∃ z : Nat, z = less.toNat % max (rl.length - 1) 1 := ⟨_, rfl⟩
    have hz2 : z < max (rl.length - 1) 1 := by rw [hz]; exact Nat.mod_lt _ (by omega)
    rw [← hz]
    refine wlv (op_add (by decide) rfl rfl (by omega)) rfl ?_
    refine wlv (op_assign (by decide) rfl) rfl ?_
    refine WL.nil ?_
    refine WX.regs (L' := [(7, _), (8, _), (10, _), (11, _), (12, _), (13, _)]) (by repeat (first | exact RS.nil | refine RS.cons rfl ?_)) ?_
    refine WX.next ?_
    refine WC.seq ?_
    refine WC.region ?_
    rw [show (1 : Int) + ((z : Nat) : Int) = ((1 + z : Nat) : Int) by omega]
    refine WL.capx (A := Al) (m := rl.length) (c := cl) (Src.rd (xs := rl.map Bs.v) (by repeat (first | exact List.Mem.head _ | apply List.Mem.tail))) (fun hcap => ?_)
    refine WL.dup (c := rd (.slice Al rl.length cl) 1 rl.length (rl.map Bs.v)) (d := rd (sliced Al 0 (min (1 + z) rl.length) cl 1) 1 ((min (1 + z) rl.length) - 0) ((rl.take (min (1 + z) rl.length)).map Bs.v)) (by repeat (first | exact List.Mem.head _ | apply List.Mem.tail)) (by simp) (by simp) (rd_takeR (by omega)) ?_
    refine WL.dup (c := rowsC false rl) (d := rowsC false (rl.take (min (1 + z) rl.length))) (by repeat (first | exact List.Mem.head _ | apply List.Mem.tail)) rfl rfl rowsC_take ?_
    refine wlv (op_move (by decide) rfl) rfl ?_
    refine wlv (op_move (by decide) rfl) rfl ?_
    refine wlv (op_move (by decide) rfl) rfl ?_
    refine wlv (op_len Try.underlying52 (by decide) rfl) rfl ?_
    refine wlv (op_minN (a := 1 + z) (b := rl.length) (by decide) rfl rfl) rfl ?_
    refine wlv (op_slice_h Try.underlying52 sz22 (by decide) rfl rfl (by omega) (by omega)) rfl ?_
    refine wlx (op_call (f34_spec _ ((min (1 + z) rl.length) - 0) _ (rl.take (min (1 + z) rl.length)) (by simp)) ca34 (by decide) rfl (by apply Give.mk; (repeat (first | exact Takes.nil | exact Take.here | apply Takes.cons | apply Take.there)); repeat (first | exact Reads.nil | (apply Reads.rd; (focus (repeat (first | exact List.Mem.head _ | apply List.Mem.tail)); done)) | (apply Reads.own; (focus (repeat (first | exact List.Mem.head _ | apply List.Mem.tail)); done)) | (apply Reads.rx; (focus (repeat (first | exact List.Mem.head _ | apply List.Mem.tail)); done)) | (apply Reads.rows (e := false); (focus (repeat (first | exact List.Mem.head _ | apply List.Mem.tail)); done)) | (apply Reads.rows (e := true); (focus (repeat (first | exact List.Mem.head _ | apply List.Mem.tail)); done))))) rfl ?_
    rintro ⟨Ag, cg, qg, ng, eg⟩ hjg
    dsimp only at hjg
    dsimp only
    refine wlv (op_move (by decide) rfl) rfl ?_
    refine wlv (op_extract (by decide) rfl rfl) rfl ?_
    refine wlv (op_extract (by decide) rfl rfl) rfl ?_
    refine wlv (op_extract (by decide) rfl rfl) rfl ?_
    refine wl1 (op_alloc ti50 (by decide)) rfl fun b5 => ?_
    refine wl (op_storeAll sz50 rfl rfl (by repeat (first | exact Take.here | apply Take.there)) (by first | rfl | (simp [Value.cells]; done) | (simp [Value.cells]; omega)) (by first | rfl | exact wvs_one _ | exact bvs_one _) (by first | rfl | (simp [Value.cells]; done) | (simp [Value.cells]; omega))) rfl ?_
    change WL _ _ _ _ _ _ _
    refine wlv (op_assign (by decide) rfl) rfl ?_
    refine wlv (op_assign (by decide) rfl) rfl ?_
    refine WL.nil ?_
    refine WX.regs (L' := [(7, _), (8, _), (10, _), (11, _), (12, _), (13, _), (16, _)]) (by repeat (first | exact RS.nil | refine RS.cons rfl ?_)) ?_
    refine WX.next ?_
    refine WC.seq ?_
    refine WC.drawnH mo 999 ?_
    refine WA.take (i := 0) rfl (by kernel_rfl) (fun _ _ _ h => h) rfl (op_move (by decide) rfl) (by repeat (first | exact Takes.nil | exact Take.here | apply Takes.cons | apply Take.there)) ?_
    refine WA.take (i := 1) rfl (by kernel_rfl) (fun _ _ _ h => h) rfl (op_eql (by decide) rfl rfl) (by repeat (first | exact Takes.nil | exact Take.here | apply Takes.cons | apply Take.there)) ?_
    refine WA.take (i := 2) rfl (by kernel_rfl) (fun _ _ _ h => h) rfl (op_move (by decide) rfl) (by repeat (first | exact Takes.nil | exact Take.here | apply Takes.cons | apply Take.there)) ?_
    refine WA.split (t := 64) rfl (fun g64 => ?_) (fun g64 => ?_)
    ·
      refine WA.takeG (i := 3) rfl (by kernel_rfl) (fun _ _ _ h => h) rfl rfl rfl (op_move (by decide) rfl) (by repeat (first | exact Takes.nil | exact Take.here | apply Takes.cons | apply Take.there)) ?_
      refine WA.takeG (i := 4) rfl (by kernel_rfl) (fun _ _ _ h => h) rfl rfl rfl (op_move (by decide) rfl) (by repeat (first | exact Takes.nil | exact Take.here | apply Takes.cons | apply Take.there)) ?_
      refine WA.takeG (i := 5) rfl (by kernel_rfl) (fun _ _ _ h => h) rfl rfl rfl (op_len Try.underlying52 (by decide) rfl) (by repeat (first | exact Takes.nil | exact Take.here | apply Takes.cons | apply Take.there)) ?_
      refine WA.takeG (i := 6) rfl (by kernel_rfl) (fun _ _ _ h => h) rfl rfl rfl (op_eql (by decide) rfl rfl) (by repeat (first | exact Takes.nil | exact Take.here | apply Takes.cons | apply Take.there)) ?_
      refine WA.take (i := 7) rfl (by kernel_rfl) (fun _ _ _ h => h) rfl (op_pickT (by decide) rfl rfl) (by repeat (first | exact Takes.nil | exact Take.here | apply Takes.cons | apply Take.there)) ?_
      refine WA.take (i := 8) rfl (by kernel_rfl) (fun _ _ _ h => h) rfl (op_move (by decide) rfl) (by repeat (first | exact Takes.nil | exact Take.here | apply Takes.cons | apply Take.there)) ?_
      refine WA.split (t := 70) rfl (fun g70 => ?_) (fun g70 => ?_)
      ·
        refine WA.takeG (i := 9) rfl (by kernel_rfl) (fun _ _ _ h => h) rfl rfl rfl (op_loadAll ag50 (by decide) rfl (by repeat (first | exact List.Mem.head _ | apply List.Mem.tail)) (by first | rfl | (simp [Value.cells]; done) | (simp [Value.cells]; omega))) (by repeat (first | exact Takes.nil | exact Take.here | apply Takes.cons | apply Take.there)) ?_
        refine WA.takeG (i := 11) rfl (by kernel_rfl) (fun _ _ _ h => h) rfl rfl rfl (op_loadAll ag50 (by decide) rfl (by repeat (first | exact List.Mem.head _ | apply List.Mem.tail)) (by first | rfl | (simp [Value.cells]; done) | (simp [Value.cells]; omega))) (by repeat (first | exact Takes.nil | exact Take.here | apply Takes.cons | apply Take.there)) ?_
        refine WA.stepGx (i := 10) (by kernel_rfl) rfl rfl rfl rfl (op_call (f30_spec k g n Ao (bs.take 2000).length co) ca30 (by decide) rfl (by apply Give.mk; (repeat (first | exact Takes.nil | exact Take.here | apply Takes.cons | apply Take.there)); repeat (first | exact Reads.nil | (apply Reads.rd; (focus (repeat (first | exact List.Mem.head _ | apply List.Mem.tail)); done)) | (apply Reads.own; (focus (repeat (first | exact List.Mem.head _ | apply List.Mem.tail)); done)) | (apply Reads.rx; (focus (repeat (first | exact List.Mem.head _ | apply List.Mem.tail)); done)) | (apply Reads.rows (e := false); (focus (repeat (first | exact List.Mem.head _ | apply List.Mem.tail)); done)) | (apply Reads.rows (e := true); (focus (repeat (first | exact List.Mem.head _ | apply List.Mem.tail)); done))))) (fun _ r => (by repeat (first | exact Takes.nil | exact Take.here | apply Takes.cons | apply Take.there))) ?_
        rintro _ _
        refine WA.stepGx (i := 12) (by kernel_rfl) rfl rfl rfl rfl (op_call (f30_spec k g n Ax (min m 2000) cx) ca30 (by decide) rfl (by apply Give.mk; (repeat (first | exact Takes.nil | exact Take.here | apply Takes.cons | apply Take.there)); repeat (first | exact Reads.nil | (apply Reads.rd; (focus (repeat (first | exact List.Mem.head _ | apply List.Mem.tail)); done)) | (apply Reads.own; (focus (repeat (first | exact List.Mem.head _ | apply List.Mem.tail)); done)) | (apply Reads.rx; (focus (repeat (first | exact List.Mem.head _ | apply List.Mem.tail)); done)) | (apply Reads.rows (e := false); (focus (repeat (first | exact List.Mem.head _ | apply List.Mem.tail)); done)) | (apply Reads.rows (e := true); (focus (repeat (first | exact List.Mem.head _ | apply List.Mem.tail)); done))))) (fun _ r => (by repeat (first | exact Takes.nil | exact Take.here | apply Takes.cons | apply Take.there))) ?_
        rintro _ _
        refine WA.stepGx (i := 13) (by kernel_rfl) rfl rfl rfl rfl (op_call (f37_spec k g n k g n Ao Ax (bs.take 2000).length co (min m 2000) cx (bs.take 2000) (bs.take 2000)) ca37 (by decide) rfl (by apply Give.mk; (repeat (first | exact Takes.nil | exact Take.here | apply Takes.cons | apply Take.there)); repeat (first | exact Reads.nil | (apply Reads.rd; (focus (repeat (first | exact List.Mem.head _ | apply List.Mem.tail)); done)) | (apply Reads.own; (focus (repeat (first | exact List.Mem.head _ | apply List.Mem.tail)); done)) | (apply Reads.rx; (focus (repeat (first | exact List.Mem.head _ | apply List.Mem.tail)); done)) | (apply Reads.rows (e := false); (focus (repeat (first | exact List.Mem.head _ | apply List.Mem.tail)); done)) | (apply Reads.rows (e := true); (focus (repeat (first | exact List.Mem.head _ | apply List.Mem.tail)); done))))) (fun _ r => (by repeat (first | exact Takes.nil | exact Take.here | apply Takes.cons | apply Take.there))) ?_
        rintro _ rfl
        refine WA.take (i := 14) rfl (by kernel_rfl) (fun _ _ _ h => h) rfl (op_pickT (by decide) rfl rfl) (by repeat (first | exact Takes.nil | exact Take.here | apply Takes.cons | apply Take.there)) ?_
        refine WA.take (i := 15) rfl (by kernel_rfl) (fun _ _ _ h => h) rfl (op_move (by decide) rfl) (by repeat (first | exact Takes.nil | exact Take.here | apply Takes.cons | apply Take.there)) ?_
        refine WA.split (t := 77) rfl (fun g77 => ?_) (fun g77 => ?_)
        ·
          refine WA.takeG (i := 16) rfl (by kernel_rfl) (fun _ _ _ h => h) rfl rfl rfl (op_move (by decide) rfl) (by repeat (first | exact Takes.nil | exact Take.here | apply Takes.cons | apply Take.there)) ?_
          refine WA.takeG (i := 17) rfl (by kernel_rfl) (fun _ _ _ h => h) rfl rfl rfl (op_move (by decide) rfl) (by repeat (first | exact Takes.nil | exact Take.here | apply Takes.cons | apply Take.there)) ?_
          refine WA.takeG (i := 18) rfl (by kernel_rfl) (fun _ _ _ h => h) rfl rfl rfl (op_len Try.underlying52 (by decide) rfl) (by repeat (first | exact Takes.nil | exact Take.here | apply Takes.cons | apply Take.there)) ?_
          refine WA.takeG (i := 19) rfl (by kernel_rfl) (fun _ _ _ h => h) rfl rfl rfl (op_geq (by decide) rfl rfl) (by repeat (first | exact Takes.nil | exact Take.here | apply Takes.cons | apply Take.there)) ?_
          refine WA.takeG (i := 20) rfl (by kernel_rfl) (fun _ _ _ h => h) rfl rfl rfl (op_move (by decide) rfl) (by repeat (first | exact Takes.nil | exact Take.here | apply Takes.cons | apply Take.there)) ?_
          refine WA.split (t := 82) rfl (fun g82 => ?_) (fun g82 => ?_)
          ·
            refine WA.skipG (i := 21) rfl (by kernel_rfl) (fun _ _ _ h => h) rfl rfl rfl (by first | exact .inl rfl | exact .inr rfl) rfl (by decide) (by repeat (first | exact Takes.nil | exact Take.here | apply Takes.cons | apply Take.there)) ?_
            refine WA.skipG (i := 22) rfl (by kernel_rfl) (fun _ _ _ h => h) rfl rfl rfl (by first | exact .inl rfl | exact .inr rfl) rfl (by decide) (by repeat (first | exact Takes.nil | exact Take.here | apply Takes.cons | apply Take.there)) ?_
            refine WA.takeG (i := 23) rfl (by kernel_rfl) (fun _ _ _ h => h) rfl rfl rfl (op_pickT (by decide) rfl rfl) (by repeat (first | exact Takes.nil | exact Take.here | apply Takes.cons | apply Take.there)) ?_
            refine WA.take (i := 24) rfl (by kernel_rfl) (fun _ _ _ h => h) rfl (op_pickT (by decide) rfl rfl) (by repeat (first | exact Takes.nil | exact Take.here | apply Takes.cons | apply Take.there)) ?_
            refine WA.take (i := 25) rfl (by kernel_rfl) (fun _ _ _ h => h) rfl (op_assign (by decide) rfl) (by repeat (first | exact Takes.nil | exact Take.here | apply Takes.cons | apply Take.there)) ?_
            refine WA.done (by kernel_rfl) ?_
            refine WX.regs (L' := [(6, _)]) (by repeat (first | exact RS.nil | refine RS.cons rfl ?_)) ?_
            refine WX.next ?_
            refine WC.ret ?_
            exact Fin.ret1 (by first | exact .inl rfl | exact .inr rfl) (_) (by first | rfl | (refine decide_eq_true ?_; have h3 := hjg.trans (join_cut hf hp (m := 1 + z) (by omega) (by omega) (by simp only [List.length_map, List.length_take]; omega) (fun j hj => by rw [List.map_take, hls2, List.getElem?_take_of_lt (by omega), sects_at (by omega)])); exact (Prod.mk.inj (Prod.mk.inj h3).2).2)) Try.results10 (.tmp rfl) (by repeat (first | exact Takes.nil | exact Take.here | apply Takes.cons | apply Take.there)) (by simp)
          ·
            refine WA.takeG (i := 21) rfl (by kernel_rfl) (fun _ _ _ h => h) rfl rfl rfl (op_move (by decide) rfl) (by repeat (first | exact Takes.nil | exact Take.here | apply Takes.cons | apply Take.there)) ?_
            refine WA.takeG (i := 22) rfl (by kernel_rfl) (fun _ _ _ h => h) rfl rfl rfl (op_eql (by decide) rfl rfl) (by repeat (first | exact Takes.nil | exact Take.here | apply Takes.cons | apply Take.there)) ?_
            refine WA.takeG (i := 23) rfl (by kernel_rfl) (fun _ _ _ h => h) rfl rfl rfl (op_pickF (by decide) rfl rfl) (by repeat (first | exact Takes.nil | exact Take.here | apply Takes.cons | apply Take.there)) ?_
            refine WA.take (i := 24) rfl (by kernel_rfl) (fun _ _ _ h => h) rfl (op_pickT (by decide) rfl rfl) (by repeat (first | exact Takes.nil | exact Take.here | apply Takes.cons | apply Take.there)) ?_
            refine WA.take (i := 25) rfl (by kernel_rfl) (fun _ _ _ h => h) rfl (op_assign (by decide) rfl) (by repeat (first | exact Takes.nil | exact Take.here | apply Takes.cons | apply Take.there)) ?_
            refine WA.done (by kernel_rfl) ?_
            refine WX.regs (L' := [(6, _)]) (by repeat (first | exact RS.nil | refine RS.cons rfl ?_)) ?_
            refine WX.next ?_
            refine WC.ret ?_
            exact Fin.ret1 (by first | exact .inl rfl | exact .inr rfl) (_) (by first | rfl | (refine decide_eq_true ?_; have h3 := hjg.trans (join_cut hf hp (m := 1 + z) (by omega) (by omega) (by simp only [List.length_map, List.length_take]; omega) (fun j hj => by rw [List.map_take, hls2, List.getElem?_take_of_lt (by omega), sects_at (by omega)])); exact (Prod.mk.inj (Prod.mk.inj h3).2).2)) Try.results10 (.tmp rfl) (by repeat (first | exact Takes.nil | exact Take.here | apply Takes.cons | apply Take.there)) (by simp)
        ·
          exact absurd ⟨rfl, rfl, rfl, rfl⟩ g77
      ·
        omega
    ·
      exact absurd rfl g64
end Go.Proofs.Ythephcghglldaaa.Sx
