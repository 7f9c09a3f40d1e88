import Derived.Test.YthephcghglldaaaS21
set_option linter.unusedVariables false
set_option linter.unusedSimpArgs false
namespace Go.Proofs.Ythephcghglldaaa.Sx
open Go.RowKit Go.Proofs.Ythephcghglldaaa.Ty
attribute [local irreducible] blk own rd rx frameC

theorem tamper {a b : List UInt8} (ha : a.length = 256) (hb : b.length = 256) (hs : (sha (a.drop 16)).take 16 = a.take 16) (hne : ¬ b = a) (h : b.take 16 = a.take 16 ∨ b.drop 16 = a.drop 16) :
    (dec b).2 = 22 ∨ (¬ a.drop 16 = b.drop 16 ∧ (sha (a.drop 16)).take 16 = (sha (b.drop 16)).take 16) := by
  by_cases hb2 : (sha (b.drop 16)).take 16 = b.take 16
  · right
    rcases h with h | h
    · refine ⟨fun k => hne ?_, by rw [hs, hb2, h]⟩
      rw [← List.take_append_drop 16 b, h, ← k, List.take_append_drop]
    · exfalso
      apply hne
      rw [← List.take_append_drop 16 b, ← hb2, h, hs, List.take_append_drop]
  · left
    rw [dec_sum hb hb2]
theorem enc_sum (k g n i c : Nat) (bs : List UInt8) : (sha ((enc k g n i c bs).drop 16)).take 16 = (enc k g n i c bs).take 16 := by
  unfold enc
  have h0 := sealB_drop (hdr k g n i c bs.length ++ bs) 0
  rw [Nat.add_zero, List.drop_zero] at h0
  rw [sealB_take, h0]
theorem set_part (a : List UInt8) (j : Nat) (x : UInt8) : (a.set j x).take 16 = a.take 16 ∨ (a.set j x).drop 16 = a.drop 16 := by
  by_cases h : j < 16
  · right; rw [List.drop_set_of_lt h]
  · left; rw [List.take_set_of_le (by omega)]
theorem xor_ne {x y : UInt8} (h : ¬ y = 0) : ¬ x ^^^ y = x := by
  intro k
  apply h
  have := congrArg (fun z => x ^^^ z) k
  simpa [← UInt8.xor_assoc] using this
theorem set_ne {a : List UInt8} {j : Nat} {y : UInt8} (hj : j < a.length) (h : ¬ y = 0) : ¬ a.set j (a.getD j 0 ^^^ y) = a := by
  intro k
  have := congrArg (fun l => l.getD j 0) k
  simp only [List.getD_eq_getElem?_getD, List.getElem?_set, hj, if_true] at this
  exact xor_ne h (by simpa [List.getD_eq_getElem?_getD] using this)
set_option maxHeartbeats 400000 in
set_option maxRecDepth 10000 in
theorem f5_spec (k g n i c : Int) (A : Option Addr) (m e : Nat) (bs : List UInt8) (hm : bs.length = m) (at_ by_ : UInt8) :
    Spec Try.prog 5 [.agg (pcells k g n i c (.slice A m e)).toArray, bv at_, bv by_] [] [rd (.slice A m e) 1 m (bvs bs)] (R := Bool) (fun b => b = true) (fun b => .bool b) (fun _ => []) := by
  have hat : at_.toNat < 256 := at_.toNat_lt
  refine Spec.intro Try.func5 Try.ntmps5 rfl (by simp) (by simp) fun w0 => ?_
  refine WC.seq ?_
  refine WC.region ?_
  refine wl1 (op_box (by decide) rfl rfl) rfl fun b1 => ?_
  refine wlv (op_assign (by decide) rfl) rfl ?_
  refine WL.nil ?_
  refine WX.regs (L' := [(1, _), (2, _), (3, _)]) (by repeat (first | exact RS.nil | refine RS.cons rfl ?_)) ?_
  refine WX.next ?_
  refine WC.seq ?_
  refine WC.region ?_
  refine WL.capx (by first | (apply Src.rd; (repeat (first | exact List.Mem.head _ | apply List.Mem.tail)); done) | (apply Src.own; (repeat (first | exact List.Mem.head _ | apply List.Mem.tail)); done) | (apply Src.rx; (repeat (first | exact List.Mem.head _ | apply List.Mem.tail)); done)) (fun hcap => ?_)
  refine WL.dupr (v := .slice A m e) (sz := 1) (m := m) (xs := bvs bs) (by repeat (first | exact List.Mem.head _ | apply List.Mem.tail)) (rd_subB (l := 0) (h := min m 224) (Nat.zero_le _) (Nat.min_le_left _ _)) ?_
  refine wlv (op_fieldAddr fo24_5 (by decide) rfl) rfl ?_
  refine wlv (op_load1 fl22 (by decide) rfl (by repeat (first | exact List.Mem.head _ | apply List.Mem.tail)) rfl) rfl ?_
  refine wlv (op_fieldAddr fo24_5 (by decide) rfl) rfl ?_
  refine wlv (op_load1 fl22 (by decide) rfl (by repeat (first | exact List.Mem.head _ | apply List.Mem.tail)) rfl) rfl ?_
  refine wlv (op_len Try.underlying22 (by decide) rfl) rfl ?_
  refine wlv (op_minN (a := m) (b := 224) (by decide) rfl rfl) rfl ?_
  refine wlv (op_slice_h Try.underlying22 sz5 (by decide) rfl rfl (by omega) (by omega)) rfl ?_
  refine wlv (op_fieldAddr fo24_5 (by decide) rfl) rfl ?_
  refine wl (op_store sz22 rfl rfl (by repeat (first | exact Take.here | apply Take.there)) (by first | rfl | (simp [Value.cells]; done) | (simp [Value.cells]; omega)) (by first | rfl | exact wvs_one _ | exact bvs_one _) (by first | exact Nat.le_of_ble_eq_true rfl | (simp; omega))) rfl ?_
  change WL _ _ _ _ _ _ _
  refine WL.nil ?_
  refine WX.blkEq (b := b1) (pcells k g n i c (sliced A 0 (min m 224) e 1)) (by repeat (first | exact Take.here | apply Take.there)) (by rfl) ?_
  refine WX.regs (L' := [(1, _), (2, _), (3, _)]) (by repeat (first | exact RS.nil | refine RS.cons rfl ?_)) ?_
  refine WX.next ?_
  refine WC.seq ?_
  refine WC.seq ?_
  refine WC.region ?_
  refine wlx (op_call (f18_spec) ca18 (by decide) rfl (by apply Give.mk; (repeat (first | exact Takes.nil | exact Take.here | apply Takes.cons | apply Take.there)); repeat (first | exact Reads.nil | (apply Reads.rd; (focus (repeat (first | exact List.Mem.head _ | apply List.Mem.tail)); done)) | (apply Reads.own; (focus (repeat (first | exact List.Mem.head _ | apply List.Mem.tail)); done)) | (apply Reads.rx; (focus (repeat (first | exact List.Mem.head _ | apply List.Mem.tail)); done)) | (apply Reads.rows (e := false); (focus (repeat (first | exact List.Mem.head _ | apply List.Mem.tail)); done)) | (apply Reads.rows (e := true); (focus (repeat (first | exact List.Mem.head _ | apply List.Mem.tail)); done))))) rfl ?_
  rintro _ _
  refine wlv (op_not (by decide) rfl) rfl ?_
  refine wlv (op_move (by decide) rfl) rfl ?_
  refine wlgv (op_loadAll ag24 (by decide) rfl (by repeat (first | exact List.Mem.head _ | apply List.Mem.tail)) (by first | rfl | (simp [Value.cells]; done) | (simp [Value.cells]; omega))) rfl rfl rfl ?_
  refine wlgx (op_call (f20_spec _ _ _ _ _ _ (min m 224 - 0) _) ca20 (by decide) rfl (by apply Give.mk; (repeat (first | exact Takes.nil | exact Take.here | apply Takes.cons | apply Take.there)); repeat (first | exact Reads.nil | (apply Reads.rd; (focus (repeat (first | exact List.Mem.head _ | apply List.Mem.tail)); done)) | (apply Reads.own; (focus (repeat (first | exact List.Mem.head _ | apply List.Mem.tail)); done)) | (apply Reads.rx; (focus (repeat (first | exact List.Mem.head _ | apply List.Mem.tail)); done)) | (apply Reads.rows (e := false); (focus (repeat (first | exact List.Mem.head _ | apply List.Mem.tail)); done)) | (apply Reads.rows (e := true); (focus (repeat (first | exact List.Mem.head _ | apply List.Mem.tail)); done))))) rfl rfl rfl ?_
  rintro _ rfl
  refine wlgv (op_neq (by decide) rfl rfl) rfl rfl rfl ?_
  refine wlv (op_pickF (by decide) rfl rfl) rfl ?_
  refine wlv (op_move (by decide) rfl) rfl ?_
  refine WL.split (t := 26) rfl (fun g26 => ?_) (fun g26 => ?_)
  ·
    refine wlg_no rfl rfl rfl rfl rfl (by decide) ?_
    refine wlg_no rfl rfl rfl rfl rfl (by decide) ?_
    refine wlv (op_pickT (by decide) rfl rfl) rfl ?_
    refine WL.nil ?_
    refine WX.regs (L' := [(1, _), (2, _), (3, _), (29, _)]) (by repeat (first | exact RS.nil | refine RS.cons rfl ?_)) ?_
    refine WX.next ?_
    refine WC.condT rfl ?_
    refine WC.seq ?_
    refine WC.region ?_
    refine wlx (op_call (f18_spec) ca18 (by decide) rfl (by apply Give.mk; (repeat (first | exact Takes.nil | exact Take.here | apply Takes.cons | apply Take.there)); repeat (first | exact Reads.nil | (apply Reads.rd; (focus (repeat (first | exact List.Mem.head _ | apply List.Mem.tail)); done)) | (apply Reads.own; (focus (repeat (first | exact List.Mem.head _ | apply List.Mem.tail)); done)) | (apply Reads.rx; (focus (repeat (first | exact List.Mem.head _ | apply List.Mem.tail)); done)) | (apply Reads.rows (e := false); (focus (repeat (first | exact List.Mem.head _ | apply List.Mem.tail)); done)) | (apply Reads.rows (e := true); (focus (repeat (first | exact List.Mem.head _ | apply List.Mem.tail)); done))))) rfl ?_
    rintro _ _
    refine wlv (op_assign (by decide) rfl) rfl ?_
    refine WL.nil ?_
    refine WX.regs (L' := [(6, _)]) (by repeat (first | exact RS.nil | refine RS.cons rfl ?_)) ?_
    refine WX.next ?_
    refine WC.ret ?_
    refine WX.then_ret ?_
    exact Fin.ret1 (by first | exact .inl rfl | exact .inr rfl) (_) (rfl) Try.results5 (.tmp rfl) (by repeat (first | exact Takes.nil | exact Take.here | apply Takes.cons | apply Take.there)) (by simp)
  ·
    refine wlgv (op_move (by decide) rfl) rfl rfl rfl ?_
    refine wlgv (op_eql8 (b := 0) (by decide) rfl rfl) rfl rfl rfl ?_
    refine wlv (op_pickF (by decide) rfl rfl) rfl ?_
    refine WL.nil ?_
    refine WX.regs (L' := [(1, _), (2, _), (3, _), (29, _)]) (by repeat (first | exact RS.nil | refine RS.cons rfl ?_)) ?_
    refine WX.next ?_
    refine WC.cond rfl (fun h1 => ?_) (fun h1 => ?_)
    ·
      refine WC.seq ?_
      refine WC.region ?_
      refine wlx (op_call (f18_spec) ca18 (by decide) rfl (by apply Give.mk; (repeat (first | exact Takes.nil | exact Take.here | apply Takes.cons | apply Take.there)); repeat (first | exact Reads.nil | (apply Reads.rd; (focus (repeat (first | exact List.Mem.head _ | apply List.Mem.tail)); done)) | (apply Reads.own; (focus (repeat (first | exact List.Mem.head _ | apply List.Mem.tail)); done)) | (apply Reads.rx; (focus (repeat (first | exact List.Mem.head _ | apply List.Mem.tail)); done)) | (apply Reads.rows (e := false); (focus (repeat (first | exact List.Mem.head _ | apply List.Mem.tail)); done)) | (apply Reads.rows (e := true); (focus (repeat (first | exact List.Mem.head _ | apply List.Mem.tail)); done))))) rfl ?_
      rintro _ _
      refine wlv (op_assign (by decide) rfl) rfl ?_
      refine WL.nil ?_
      refine WX.regs (L' := [(6, _)]) (by repeat (first | exact RS.nil | refine RS.cons rfl ?_)) ?_
      refine WX.next ?_
      refine WC.ret ?_
      refine WX.then_ret ?_
      exact Fin.ret1 (by first | exact .inl rfl | exact .inr rfl) (_) (rfl) Try.results5 (.tmp rfl) (by repeat (first | exact Takes.nil | exact Take.here | apply Takes.cons | apply Take.there)) (by simp)
    ·
      refine WC.skip ?_
      refine WX.next ?_
      refine WC.seq ?_
      refine WC.region ?_
      have hch := Decidable.not_not.1 g26
      obtain ⟨hf, hc1, hc2, hi1, hi2, hb⟩ := chk_ok hch
      simp only [fineP] at hf
      have ek : ((k.toNat : Nat) : Int) = k := Int.toNat_of_nonneg (by omega)
      have eg : ((g.toNat : Nat) : Int) = g := Int.toNat_of_nonneg (by omega)
      have en : ((n.toNat : Nat) : Int) = n := Int.toNat_of_nonneg (by omega)
      have ei : ((i.toNat : Nat) : Int) = i := Int.toNat_of_nonneg (by omega)
      have ec : ((c.toNat : Nat) : Int) = c := Int.toNat_of_nonneg (by omega)
      refine wlv (op_loadAll ag24 (by decide) rfl (by repeat (first | exact List.Mem.head _ | apply List.Mem.tail)) (by first | rfl | (simp [Value.cells]; done) | (simp [Value.cells]; omega))) rfl ?_
      rw [show ((pcells k g n i c (sliced A 0 (min m 224) e 1)) : List Value) = pcells (k.toNat : Nat) (g.toNat : Nat) (n.toNat : Nat) (i.toNat : Nat) (c.toNat : Nat) (sliced A 0 (min m 224) e 1) by rw [ek, eg, en, ei, ec]]
      refine wlx (op_call (f22_spec k.toNat g.toNat n.toNat i.toNat c.toNat _ (min m 224 - 0) _ ((bs.drop 0).take (min m 224 - 0)) (by simp only [List.length_take, List.length_drop]; omega) (by omega) (by omega) (by omega) (by omega) (by omega) (by omega)) ca22 (by decide) rfl (by apply Give.mk; (repeat (first | exact Takes.nil | exact Take.here | apply Takes.cons | apply Take.there)); repeat (first | exact Reads.nil | (apply Reads.rd; (focus (repeat (first | exact List.Mem.head _ | apply List.Mem.tail)); done)) | (apply Reads.own; (focus (repeat (first | exact List.Mem.head _ | apply List.Mem.tail)); done)) | (apply Reads.rx; (focus (repeat (first | exact List.Mem.head _ | apply List.Mem.tail)); done)) | (apply Reads.rows (e := false); (focus (repeat (first | exact List.Mem.head _ | apply List.Mem.tail)); done)) | (apply Reads.rows (e := true); (focus (repeat (first | exact List.Mem.head _ | apply List.Mem.tail)); done))))) rfl ?_
      rintro ⟨Ae, ce⟩ _
      refine wlv (op_assign (by decide) rfl) rfl ?_
      refine WL.nil ?_
      refine WX.regs (L' := [(1, _), (2, _), (7, _)]) (by repeat (first | exact RS.nil | refine RS.cons rfl ?_)) ?_
      refine WX.next ?_
      refine WC.seq ?_
      refine WC.region ?_
      refine wl1 (op_lit0 Try.underlying22 ti5 (by decide)) rfl fun b2 => ?_
      refine wlv (op_move (by decide) rfl) rfl ?_
      refine wl2 (op_append0 Try.underlying22 ti5 rfl (by decide) (by decide) rfl rfl (by repeat (first | exact Take.here | apply Take.there)) (by first | (apply Src.rd; (repeat (first | exact List.Mem.head _ | apply List.Mem.tail)); done) | (apply Src.own; (repeat (first | exact List.Mem.head _ | apply List.Mem.tail)); done) | (apply Src.rx; (repeat (first | exact List.Mem.head _ | apply List.Mem.tail)); done)) (by first | rfl | exact wvs_one _ | exact bvs_one _) (by omega) (by omega)) rfl fun A1 c1 => ?_
      refine wlv (op_assign (by decide) rfl) rfl ?_
      refine WL.nil ?_
      refine WX.regs (L' := [(1, _), (2, _), (7, _), (8, _)]) (by repeat (first | exact RS.nil | refine RS.cons rfl ?_)) ?_
      refine WX.next ?_
      refine WC.seq ?_
      refine WC.region ?_
      refine wlv (op_move (by decide) rfl) rfl ?_
      refine wlv (op_move (by decide) rfl) rfl ?_
      refine wlv (op_index Try.underlying22 sz5 (by decide) rfl rfl (by omega) (by omega) (by decide) (by first | (apply Src.rd; (repeat (first | exact List.Mem.head _ | apply List.Mem.tail)); done) | (apply Src.own; (repeat (first | exact List.Mem.head _ | apply List.Mem.tail)); done) | (apply Src.rx; (repeat (first | exact List.Mem.head _ | apply List.Mem.tail)); done))) rfl ?_
      refine wlv (op_loadS fl5 (by decide) rfl (by first | (apply Src.rd; (repeat (first | exact List.Mem.head _ | apply List.Mem.tail)); done) | (apply Src.own; (repeat (first | exact List.Mem.head _ | apply List.Mem.tail)); done) | (apply Src.rx; (repeat (first | exact List.Mem.head _ | apply List.Mem.tail)); done)) (bvs_at (k := at_.toNat) (by omega) (by rw [enc_length]; exact hat))) rfl ?_
      refine wlv (op_move (by decide) rfl) rfl ?_
      refine wlv (op_xor8 (by decide) rfl rfl) rfl ?_
      refine wlv (op_index Try.underlying22 sz5 (by decide) rfl rfl (by omega) (by omega) (by decide) (by first | (apply Src.rd; (repeat (first | exact List.Mem.head _ | apply List.Mem.tail)); done) | (apply Src.own; (repeat (first | exact List.Mem.head _ | apply List.Mem.tail)); done) | (apply Src.rx; (repeat (first | exact List.Mem.head _ | apply List.Mem.tail)); done))) rfl ?_
      refine wl (op_storeS sz5 rfl rfl (by repeat (first | exact Take.here | apply Take.there)) rfl rfl (by simp [enc_length]; omega) (by decide)) rfl ?_
      change WL _ _ _ _ _ _ _
      refine WL.nil ?_
      refine WX.ownEq (v := .slice A1 256 c1) (bvs ((enc k.toNat g.toNat n.toNat i.toNat c.toNat ((bs.drop 0).take (min m 224 - 0))).set at_.toNat ((enc k.toNat g.toNat n.toNat i.toNat c.toNat ((bs.drop 0).take (min m 224 - 0))).getD at_.toNat 0 ^^^ by_))) (by repeat (first | exact Take.here | apply Take.there)) (bvs_put (k := at_.toNat) (by omega) (by rw [enc_length]; exact hat)) ?_
      refine WX.regs (L' := [(7, _), (8, _)]) (by repeat (first | exact RS.nil | refine RS.cons rfl ?_)) ?_
      refine WX.next ?_
      refine WC.seq ?_
      refine WC.region ?_
      refine wlv (op_move (by decide) rfl) rfl ?_
      refine wlx (op_call (f21_spec A1 256 c1 ((enc k.toNat g.toNat n.toNat i.toNat c.toNat ((bs.drop 0).take (min m 224 - 0))).set at_.toNat ((enc k.toNat g.toNat n.toNat i.toNat c.toNat ((bs.drop 0).take (min m 224 - 0))).getD at_.toNat 0 ^^^ by_)) (by simp [enc_length])) ca21 (by decide) rfl (by apply Give.mk; (repeat (first | exact Takes.nil | exact Take.here | apply Takes.cons | apply Take.there)); repeat (first | exact Reads.nil | (apply Reads.rd; (focus (repeat (first | exact List.Mem.head _ | apply List.Mem.tail)); done)) | (apply Reads.own; (focus (repeat (first | exact List.Mem.head _ | apply List.Mem.tail)); done)) | (apply Reads.rx; (focus (repeat (first | exact List.Mem.head _ | apply List.Mem.tail)); done)) | (apply Reads.rows (e := false); (focus (repeat (first | exact List.Mem.head _ | apply List.Mem.tail)); done)) | (apply Reads.rows (e := true); (focus (repeat (first | exact List.Mem.head _ | apply List.Mem.tail)); done))))) rfl ?_
      rintro ⟨Ao, co, mo, po, fo⟩ ⟨hdo, hmo⟩
      dsimp only at hdo hmo
      subst hmo
      have htm := tamper (enc_length k.toNat g.toNat n.toNat i.toNat c.toNat ((bs.drop 0).take (min m 224 - 0))) (b := ((enc k.toNat g.toNat n.toNat i.toNat c.toNat ((bs.drop 0).take (min m 224 - 0))).set at_.toNat ((enc k.toNat g.toNat n.toNat i.toNat c.toNat ((bs.drop 0).take (min m 224 - 0))).getD at_.toNat 0 ^^^ by_))) (by simp [enc_length]) (enc_sum _ _ _ _ _ _) (set_ne (by rw [enc_length]; exact hat) h1) (set_part _ _ _)
      rw [← hdo] at htm
      dsimp only at htm
      dsimp only
      refine wlv (op_move (by decide) rfl) rfl ?_
      refine wlv (op_extract (by decide) rfl rfl) rfl ?_
      refine wlv (op_extract (by decide) rfl rfl) rfl ?_
      refine wl1 (op_alloc ti25 (by decide)) rfl fun b3 => ?_
      refine wl (op_storeAll sz25 rfl rfl (by repeat (first | exact Take.here | apply Take.there)) (by first | rfl | (simp [Value.cells]; done) | (simp [Value.cells]; omega)) (by first | rfl | exact wvs_one _ | exact bvs_one _) (by first | rfl | (simp [Value.cells]; done) | (simp [Value.cells]; omega))) rfl ?_
      change WL _ _ _ _ _ _ _
      refine wlv (op_assign (by decide) rfl) rfl ?_
      refine WL.nil ?_
      refine WX.turn (c := own (.slice Ae 256 ce) 5 1 256 (bvs (enc k.toNat g.toNat n.toNat i.toNat c.toNat ((bs.drop 0).take (min m 224 - 0))))) (d := rd (.slice Ae 256 ce) 1 256 (bvs (enc k.toNat g.toNat n.toNat i.toNat c.toNat ((bs.drop 0).take (min m 224 - 0))))) (by repeat (first | exact Take.here | apply Take.there)) own_le_rd ?_
      refine WX.turn (c := own (.slice A1 256 c1) 5 1 256 (bvs ((enc k.toNat g.toNat n.toNat i.toNat c.toNat ((bs.drop 0).take (min m 224 - 0))).set at_.toNat ((enc k.toNat g.toNat n.toNat i.toNat c.toNat ((bs.drop 0).take (min m 224 - 0))).getD at_.toNat 0 ^^^ by_)))) (d := rd (.slice A1 256 c1) 1 256 (bvs ((enc k.toNat g.toNat n.toNat i.toNat c.toNat ((bs.drop 0).take (min m 224 - 0))).set at_.toNat ((enc k.toNat g.toNat n.toNat i.toNat c.toNat ((bs.drop 0).take (min m 224 - 0))).getD at_.toNat 0 ^^^ by_)))) (by repeat (first | exact Take.here | apply Take.there)) own_le_rd ?_
      refine WX.dupr (v := .slice Ae 256 ce) (sz := 1) (m := 256) (xs := bvs (enc k.toNat g.toNat n.toNat i.toNat c.toNat ((bs.drop 0).take (min m 224 - 0)))) (by repeat (first | exact List.Mem.head _ | apply List.Mem.tail)) (rd_dropB (l := 16) (enc_length _ _ _ _ _ _) (by decide)) ?_
      refine WX.dupr (v := .slice A1 256 c1) (sz := 1) (m := 256) (xs := bvs ((enc k.toNat g.toNat n.toNat i.toNat c.toNat ((bs.drop 0).take (min m 224 - 0))).set at_.toNat ((enc k.toNat g.toNat n.toNat i.toNat c.toNat ((bs.drop 0).take (min m 224 - 0))).getD at_.toNat 0 ^^^ by_))) (by repeat (first | exact List.Mem.head _ | apply List.Mem.tail)) (rd_dropB (l := 16) (by simp [enc_length]) (by decide)) ?_
      refine WX.regs (L' := [(7, _), (8, _), (10, _)]) (by repeat (first | exact RS.nil | refine RS.cons rfl ?_)) ?_
      refine WX.next ?_
      refine WC.seq ?_
      refine WC.drawnH mo 999 ?_
      refine WA.take (i := 0) rfl (by kernel_rfl) (fun _ _ _ h => h) rfl (op_move (by decide) rfl) (by repeat (first | exact Takes.nil | exact Take.here | apply Takes.cons | apply Take.there)) ?_
      refine WA.take (i := 1) rfl (by kernel_rfl) (fun _ _ _ h => h) rfl (op_eql (by decide) rfl rfl) (by repeat (first | exact Takes.nil | exact Take.here | apply Takes.cons | apply Take.there)) ?_
      refine WA.take (i := 2) rfl (by kernel_rfl) (fun _ _ _ h => h) rfl (op_move (by decide) rfl) (by repeat (first | exact Takes.nil | exact Take.here | apply Takes.cons | apply Take.there)) ?_
      refine WA.split (t := 50) rfl (fun g50 => ?_) (fun g50 => ?_)
      ·
        refine WA.skipG (i := 3) rfl (by kernel_rfl) (fun _ _ _ h => h) rfl rfl rfl (by first | exact .inl rfl | exact .inr rfl) rfl (by decide) (by repeat (first | exact Takes.nil | exact Take.here | apply Takes.cons | apply Take.there)) ?_
        refine WA.skipG (i := 4) rfl (by kernel_rfl) (fun _ _ _ h => h) rfl rfl rfl (by first | exact .inl rfl | exact .inr rfl) rfl (by decide) (by repeat (first | exact Takes.nil | exact Take.here | apply Takes.cons | apply Take.there)) ?_
        refine WA.skipG (i := 5) rfl (by kernel_rfl) (fun _ _ _ h => h) rfl rfl rfl (by first | exact .inl rfl | exact .inr rfl) rfl (by decide) (by repeat (first | exact Takes.nil | exact Take.here | apply Takes.cons | apply Take.there)) ?_
        refine WA.skipG (i := 6) rfl (by kernel_rfl) (fun _ _ _ h => h) rfl rfl rfl (by first | exact .inl rfl | exact .inr rfl) rfl (by decide) (by repeat (first | exact Takes.nil | exact Take.here | apply Takes.cons | apply Take.there)) ?_
        refine WA.skipG (i := 7) rfl (by kernel_rfl) (fun _ _ _ h => h) rfl rfl rfl (by first | exact .inl rfl | exact .inr rfl) rfl (by decide) (by repeat (first | exact Takes.nil | exact Take.here | apply Takes.cons | apply Take.there)) ?_
        refine WA.take (i := 8) rfl (by kernel_rfl) (fun _ _ _ h => h) rfl (op_pickT (by decide) rfl rfl) (by repeat (first | exact Takes.nil | exact Take.here | apply Takes.cons | apply Take.there)) ?_
        refine WA.take (i := 9) rfl (by kernel_rfl) (fun _ _ _ h => h) rfl (op_assign (by decide) rfl) (by repeat (first | exact Takes.nil | exact Take.here | apply Takes.cons | apply Take.there)) ?_
        refine WA.done (by kernel_rfl) ?_
        refine WX.regs (L' := [(6, _)]) (by repeat (first | exact RS.nil | refine RS.cons rfl ?_)) ?_
        refine WX.next ?_
        refine WC.ret ?_
        exact Fin.ret1 (by first | exact .inl rfl | exact .inr rfl) (_) (by first | rfl | exact decide_eq_true (htm.resolve_left g50)) Try.results5 (.tmp rfl) (by repeat (first | exact Takes.nil | exact Take.here | apply Takes.cons | apply Take.there)) (by simp)
      ·
        refine WA.takeG (i := 3) rfl (by kernel_rfl) (fun _ _ _ h => h) rfl rfl rfl (op_move (by decide) rfl) (by repeat (first | exact Takes.nil | exact Take.here | apply Takes.cons | apply Take.there)) ?_
        refine WA.takeG (i := 4) rfl (by kernel_rfl) (fun _ _ _ h => h) rfl rfl rfl (op_slice_l Try.underlying22 sz5 (by decide) rfl rfl (by omega) (by omega)) (by repeat (first | exact Takes.nil | exact Take.here | apply Takes.cons | apply Take.there)) ?_
        refine WA.takeG (i := 5) rfl (by kernel_rfl) (fun _ _ _ h => h) rfl rfl rfl (op_move (by decide) rfl) (by repeat (first | exact Takes.nil | exact Take.here | apply Takes.cons | apply Take.there)) ?_
        refine WA.takeG (i := 6) rfl (by kernel_rfl) (fun _ _ _ h => h) rfl rfl rfl (op_slice_l Try.underlying22 sz5 (by decide) rfl rfl (by omega) (by omega)) (by repeat (first | exact Takes.nil | exact Take.here | apply Takes.cons | apply Take.there)) ?_
        refine WA.stepGx (i := 7) (by kernel_rfl) rfl rfl rfl rfl (op_call (f26_spec _ _ 240 _ 240 _ ((enc k.toNat g.toNat n.toNat i.toNat c.toNat ((bs.drop 0).take (min m 224 - 0))).drop 16) (((enc k.toNat g.toNat n.toNat i.toNat c.toNat ((bs.drop 0).take (min m 224 - 0))).set at_.toNat ((enc k.toNat g.toNat n.toNat i.toNat c.toNat ((bs.drop 0).take (min m 224 - 0))).getD at_.toNat 0 ^^^ by_)).drop 16) (by simp [enc_length]) (by simp [enc_length]) (by decide) (by decide)) ca26 (by decide) rfl (by apply Give.mk; (repeat (first | exact Takes.nil | exact Take.here | apply Takes.cons | apply Take.there)); repeat (first | exact Reads.nil | (apply Reads.rd; (focus (repeat (first | exact List.Mem.head _ | apply List.Mem.tail)); done)) | (apply Reads.own; (focus (repeat (first | exact List.Mem.head _ | apply List.Mem.tail)); done)) | (apply Reads.rx; (focus (repeat (first | exact List.Mem.head _ | apply List.Mem.tail)); done)) | (apply Reads.rows (e := false); (focus (repeat (first | exact List.Mem.head _ | apply List.Mem.tail)); done)) | (apply Reads.rows (e := true); (focus (repeat (first | exact List.Mem.head _ | apply List.Mem.tail)); done))))) (fun _ r => (by repeat (first | exact Takes.nil | exact Take.here | apply Takes.cons | apply Take.there))) ?_
        rintro _ rfl
        refine WA.take (i := 8) rfl (by kernel_rfl) (fun _ _ _ h => h) rfl (op_pickF (by decide) rfl rfl) (by repeat (first | exact Takes.nil | exact Take.here | apply Takes.cons | apply Take.there)) ?_
        refine WA.take (i := 9) rfl (by kernel_rfl) (fun _ _ _ h => h) rfl (op_assign (by decide) rfl) (by repeat (first | exact Takes.nil | exact Take.here | apply Takes.cons | apply Take.there)) ?_
        refine WA.done (by kernel_rfl) ?_
        refine WX.regs (L' := [(6, _)]) (by repeat (first | exact RS.nil | refine RS.cons rfl ?_)) ?_
        refine WX.next ?_
        refine WC.ret ?_
        exact Fin.ret1 (by first | exact .inl rfl | exact .inr rfl) (_) (by first | rfl | exact decide_eq_true (htm.resolve_left g50)) Try.results5 (.tmp rfl) (by repeat (first | exact Takes.nil | exact Take.here | apply Takes.cons | apply Take.there)) (by simp)
end Go.Proofs.Ythephcghglldaaa.Sx
