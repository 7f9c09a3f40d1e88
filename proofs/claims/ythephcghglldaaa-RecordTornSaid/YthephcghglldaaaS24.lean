import Derived.Test.YthephcghglldaaaS23
set_option linter.unusedVariables false
set_option linter.unusedSimpArgs false
namespace Go.Proofs.Ythephcghglldaaa.Sx
open Go.RowKit Go.Proofs.Ythephcghglldaaa.Ty
attribute [local irreducible] blk own rd rx frameC

theorem torn {a b : List UInt8} (at_ : Nat) (hat : at_ ≤ 256) (ha : a.length = 256) (hb : b.length = 256) (hsa : (sha (a.drop 16)).take 16 = a.take 16) (hsb : (sha (b.drop 16)).take 16 = b.take 16)
    (hna : ¬ a.take at_ ++ b.drop at_ = a) (hnb : ¬ a.take at_ ++ b.drop at_ = b) :
    (dec (a.take at_ ++ b.drop at_)).2 = 22 ∨ (¬ a.drop 16 = (a.take at_ ++ b.drop at_).drop 16 ∧ (sha (a.drop 16)).take 16 = (sha ((a.take at_ ++ b.drop at_).drop 16)).take 16) := by
  have hl : (a.take at_ ++ b.drop at_).length = 256 := by simp; omega
  by_cases h : at_ ≤ 16
  · have hd : (a.take at_ ++ b.drop at_).drop 16 = b.drop 16 := by
      rw [List.drop_append, List.drop_eq_nil_of_le (by simp; omega), List.nil_append, List.drop_drop]
      congr 1
      simp
      omega
    rcases tamper hb hl hsb hnb (.inr hd) with h1 | h1
    · exact .inl h1
    · exact absurd hd.symm h1.1
  · refine tamper ha hl hsa hna (.inl ?_)
    rw [List.take_append_of_le_length (by simp; omega), List.take_take, Nat.min_eq_left (by omega)]
theorem mix_length {a b : List UInt8} {at_ : Nat} (hat : at_ ≤ 256) (ha : a.length = 256) (hb : b.length = 256) : (a.take at_ ++ b.drop at_).length = 256 := by simp; omega
set_option maxHeartbeats 4000000 in
set_option maxRecDepth 10000 in
theorem f6_spec (k g n i c kz gz nz iz cz : Int) (A B : Option Addr) (m e m2 e2 : Nat) (bs bs2 : List UInt8) (hm : bs.length = m) (hm2 : bs2.length = m2) (at_ : UInt8) :
    Spec Try.prog 6 [.agg (pcells k g n i c (.slice A m e)).toArray, .agg (pcells kz gz nz iz cz (.slice B m2 e2)).toArray, bv at_] [] [rd (.slice A m e) 1 m (bvs bs), rd (.slice B m2 e2) 1 m2 (bvs bs2)] (R := Bool) (fun b => b = true) (fun b => .bool b) (fun _ => []) := by
  have hat : at_.toNat < 256 := at_.toNat_lt
  have hlb : ((bs.drop 0).take (min m 224 - 0)).length = (min m 224 - 0) := by simp only [List.length_take, List.length_drop]; omega
  have hlbz : ((bs2.drop 0).take (min m2 224 - 0)).length = (min m2 224 - 0) := by simp only [List.length_take, List.length_drop]; omega
  refine Spec.intro Try.func6 Try.ntmps6 rfl (by simp) (by simp) fun w0 => ?_
  refine WC.capx (A := A) (m := m) (c := e) (Src.rd (xs := bvs bs) (by repeat (first | exact List.Mem.head _ | apply List.Mem.tail))) (fun hcapa => ?_)
  refine WC.capx (A := B) (m := m2) (c := e2) (Src.rd (xs := bvs bs2) (by repeat (first | exact List.Mem.head _ | apply List.Mem.tail))) (fun hcapb => ?_)
  refine WC.dup (c := rd (.slice A m e) 1 m (bvs bs)) (d := rd (sliced A 0 (min m 224) e 1) 1 (min m 224 - 0) (bvs ((bs.drop 0).take (min m 224 - 0)))) (by repeat (first | exact List.Mem.head _ | apply List.Mem.tail)) (by simp) (by simp) (rd_subB (l := 0) (h := min m 224) (Nat.zero_le _) (Nat.min_le_left _ _)) ?_
  refine WC.dup (c := rd (.slice B m2 e2) 1 m2 (bvs bs2)) (d := rd (sliced B 0 (min m2 224) e2 1) 1 (min m2 224 - 0) (bvs ((bs2.drop 0).take (min m2 224 - 0)))) (by repeat (first | exact List.Mem.head _ | apply List.Mem.tail)) (by simp) (by simp) (rd_subB (l := 0) (h := min m2 224) (Nat.zero_le _) (Nat.min_le_left _ _)) ?_
  refine WC.seq ?_
  refine WC.region ?_
  refine wl1 (op_box (by decide) rfl rfl) rfl fun b1 => ?_
  refine wl1 (op_box (by decide) rfl rfl) rfl fun b2 => ?_
  refine wlv (op_assign (by decide) rfl) rfl ?_
  refine WL.nil ?_
  refine WX.regs (L' := [(2, _), (3, _), (4, _)]) (by repeat (first | exact RS.nil | refine RS.cons rfl ?_)) ?_
  refine WX.next ?_
  refine WC.seq ?_
  refine WC.drawn (Hs := [blk b2 (pcells kz gz nz iz cz (.slice B m2 e2)) 24]) mo 17 ?_
  refine WA.take (i := 0) rfl (by kernel_rfl) (fun _ _ _ h => h) rfl (op_fieldAddr fo24_5 (by decide) rfl) (by repeat (first | exact Takes.nil | exact Take.here | apply Takes.cons | apply Take.there)) ?_
  refine WA.take (i := 2) rfl (by kernel_rfl) (fun _ _ _ h => h) rfl (op_fieldAddr fo24_5 (by decide) rfl) (by repeat (first | exact Takes.nil | exact Take.here | apply Takes.cons | apply Take.there)) ?_
  refine WA.take (i := 7) rfl (by kernel_rfl) (fun _ _ _ h => h) rfl (op_fieldAddr fo24_5 (by decide) rfl) (by repeat (first | exact Takes.nil | exact Take.here | apply Takes.cons | apply Take.there)) ?_
  refine WA.take (i := 8) rfl (by kernel_rfl) (fun _ _ _ h => h) rfl (op_load1 fl22 (by decide) rfl (by repeat (first | exact List.Mem.head _ | apply List.Mem.tail)) rfl) (by repeat (first | exact Takes.nil | exact Take.here | apply Takes.cons | apply Take.there)) ?_
  refine WA.take (i := 9) rfl (by kernel_rfl) (fun _ _ _ h => h) rfl (op_fieldAddr fo24_5 (by decide) rfl) (by repeat (first | exact Takes.nil | exact Take.here | apply Takes.cons | apply Take.there)) ?_
  refine WA.take (i := 10) rfl (by kernel_rfl) (fun _ _ _ h => h) rfl (op_load1 fl22 (by decide) rfl (by repeat (first | exact List.Mem.head _ | apply List.Mem.tail)) rfl) (by repeat (first | exact Takes.nil | exact Take.here | apply Takes.cons | apply Take.there)) ?_
  refine WA.take (i := 11) rfl (by kernel_rfl) (fun _ _ _ h => h) rfl (op_len Try.underlying22 (by decide) rfl) (by repeat (first | exact Takes.nil | exact Take.here | apply Takes.cons | apply Take.there)) ?_
  refine WA.take (i := 12) rfl (by kernel_rfl) (fun _ _ _ h => h) rfl (op_minN (a := m2) (b := 224) (by decide) rfl rfl) (by repeat (first | exact Takes.nil | exact Take.here | apply Takes.cons | apply Take.there)) ?_
  refine WA.take (i := 13) rfl (by kernel_rfl) (fun _ _ _ h => h) rfl (op_slice_h Try.underlying22 sz5 (by decide) rfl rfl (by omega) (by omega)) (by repeat (first | exact Takes.nil | exact Take.here | apply Takes.cons | apply Take.there)) ?_
  refine WA.abs (fun W hW => ?_)
  have st111100011111110000 : ∀ (_u : Unit), W 7 #[true, true, true, true, false, false, false, true, true, true, true, true, true, true, false, false, false, false] 94 [(2, bv at_), (3, .pointer (some ⟨b1, 0, none⟩)), (4, .pointer (some ⟨b2, 0, none⟩)), (13, .slice A m e), (15, .slice A m e), (25, sliced B 0 (min m2 224) e2 1)] [blk b2 (pcells kz gz nz iz cz (.slice B m2 e2)) 24, blk b1 (pcells k g n i c (.slice A m e)) 24, rd (sliced B 0 (min m2 224) e2 1) 1 (min m2 224 - 0) (bvs ((bs2.drop 0).take (min m2 224 - 0))), rd (sliced A 0 (min m 224) e 1) 1 (min m 224 - 0) (bvs ((bs.drop 0).take (min m 224 - 0))), rd (.slice A m e) 1 m (bvs bs), rd (.slice B m2 e2) 1 m2 (bvs bs2), frameC w0 (MutF [])] := by
    intro _u
    subst hW
    refine WA.take (i := 4) rfl (by kernel_rfl) (fun _ _ _ h => h) rfl (op_len Try.underlying22 (by decide) rfl) (by repeat (first | exact Takes.nil | exact Take.here | apply Takes.cons | apply Take.there)) ?_
    refine WA.take (i := 5) rfl (by kernel_rfl) (fun _ _ _ h => h) rfl (op_minN (a := m) (b := 224) (by decide) rfl rfl) (by repeat (first | exact Takes.nil | exact Take.here | apply Takes.cons | apply Take.there)) ?_
    refine WA.take (i := 6) rfl (by kernel_rfl) (fun _ _ _ h => h) rfl (op_slice_h Try.underlying22 sz5 (by decide) rfl rfl (by omega) (by omega)) (by repeat (first | exact Takes.nil | exact Take.here | apply Takes.cons | apply Take.there)) ?_
    refine WA.take (i := 14) rfl (by kernel_rfl) (fun _ _ _ h => h) rfl (op_fieldAddr fo24_5 (by decide) rfl) (by repeat (first | exact Takes.nil | exact Take.here | apply Takes.cons | apply Take.there)) ?_
    refine WA.stepo (i := 15) (by kernel_rfl) rfl rfl (op_store sz22 rfl rfl (by repeat (first | exact Take.here | apply Take.there)) (by first | rfl | (simp [Value.cells]; done) | (simp [Value.cells]; omega)) (by first | rfl | exact wvs_one _ | exact bvs_one _) (by first | exact Nat.le_of_ble_eq_true rfl | (simp; omega))) (fun _ => (by repeat (first | exact Takes.nil | exact Take.here | apply Takes.cons | apply Take.there))) ?_
    refine WA.take (i := 16) rfl (by kernel_rfl) (fun _ _ _ h => h) rfl (op_fieldAddr fo24_5 (by decide) rfl) (by repeat (first | exact Takes.nil | exact Take.here | apply Takes.cons | apply Take.there)) ?_
    refine WA.stepo (G := []) (i := 17) (by kernel_rfl) rfl rfl (op_store sz22 rfl rfl (by repeat (first | exact Take.here | apply Take.there)) (by first | rfl | (simp [Value.cells]; done) | (simp [Value.cells]; omega)) (by first | rfl | exact wvs_one _ | exact bvs_one _) (by first | exact Nat.le_of_ble_eq_true rfl | (simp; omega))) (fun h => absurd rfl h) ?_
    refine WA.done (by kernel_rfl) ?_
    refine WX.blkEq (b := b1) (pcells k g n i c (sliced A 0 (min m 224) e 1)) (by repeat (first | exact Take.here | apply Take.there)) (by rfl) ?_
    refine WX.blkEq (b := b2) (pcells kz gz nz iz cz (sliced B 0 (min m2 224) e2 1)) (by repeat (first | exact Take.here | apply Take.there)) (by rfl) ?_
    refine WX.regs (L' := [(2, _), (3, _), (4, _)]) (by repeat (first | exact RS.nil | refine RS.cons rfl ?_)) ?_
    refine WX.next ?_
    refine WC.seq ?_
    refine WC.seq ?_
    refine WC.region ?_
    refine wlx (op_call (f18_spec) ca18 (by decide) rfl (by apply Give.mk; (repeat (first | exact Takes.nil | exact Take.here | apply Takes.cons | apply Take.there)); repeat (first | exact Reads.nil | (apply Reads.rd; (focus (repeat (first | exact List.Mem.head _ | apply List.Mem.tail)); done)) | (apply Reads.own; (focus (repeat (first | exact List.Mem.head _ | apply List.Mem.tail)); done)) | (apply Reads.rx; (focus (repeat (first | exact List.Mem.head _ | apply List.Mem.tail)); done)) | (apply Reads.rows (e := false); (focus (repeat (first | exact List.Mem.head _ | apply List.Mem.tail)); done)) | (apply Reads.rows (e := true); (focus (repeat (first | exact List.Mem.head _ | apply List.Mem.tail)); done))))) rfl ?_
    rintro _ _
    refine wlv (op_not (by decide) rfl) rfl ?_
    refine wlv (op_move (by decide) rfl) rfl ?_
    refine wlgv (op_loadAll ag24 (by decide) rfl (by repeat (first | exact List.Mem.head _ | apply List.Mem.tail)) (by first | rfl | (simp [Value.cells]; done) | (simp [Value.cells]; omega))) rfl rfl rfl ?_
    refine wlgx (op_call (f20_spec _ _ _ _ _ _ (min m 224 - 0) _) ca20 (by decide) rfl (by apply Give.mk; (repeat (first | exact Takes.nil | exact Take.here | apply Takes.cons | apply Take.there)); repeat (first | exact Reads.nil | (apply Reads.rd; (focus (repeat (first | exact List.Mem.head _ | apply List.Mem.tail)); done)) | (apply Reads.own; (focus (repeat (first | exact List.Mem.head _ | apply List.Mem.tail)); done)) | (apply Reads.rx; (focus (repeat (first | exact List.Mem.head _ | apply List.Mem.tail)); done)) | (apply Reads.rows (e := false); (focus (repeat (first | exact List.Mem.head _ | apply List.Mem.tail)); done)) | (apply Reads.rows (e := true); (focus (repeat (first | exact List.Mem.head _ | apply List.Mem.tail)); done))))) rfl rfl rfl ?_
    rintro _ rfl
    refine wlgv (op_neq (by decide) rfl rfl) rfl rfl rfl ?_
    refine wlv (op_pickF (by decide) rfl rfl) rfl ?_
    refine wlv (op_move (by decide) rfl) rfl ?_
    refine WL.split (t := 35) rfl (fun g35 => ?_) (fun g35 => ?_)
    ·
      refine wlg_no rfl rfl rfl rfl rfl (by decide) ?_
      refine wlg_no rfl rfl rfl rfl rfl (by decide) ?_
      refine wlg_no rfl rfl rfl rfl rfl (by decide) ?_
      refine wlv (op_pickT (by decide) rfl rfl) rfl ?_
      refine WL.nil ?_
      refine WX.regs (L' := [(2, _), (3, _), (4, _), (39, _)]) (by repeat (first | exact RS.nil | refine RS.cons rfl ?_)) ?_
      refine WX.next ?_
      refine WC.condT rfl ?_
      refine WC.seq ?_
      refine WC.region ?_
      refine wlx (op_call (f18_spec) ca18 (by decide) rfl (by apply Give.mk; (repeat (first | exact Takes.nil | exact Take.here | apply Takes.cons | apply Take.there)); repeat (first | exact Reads.nil | (apply Reads.rd; (focus (repeat (first | exact List.Mem.head _ | apply List.Mem.tail)); done)) | (apply Reads.own; (focus (repeat (first | exact List.Mem.head _ | apply List.Mem.tail)); done)) | (apply Reads.rx; (focus (repeat (first | exact List.Mem.head _ | apply List.Mem.tail)); done)) | (apply Reads.rows (e := false); (focus (repeat (first | exact List.Mem.head _ | apply List.Mem.tail)); done)) | (apply Reads.rows (e := true); (focus (repeat (first | exact List.Mem.head _ | apply List.Mem.tail)); done))))) rfl ?_
      rintro _ _
      refine wlv (op_assign (by decide) rfl) rfl ?_
      refine WL.nil ?_
      refine WX.regs (L' := [(6, _)]) (by repeat (first | exact RS.nil | refine RS.cons rfl ?_)) ?_
      refine WX.next ?_
      refine WC.ret ?_
      refine WX.then_ret ?_
      exact Fin.ret1 (by first | exact .inl rfl | exact .inr rfl) (_) (rfl) Try.results6 (.tmp rfl) (by repeat (first | exact Takes.nil | exact Take.here | apply Takes.cons | apply Take.there)) (by simp)
    ·
      refine wlgv (op_loadAll ag24 (by decide) rfl (by repeat (first | exact List.Mem.head _ | apply List.Mem.tail)) (by first | rfl | (simp [Value.cells]; done) | (simp [Value.cells]; omega))) rfl rfl rfl ?_
      refine wlgx (op_call (f20_spec _ _ _ _ _ _ (min m2 224 - 0) _) ca20 (by decide) rfl (by apply Give.mk; (repeat (first | exact Takes.nil | exact Take.here | apply Takes.cons | apply Take.there)); repeat (first | exact Reads.nil | (apply Reads.rd; (focus (repeat (first | exact List.Mem.head _ | apply List.Mem.tail)); done)) | (apply Reads.own; (focus (repeat (first | exact List.Mem.head _ | apply List.Mem.tail)); done)) | (apply Reads.rx; (focus (repeat (first | exact List.Mem.head _ | apply List.Mem.tail)); done)) | (apply Reads.rows (e := false); (focus (repeat (first | exact List.Mem.head _ | apply List.Mem.tail)); done)) | (apply Reads.rows (e := true); (focus (repeat (first | exact List.Mem.head _ | apply List.Mem.tail)); done))))) rfl rfl rfl ?_
      rintro _ rfl
      refine wlgv (op_neq (by decide) rfl rfl) rfl rfl rfl ?_
      refine wlv (op_pickF (by decide) rfl rfl) rfl ?_
      refine WL.nil ?_
      refine WX.regs (L' := [(2, _), (3, _), (4, _), (39, _)]) (by repeat (first | exact RS.nil | refine RS.cons rfl ?_)) ?_
      refine WX.next ?_
      refine WC.cond rfl (fun h1 => ?_) (fun h1 => ?_)
      ·
        refine WC.seq ?_
        refine WC.region ?_
        refine wlx (op_call (f18_spec) ca18 (by decide) rfl (by apply Give.mk; (repeat (first | exact Takes.nil | exact Take.here | apply Takes.cons | apply Take.there)); repeat (first | exact Reads.nil | (apply Reads.rd; (focus (repeat (first | exact List.Mem.head _ | apply List.Mem.tail)); done)) | (apply Reads.own; (focus (repeat (first | exact List.Mem.head _ | apply List.Mem.tail)); done)) | (apply Reads.rx; (focus (repeat (first | exact List.Mem.head _ | apply List.Mem.tail)); done)) | (apply Reads.rows (e := false); (focus (repeat (first | exact List.Mem.head _ | apply List.Mem.tail)); done)) | (apply Reads.rows (e := true); (focus (repeat (first | exact List.Mem.head _ | apply List.Mem.tail)); done))))) rfl ?_
        rintro _ _
        refine wlv (op_assign (by decide) rfl) rfl ?_
        refine WL.nil ?_
        refine WX.regs (L' := [(6, _)]) (by repeat (first | exact RS.nil | refine RS.cons rfl ?_)) ?_
        refine WX.next ?_
        refine WC.ret ?_
        refine WX.then_ret ?_
        exact Fin.ret1 (by first | exact .inl rfl | exact .inr rfl) (_) (rfl) Try.results6 (.tmp rfl) (by repeat (first | exact Takes.nil | exact Take.here | apply Takes.cons | apply Take.there)) (by simp)
      ·
        refine WC.skip ?_
        refine WX.next ?_
        refine WC.seq ?_
        refine WC.drawnH mo 999 ?_
        have hch := Decidable.not_not.1 g35
        obtain ⟨hf, hcl, hcu, hil, hiu, hb⟩ := chk_ok hch
        simp only [fineP] at hf
        have ek : ((k.toNat : Nat) : Int) = k := Int.toNat_of_nonneg (by omega)
        have eg : ((g.toNat : Nat) : Int) = g := Int.toNat_of_nonneg (by omega)
        have en : ((n.toNat : Nat) : Int) = n := Int.toNat_of_nonneg (by omega)
        have ei : ((i.toNat : Nat) : Int) = i := Int.toNat_of_nonneg (by omega)
        have ec : ((c.toNat : Nat) : Int) = c := Int.toNat_of_nonneg (by omega)
        have hchz := Decidable.not_not.1 h1
        obtain ⟨hfz, hclz, hcuz, hilz, hiuz, hbz⟩ := chk_ok hchz
        simp only [fineP] at hfz
        have ekz : ((kz.toNat : Nat) : Int) = kz := Int.toNat_of_nonneg (by omega)
        have egz : ((gz.toNat : Nat) : Int) = gz := Int.toNat_of_nonneg (by omega)
        have enz : ((nz.toNat : Nat) : Int) = nz := Int.toNat_of_nonneg (by omega)
        have eiz : ((iz.toNat : Nat) : Int) = iz := Int.toNat_of_nonneg (by omega)
        have ecz : ((cz.toNat : Nat) : Int) = cz := Int.toNat_of_nonneg (by omega)
        refine WA.take (i := 0) rfl (by kernel_rfl) (fun _ _ _ h => h) rfl (op_loadAll ag24 (by decide) rfl (by repeat (first | exact List.Mem.head _ | apply List.Mem.tail)) (by first | rfl | (simp [Value.cells]; done) | (simp [Value.cells]; omega))) (by repeat (first | exact Takes.nil | exact Take.here | apply Takes.cons | apply Take.there)) ?_
        rw [show ((pcells k g n i c (sliced A 0 (min m 224) e 1)) : List Value) = pcells (k.toNat : Nat) (g.toNat : Nat) (n.toNat : Nat) (i.toNat : Nat) (c.toNat : Nat) (sliced A 0 (min m 224) e 1) by rw [ek, eg, en, ei, ec]]
        refine WA.take (i := 2) rfl (by kernel_rfl) (fun _ _ _ h => h) rfl (op_loadAll ag24 (by decide) rfl (by repeat (first | exact List.Mem.head _ | apply List.Mem.tail)) (by first | rfl | (simp [Value.cells]; done) | (simp [Value.cells]; omega))) (by repeat (first | exact Takes.nil | exact Take.here | apply Takes.cons | apply Take.there)) ?_
        rw [show ((pcells kz gz nz iz cz (sliced B 0 (min m2 224) e2 1)) : List Value) = pcells (kz.toNat : Nat) (gz.toNat : Nat) (nz.toNat : Nat) (iz.toNat : Nat) (cz.toNat : Nat) (sliced B 0 (min m2 224) e2 1) by rw [ekz, egz, enz, eiz, ecz]]
        refine WA.stepx (i := 1) (by kernel_rfl) rfl rfl (op_call (f22_spec k.toNat g.toNat n.toNat i.toNat c.toNat _ (min m 224 - 0) _ ((bs.drop 0).take (min m 224 - 0)) (by simp only [List.length_take, List.length_drop]; omega) (by omega) (by omega) (by omega) (by omega) (by omega) (by omega)) ca22 (by decide) rfl (by apply Give.mk; (repeat (first | exact Takes.nil | exact Take.here | apply Takes.cons | apply Take.there)); repeat (first | exact Reads.nil | (apply Reads.rd; (focus (repeat (first | exact List.Mem.head _ | apply List.Mem.tail)); done)) | (apply Reads.own; (focus (repeat (first | exact List.Mem.head _ | apply List.Mem.tail)); done)) | (apply Reads.rx; (focus (repeat (first | exact List.Mem.head _ | apply List.Mem.tail)); done)) | (apply Reads.rows (e := false); (focus (repeat (first | exact List.Mem.head _ | apply List.Mem.tail)); done)) | (apply Reads.rows (e := true); (focus (repeat (first | exact List.Mem.head _ | apply List.Mem.tail)); done))))) (fun _ r => (by repeat (first | exact Takes.nil | exact Take.here | apply Takes.cons | apply Take.there))) ?_
        rintro ⟨Aa, ca⟩ _
        refine WA.stepx (i := 3) (by kernel_rfl) rfl rfl (op_call (f22_spec kz.toNat gz.toNat nz.toNat iz.toNat cz.toNat _ (min m2 224 - 0) _ ((bs2.drop 0).take (min m2 224 - 0)) (by simp only [List.length_take, List.length_drop]; omega) (by omega) (by omega) (by omega) (by omega) (by omega) (by omega)) ca22 (by decide) rfl (by apply Give.mk; (repeat (first | exact Takes.nil | exact Take.here | apply Takes.cons | apply Take.there)); repeat (first | exact Reads.nil | (apply Reads.rd; (focus (repeat (first | exact List.Mem.head _ | apply List.Mem.tail)); done)) | (apply Reads.own; (focus (repeat (first | exact List.Mem.head _ | apply List.Mem.tail)); done)) | (apply Reads.rx; (focus (repeat (first | exact List.Mem.head _ | apply List.Mem.tail)); done)) | (apply Reads.rows (e := false); (focus (repeat (first | exact List.Mem.head _ | apply List.Mem.tail)); done)) | (apply Reads.rows (e := true); (focus (repeat (first | exact List.Mem.head _ | apply List.Mem.tail)); done))))) (fun _ r => (by repeat (first | exact Takes.nil | exact Take.here | apply Takes.cons | apply Take.there))) ?_
        rintro ⟨Ab, cb⟩ _
        refine WA.take (i := 4) rfl (by kernel_rfl) (fun _ _ _ h => h) rfl (op_assign (by decide) rfl) (by repeat (first | exact Takes.nil | exact Take.here | apply Takes.cons | apply Take.there)) ?_
        refine WA.take (i := 5) rfl (by kernel_rfl) (fun _ _ _ h => h) rfl (op_assign (by decide) rfl) (by repeat (first | exact Takes.nil | exact Take.here | apply Takes.cons | apply Take.there)) ?_
        refine WA.done (by kernel_rfl) ?_
        refine WX.turn (c := own (.slice Aa 256 ca) 5 1 256 (bvs (enc k.toNat g.toNat n.toNat i.toNat c.toNat ((bs.drop 0).take (min m 224 - 0))))) (d := rd (.slice Aa 256 ca) 1 256 (bvs (enc k.toNat g.toNat n.toNat i.toNat c.toNat ((bs.drop 0).take (min m 224 - 0))))) (by repeat (first | exact Take.here | apply Take.there)) own_le_rd ?_
        refine WX.turn (c := own (.slice Ab 256 cb) 5 1 256 (bvs (enc kz.toNat gz.toNat nz.toNat iz.toNat cz.toNat ((bs2.drop 0).take (min m2 224 - 0))))) (d := rd (.slice Ab 256 cb) 1 256 (bvs (enc kz.toNat gz.toNat nz.toNat iz.toNat cz.toNat ((bs2.drop 0).take (min m2 224 - 0))))) (by repeat (first | exact Take.here | apply Take.there)) own_le_rd ?_
        refine WX.capx (A := Aa) (m := 256) (c := ca) (Src.rd (xs := bvs (enc k.toNat g.toNat n.toNat i.toNat c.toNat ((bs.drop 0).take (min m 224 - 0)))) (by repeat (first | exact List.Mem.head _ | apply List.Mem.tail))) (fun hca => ?_)
        refine WX.dupr (v := .slice Aa 256 ca) (sz := 1) (m := 256) (xs := bvs (enc k.toNat g.toNat n.toNat i.toNat c.toNat ((bs.drop 0).take (min m 224 - 0)))) (by repeat (first | exact List.Mem.head _ | apply List.Mem.tail)) (rd_subB (l := 0) (h := at_.toNat) (Nat.zero_le _) (by omega)) ?_
        refine WX.dupr (v := .slice Ab 256 cb) (sz := 1) (m := 256) (xs := bvs (enc kz.toNat gz.toNat nz.toNat iz.toNat cz.toNat ((bs2.drop 0).take (min m2 224 - 0)))) (by repeat (first | exact List.Mem.head _ | apply List.Mem.tail)) (rd_dropB (l := at_.toNat) (enc_length _ _ _ _ _ _) (by omega)) ?_
        refine WX.regs (L' := [(2, _), (3, _), (4, _), (7, _), (8, _)]) (by repeat (first | exact RS.nil | refine RS.cons rfl ?_)) ?_
        refine WX.next ?_
        refine WC.seq ?_
        refine WC.drawn (Hs := []) mo 999 ?_
        refine WA.take (i := 1) rfl (by kernel_rfl) (fun _ _ _ h => h) rfl (op_move (by decide) rfl) (by repeat (first | exact Takes.nil | exact Take.here | apply Takes.cons | apply Take.there)) ?_
        refine WA.take (i := 2) rfl (by kernel_rfl) (fun _ _ _ h => h) rfl (op_move (by decide) rfl) (by repeat (first | exact Takes.nil | exact Take.here | apply Takes.cons | apply Take.there)) ?_
        refine WA.take (i := 3) rfl (by kernel_rfl) (fun _ _ _ h => h) rfl (op_slice_h Try.underlying22 sz5 (by decide) rfl rfl (by omega) (by omega)) (by repeat (first | exact Takes.nil | exact Take.here | apply Takes.cons | apply Take.there)) ?_
        refine WA.take (i := 5) rfl (by kernel_rfl) (fun _ _ _ h => h) rfl (op_move (by decide) rfl) (by repeat (first | exact Takes.nil | exact Take.here | apply Takes.cons | apply Take.there)) ?_
        refine WA.take (i := 6) rfl (by kernel_rfl) (fun _ _ _ h => h) rfl (op_move (by decide) rfl) (by repeat (first | exact Takes.nil | exact Take.here | apply Takes.cons | apply Take.there)) ?_
        refine WA.take (i := 7) rfl (by kernel_rfl) (fun _ _ _ h => h) rfl (op_slice_l Try.underlying22 sz5 (by decide) rfl rfl (by omega) (by omega)) (by repeat (first | exact Takes.nil | exact Take.here | apply Takes.cons | apply Take.there)) ?_
        refine WA.step1 (i := 0) (by kernel_rfl) rfl rfl (op_lit0 Try.underlying22 ti5 (by decide)) (fun _ b => (by repeat (first | exact Takes.nil | exact Take.here | apply Takes.cons | apply Take.there))) fun b3 => ?_
        refine WA.step2 (i := 4) (by kernel_rfl) rfl rfl (op_append0 Try.underlying22 ti5 rfl (by decide) (by decide) rfl rfl (by repeat (first | exact Take.here | apply Take.there)) (by first | (apply Src.rd; (repeat (first | exact List.Mem.head _ | apply List.Mem.tail)); done) | (apply Src.own; (repeat (first | exact List.Mem.head _ | apply List.Mem.tail)); done) | (apply Src.rx; (repeat (first | exact List.Mem.head _ | apply List.Mem.tail)); done)) (by first | rfl | exact wvs_one _ | exact bvs_one _) (by omega) (by omega)) (fun _ A c => (by repeat (first | exact Takes.nil | exact Take.here | apply Takes.cons | apply Take.there))) fun A1 c1 => ?_
        refine WA.step2 (i := 8) (by kernel_rfl) rfl rfl (op_append Try.underlying22 ti5 rfl (by decide) (by decide) rfl rfl (by repeat (first | exact Take.here | apply Take.there)) (by first | (apply Src.rd; (repeat (first | exact List.Mem.head _ | apply List.Mem.tail)); done) | (apply Src.own; (repeat (first | exact List.Mem.head _ | apply List.Mem.tail)); done) | (apply Src.rx; (repeat (first | exact List.Mem.head _ | apply List.Mem.tail)); done)) (by first | rfl | exact wvs_one _ | exact bvs_one _) (by omega) (by omega)) (fun _ A c => (by repeat (first | exact Takes.nil | exact Take.here | apply Takes.cons | apply Take.there))) fun A2 c2 => ?_
        refine WA.take (i := 9) rfl (by kernel_rfl) (fun _ _ _ h => h) rfl (op_assign (by decide) rfl) (by repeat (first | exact Takes.nil | exact Take.here | apply Takes.cons | apply Take.there)) ?_
        refine WA.done (by kernel_rfl) ?_
        rw [show ((at_.toNat : Nat) : Int).toNat - 0 + (256 - ((at_.toNat : Nat) : Int).toNat) = 256 by omega]
        refine WX.ownEq (v := .slice A2 256 c2) (bvs ((enc k.toNat g.toNat n.toNat i.toNat c.toNat ((bs.drop 0).take (min m 224 - 0))).take at_.toNat ++ (enc kz.toNat gz.toNat nz.toNat iz.toNat cz.toNat ((bs2.drop 0).take (min m2 224 - 0))).drop at_.toNat)) (by repeat (first | exact Take.here | apply Take.there)) (bvs_append _ _).symm ?_
        refine WX.regs (L' := [(3, _), (4, _), (7, _), (8, _), (9, _)]) (by repeat (first | exact RS.nil | refine RS.cons rfl ?_)) ?_
        refine WX.next ?_
        refine WC.seq ?_
        refine WC.region ?_
        refine wlv (op_move (by decide) rfl) rfl ?_
        refine wlx (op_call (f21_spec A2 256 c2 ((enc k.toNat g.toNat n.toNat i.toNat c.toNat ((bs.drop 0).take (min m 224 - 0))).take at_.toNat ++ (enc kz.toNat gz.toNat nz.toNat iz.toNat cz.toNat ((bs2.drop 0).take (min m2 224 - 0))).drop at_.toNat) (mix_length (at_ := at_.toNat) (by omega) (enc_length _ _ _ _ _ _) (enc_length _ _ _ _ _ _))) ca21 (by decide) rfl (by apply Give.mk; (repeat (first | exact Takes.nil | exact Take.here | apply Takes.cons | apply Take.there)); repeat (first | exact Reads.nil | (apply Reads.rd; (focus (repeat (first | exact List.Mem.head _ | apply List.Mem.tail)); done)) | (apply Reads.own; (focus (repeat (first | exact List.Mem.head _ | apply List.Mem.tail)); done)) | (apply Reads.rx; (focus (repeat (first | exact List.Mem.head _ | apply List.Mem.tail)); done)) | (apply Reads.rows (e := false); (focus (repeat (first | exact List.Mem.head _ | apply List.Mem.tail)); done)) | (apply Reads.rows (e := true); (focus (repeat (first | exact List.Mem.head _ | apply List.Mem.tail)); done))))) rfl ?_
        rintro ⟨Ao, co, mo, po, fo⟩ ⟨hdo, hmo⟩
        dsimp only at hdo hmo
        subst hmo
        dsimp only
        refine wlv (op_move (by decide) rfl) rfl ?_
        refine wlv (op_extract (by decide) rfl rfl) rfl ?_
        refine wlv (op_extract (by decide) rfl rfl) rfl ?_
        refine wl1 (op_alloc ti25 (by decide)) rfl fun b4 => ?_
        refine wl (op_storeAll sz25 rfl rfl (by repeat (first | exact Take.here | apply Take.there)) (by first | rfl | (simp [Value.cells]; done) | (simp [Value.cells]; omega)) (by first | rfl | exact wvs_one _ | exact bvs_one _) (by first | rfl | (simp [Value.cells]; done) | (simp [Value.cells]; omega))) rfl ?_
        change WL _ _ _ _ _ _ _
        refine wlv (op_assign (by decide) rfl) rfl ?_
        refine WL.nil ?_
        refine WX.regs (L' := [(3, _), (4, _), (7, _), (8, _), (9, _), (10, _), (11, _)]) (by repeat (first | exact RS.nil | refine RS.cons rfl ?_)) ?_
        refine WX.next ?_
        refine WC.seq ?_
        refine WC.seq ?_
        refine WC.region ?_
        refine wlv (op_move (by decide) rfl) rfl ?_
        refine wlv (op_bytesStr Try.underlying22 Try.underlying5 Try.underlying9 (by decide) rfl (by first | (apply Src.rd; (repeat (first | exact List.Mem.head _ | apply List.Mem.tail)); done) | (apply Src.own; (repeat (first | exact List.Mem.head _ | apply List.Mem.tail)); done) | (apply Src.rx; (repeat (first | exact List.Mem.head _ | apply List.Mem.tail)); done))) rfl ?_
        refine wlv (op_move (by decide) rfl) rfl ?_
        refine wlv (op_bytesStr Try.underlying22 Try.underlying5 Try.underlying9 (by decide) rfl (by first | (apply Src.rd; (repeat (first | exact List.Mem.head _ | apply List.Mem.tail)); done) | (apply Src.own; (repeat (first | exact List.Mem.head _ | apply List.Mem.tail)); done) | (apply Src.rx; (repeat (first | exact List.Mem.head _ | apply List.Mem.tail)); done))) rfl ?_
        refine wlv (op_eqls (by decide) rfl rfl) rfl ?_
        refine WL.nil ?_
        refine WX.regs (L' := [(3, _), (4, _), (7, _), (8, _), (9, _), (10, _), (11, _), (63, _)]) (by repeat (first | exact RS.nil | refine RS.cons rfl ?_)) ?_
        refine WX.next ?_
        refine WC.cond rfl (fun h2 => ?_) (fun h2 => ?_)
        ·
          rw [h2, dec_enc k.toNat g.toNat n.toNat i.toNat c.toNat ((bs.drop 0).take (min m 224 - 0)) (by omega) (by omega) (by omega) (by omega) (by omega) (by rw [hlb]; omega) (by rw [ek, eg, en, ei, ec, hlb]; exact hch)] at hdo
          obtain ⟨rfl, rfl⟩ := Prod.mk.inj hdo
          dsimp only
          refine WC.seq ?_
          refine WC.drawnH mo 999 ?_
          refine WA.take (i := 0) rfl (by kernel_rfl) (fun _ _ _ h => h) rfl (op_move (by decide) rfl) (by repeat (first | exact Takes.nil | exact Take.here | apply Takes.cons | apply Take.there)) ?_
          refine WA.take (i := 1) rfl (by kernel_rfl) (fun _ _ _ h => h) rfl (op_eql (by decide) rfl rfl) (by repeat (first | exact Takes.nil | exact Take.here | apply Takes.cons | apply Take.there)) ?_
          refine WA.take (i := 2) rfl (by kernel_rfl) (fun _ _ _ h => h) rfl (op_move (by decide) rfl) (by repeat (first | exact Takes.nil | exact Take.here | apply Takes.cons | apply Take.there)) ?_
          refine WA.split (t := 66) rfl (fun g66 => ?_) (fun g66 => ?_)
          ·
            refine WA.takeG (i := 3) rfl (by kernel_rfl) (fun _ _ _ h => h) rfl rfl rfl (op_loadAll ag25 (by decide) rfl (by repeat (first | exact List.Mem.head _ | apply List.Mem.tail)) (by first | rfl | (simp [Value.cells]; done) | (simp [Value.cells]; omega))) (by repeat (first | exact Takes.nil | exact Take.here | apply Takes.cons | apply Take.there)) ?_
            refine WA.takeG (i := 5) rfl (by kernel_rfl) (fun _ _ _ h => h) rfl rfl rfl (op_loadAll ag24 (by decide) rfl (by repeat (first | exact List.Mem.head _ | apply List.Mem.tail)) (by first | rfl | (simp [Value.cells]; done) | (simp [Value.cells]; omega))) (by repeat (first | exact Takes.nil | exact Take.here | apply Takes.cons | apply Take.there)) ?_
            refine WA.stepGx (i := 4) (by kernel_rfl) rfl rfl rfl rfl (op_call (f16_spec _ _ _ _ _ Ao _ co) ca16 (by decide) rfl (by apply Give.mk; (repeat (first | exact Takes.nil | exact Take.here | apply Takes.cons | apply Take.there)); repeat (first | exact Reads.nil | (apply Reads.rd; (focus (repeat (first | exact List.Mem.head _ | apply List.Mem.tail)); done)) | (apply Reads.own; (focus (repeat (first | exact List.Mem.head _ | apply List.Mem.tail)); done)) | (apply Reads.rx; (focus (repeat (first | exact List.Mem.head _ | apply List.Mem.tail)); done)) | (apply Reads.rows (e := false); (focus (repeat (first | exact List.Mem.head _ | apply List.Mem.tail)); done)) | (apply Reads.rows (e := true); (focus (repeat (first | exact List.Mem.head _ | apply List.Mem.tail)); done))))) (fun _ r => (by repeat (first | exact Takes.nil | exact Take.here | apply Takes.cons | apply Take.there))) ?_
            rintro _ _
            refine WA.stepGx (i := 6) (by kernel_rfl) rfl rfl rfl rfl (op_call (f23_spec k.toNat g.toNat n.toNat i.toNat c.toNat k.toNat g.toNat n.toNat i.toNat c.toNat Ao _ ((bs.drop 0).take (min m 224 - 0)).length co (min m 224 - 0) _ ((bs.drop 0).take (min m 224 - 0)) ((bs.drop 0).take (min m 224 - 0))) ca23 (by decide) rfl (by apply Give.mk; (repeat (first | exact Takes.nil | exact Take.here | apply Takes.cons | apply Take.there)); repeat (first | exact Reads.nil | (apply Reads.rd; (focus (repeat (first | exact List.Mem.head _ | apply List.Mem.tail)); done)) | (apply Reads.own; (focus (repeat (first | exact List.Mem.head _ | apply List.Mem.tail)); done)) | (apply Reads.rx; (focus (repeat (first | exact List.Mem.head _ | apply List.Mem.tail)); done)) | (apply Reads.rows (e := false); (focus (repeat (first | exact List.Mem.head _ | apply List.Mem.tail)); done)) | (apply Reads.rows (e := true); (focus (repeat (first | exact List.Mem.head _ | apply List.Mem.tail)); done))))) (fun _ r => (by repeat (first | exact Takes.nil | exact Take.here | apply Takes.cons | apply Take.there))) ?_
            rintro _ rfl
            refine WA.take (i := 7) rfl (by kernel_rfl) (fun _ _ _ h => h) rfl (op_pickT (by decide) rfl rfl) (by repeat (first | exact Takes.nil | exact Take.here | apply Takes.cons | apply Take.there)) ?_
            refine WA.take (i := 8) rfl (by kernel_rfl) (fun _ _ _ h => h) rfl (op_assign (by decide) rfl) (by repeat (first | exact Takes.nil | exact Take.here | apply Takes.cons | apply Take.there)) ?_
            refine WA.done (by kernel_rfl) ?_
            refine WX.regs (L' := [(6, _)]) (by repeat (first | exact RS.nil | refine RS.cons rfl ?_)) ?_
            refine WX.next ?_
            refine WC.ret ?_
            refine WX.then_ret ?_
            exact Fin.ret1 (by first | exact .inl rfl | exact .inr rfl) (_) (decide_eq_true ⟨rfl, rfl, rfl, rfl, rfl, rfl⟩) Try.results6 (.tmp rfl) (by repeat (first | exact Takes.nil | exact Take.here | apply Takes.cons | apply Take.there)) (by simp)
          ·
            exact absurd rfl g66
        ·
          refine WC.skip ?_
          refine WX.next ?_
          refine WC.seq ?_
          refine WC.seq ?_
          refine WC.region ?_
          refine wlv (op_move (by decide) rfl) rfl ?_
          refine wlv (op_bytesStr Try.underlying22 Try.underlying5 Try.underlying9 (by decide) rfl (by first | (apply Src.rd; (repeat (first | exact List.Mem.head _ | apply List.Mem.tail)); done) | (apply Src.own; (repeat (first | exact List.Mem.head _ | apply List.Mem.tail)); done) | (apply Src.rx; (repeat (first | exact List.Mem.head _ | apply List.Mem.tail)); done))) rfl ?_
          refine wlv (op_move (by decide) rfl) rfl ?_
          refine wlv (op_bytesStr Try.underlying22 Try.underlying5 Try.underlying9 (by decide) rfl (by first | (apply Src.rd; (repeat (first | exact List.Mem.head _ | apply List.Mem.tail)); done) | (apply Src.own; (repeat (first | exact List.Mem.head _ | apply List.Mem.tail)); done) | (apply Src.rx; (repeat (first | exact List.Mem.head _ | apply List.Mem.tail)); done))) rfl ?_
          refine wlv (op_eqls (by decide) rfl rfl) rfl ?_
          refine WL.nil ?_
          refine WX.dupr (v := .slice Aa 256 ca) (sz := 1) (m := 256) (xs := bvs (enc k.toNat g.toNat n.toNat i.toNat c.toNat ((bs.drop 0).take (min m 224 - 0)))) (by repeat (first | exact List.Mem.head _ | apply List.Mem.tail)) (rd_dropB (l := 16) (enc_length _ _ _ _ _ _) (by decide)) ?_
          refine WX.turn (c := own (.slice A2 256 c2) 5 1 256 (bvs ((enc k.toNat g.toNat n.toNat i.toNat c.toNat ((bs.drop 0).take (min m 224 - 0))).take at_.toNat ++ (enc kz.toNat gz.toNat nz.toNat iz.toNat cz.toNat ((bs2.drop 0).take (min m2 224 - 0))).drop at_.toNat))) (d := rd (.slice A2 256 c2) 1 256 (bvs ((enc k.toNat g.toNat n.toNat i.toNat c.toNat ((bs.drop 0).take (min m 224 - 0))).take at_.toNat ++ (enc kz.toNat gz.toNat nz.toNat iz.toNat cz.toNat ((bs2.drop 0).take (min m2 224 - 0))).drop at_.toNat))) (by repeat (first | exact Take.here | apply Take.there)) own_le_rd ?_
          refine WX.dupr (v := .slice A2 256 c2) (sz := 1) (m := 256) (xs := bvs ((enc k.toNat g.toNat n.toNat i.toNat c.toNat ((bs.drop 0).take (min m 224 - 0))).take at_.toNat ++ (enc kz.toNat gz.toNat nz.toNat iz.toNat cz.toNat ((bs2.drop 0).take (min m2 224 - 0))).drop at_.toNat)) (by repeat (first | exact List.Mem.head _ | apply List.Mem.tail)) (rd_dropB (l := 16) (mix_length (at_ := at_.toNat) (by omega) (enc_length _ _ _ _ _ _) (enc_length _ _ _ _ _ _)) (by decide)) ?_
          refine WX.regs (L' := [(4, _), (7, _), (9, _), (10, _), (11, _), (76, _)]) (by repeat (first | exact RS.nil | refine RS.cons rfl ?_)) ?_
          refine WX.next ?_
          refine WC.cond rfl (fun h3 => ?_) (fun h3 => ?_)
          ·
            rw [h3, dec_enc kz.toNat gz.toNat nz.toNat iz.toNat cz.toNat ((bs2.drop 0).take (min m2 224 - 0)) (by omega) (by omega) (by omega) (by omega) (by omega) (by rw [hlbz]; omega) (by rw [ekz, egz, enz, eiz, ecz, hlbz]; exact hchz)] at hdo
            obtain ⟨rfl, rfl⟩ := Prod.mk.inj hdo
            dsimp only
            refine WC.seq ?_
            refine WC.drawnH mo 999 ?_
            refine WA.take (i := 0) rfl (by kernel_rfl) (fun _ _ _ h => h) rfl (op_move (by decide) rfl) (by repeat (first | exact Takes.nil | exact Take.here | apply Takes.cons | apply Take.there)) ?_
            refine WA.take (i := 1) rfl (by kernel_rfl) (fun _ _ _ h => h) rfl (op_eql (by decide) rfl rfl) (by repeat (first | exact Takes.nil | exact Take.here | apply Takes.cons | apply Take.there)) ?_
            refine WA.take (i := 2) rfl (by kernel_rfl) (fun _ _ _ h => h) rfl (op_move (by decide) rfl) (by repeat (first | exact Takes.nil | exact Take.here | apply Takes.cons | apply Take.there)) ?_
            refine WA.split (t := 79) rfl (fun g79 => ?_) (fun g79 => ?_)
            ·
              refine WA.takeG (i := 3) rfl (by kernel_rfl) (fun _ _ _ h => h) rfl rfl rfl (op_loadAll ag25 (by decide) rfl (by repeat (first | exact List.Mem.head _ | apply List.Mem.tail)) (by first | rfl | (simp [Value.cells]; done) | (simp [Value.cells]; omega))) (by repeat (first | exact Takes.nil | exact Take.here | apply Takes.cons | apply Take.there)) ?_
              refine WA.takeG (i := 5) rfl (by kernel_rfl) (fun _ _ _ h => h) rfl rfl rfl (op_loadAll ag24 (by decide) rfl (by repeat (first | exact List.Mem.head _ | apply List.Mem.tail)) (by first | rfl | (simp [Value.cells]; done) | (simp [Value.cells]; omega))) (by repeat (first | exact Takes.nil | exact Take.here | apply Takes.cons | apply Take.there)) ?_
              refine WA.stepGx (i := 4) (by kernel_rfl) rfl rfl rfl rfl (op_call (f16_spec _ _ _ _ _ Ao _ co) ca16 (by decide) rfl (by apply Give.mk; (repeat (first | exact Takes.nil | exact Take.here | apply Takes.cons | apply Take.there)); repeat (first | exact Reads.nil | (apply Reads.rd; (focus (repeat (first | exact List.Mem.head _ | apply List.Mem.tail)); done)) | (apply Reads.own; (focus (repeat (first | exact List.Mem.head _ | apply List.Mem.tail)); done)) | (apply Reads.rx; (focus (repeat (first | exact List.Mem.head _ | apply List.Mem.tail)); done)) | (apply Reads.rows (e := false); (focus (repeat (first | exact List.Mem.head _ | apply List.Mem.tail)); done)) | (apply Reads.rows (e := true); (focus (repeat (first | exact List.Mem.head _ | apply List.Mem.tail)); done))))) (fun _ r => (by repeat (first | exact Takes.nil | exact Take.here | apply Takes.cons | apply Take.there))) ?_
              rintro _ _
              refine WA.stepGx (i := 6) (by kernel_rfl) rfl rfl rfl rfl (op_call (f23_spec kz.toNat gz.toNat nz.toNat iz.toNat cz.toNat kz.toNat gz.toNat nz.toNat iz.toNat cz.toNat Ao _ ((bs2.drop 0).take (min m2 224 - 0)).length co (min m2 224 - 0) _ ((bs2.drop 0).take (min m2 224 - 0)) ((bs2.drop 0).take (min m2 224 - 0))) ca23 (by decide) rfl (by apply Give.mk; (repeat (first | exact Takes.nil | exact Take.here | apply Takes.cons | apply Take.there)); repeat (first | exact Reads.nil | (apply Reads.rd; (focus (repeat (first | exact List.Mem.head _ | apply List.Mem.tail)); done)) | (apply Reads.own; (focus (repeat (first | exact List.Mem.head _ | apply List.Mem.tail)); done)) | (apply Reads.rx; (focus (repeat (first | exact List.Mem.head _ | apply List.Mem.tail)); done)) | (apply Reads.rows (e := false); (focus (repeat (first | exact List.Mem.head _ | apply List.Mem.tail)); done)) | (apply Reads.rows (e := true); (focus (repeat (first | exact List.Mem.head _ | apply List.Mem.tail)); done))))) (fun _ r => (by repeat (first | exact Takes.nil | exact Take.here | apply Takes.cons | apply Take.there))) ?_
              rintro _ rfl
              refine WA.take (i := 7) rfl (by kernel_rfl) (fun _ _ _ h => h) rfl (op_pickT (by decide) rfl rfl) (by repeat (first | exact Takes.nil | exact Take.here | apply Takes.cons | apply Take.there)) ?_
              refine WA.take (i := 8) rfl (by kernel_rfl) (fun _ _ _ h => h) rfl (op_assign (by decide) rfl) (by repeat (first | exact Takes.nil | exact Take.here | apply Takes.cons | apply Take.there)) ?_
              refine WA.done (by kernel_rfl) ?_
              refine WX.regs (L' := [(6, _)]) (by repeat (first | exact RS.nil | refine RS.cons rfl ?_)) ?_
              refine WX.next ?_
              refine WC.ret ?_
              refine WX.then_ret ?_
              exact Fin.ret1 (by first | exact .inl rfl | exact .inr rfl) (_) (decide_eq_true ⟨rfl, rfl, rfl, rfl, rfl, rfl⟩) Try.results6 (.tmp rfl) (by repeat (first | exact Takes.nil | exact Take.here | apply Takes.cons | apply Take.there)) (by simp)
            ·
              exact absurd rfl g79
          ·
            have htm := torn (a := (enc k.toNat g.toNat n.toNat i.toNat c.toNat ((bs.drop 0).take (min m 224 - 0)))) (b := (enc kz.toNat gz.toNat nz.toNat iz.toNat cz.toNat ((bs2.drop 0).take (min m2 224 - 0)))) at_.toNat (by omega) (enc_length _ _ _ _ _ _) (enc_length _ _ _ _ _ _) (enc_sum _ _ _ _ _ _) (enc_sum _ _ _ _ _ _) h2 h3
            rw [← hdo] at htm
            dsimp only at htm
            refine WC.skip ?_
            refine WX.next ?_
            refine WC.seq ?_
            refine WC.drawnH mo 999 ?_
            refine WA.take (i := 0) rfl (by kernel_rfl) (fun _ _ _ h => h) rfl (op_move (by decide) rfl) (by repeat (first | exact Takes.nil | exact Take.here | apply Takes.cons | apply Take.there)) ?_
            refine WA.take (i := 1) rfl (by kernel_rfl) (fun _ _ _ h => h) rfl (op_eql (by decide) rfl rfl) (by repeat (first | exact Takes.nil | exact Take.here | apply Takes.cons | apply Take.there)) ?_
            refine WA.take (i := 2) rfl (by kernel_rfl) (fun _ _ _ h => h) rfl (op_move (by decide) rfl) (by repeat (first | exact Takes.nil | exact Take.here | apply Takes.cons | apply Take.there)) ?_
            refine WA.split (t := 87) rfl (fun g87 => ?_) (fun g87 => ?_)
            ·
              refine WA.skipG (i := 3) rfl (by kernel_rfl) (fun _ _ _ h => h) rfl rfl rfl (by first | exact .inl rfl | exact .inr rfl) rfl (by decide) (by repeat (first | exact Takes.nil | exact Take.here | apply Takes.cons | apply Take.there)) ?_
              refine WA.skipG (i := 4) rfl (by kernel_rfl) (fun _ _ _ h => h) rfl rfl rfl (by first | exact .inl rfl | exact .inr rfl) rfl (by decide) (by repeat (first | exact Takes.nil | exact Take.here | apply Takes.cons | apply Take.there)) ?_
              refine WA.skipG (i := 5) rfl (by kernel_rfl) (fun _ _ _ h => h) rfl rfl rfl (by first | exact .inl rfl | exact .inr rfl) rfl (by decide) (by repeat (first | exact Takes.nil | exact Take.here | apply Takes.cons | apply Take.there)) ?_
              refine WA.skipG (i := 6) rfl (by kernel_rfl) (fun _ _ _ h => h) rfl rfl rfl (by first | exact .inl rfl | exact .inr rfl) rfl (by decide) (by repeat (first | exact Takes.nil | exact Take.here | apply Takes.cons | apply Take.there)) ?_
              refine WA.skipG (i := 7) rfl (by kernel_rfl) (fun _ _ _ h => h) rfl rfl rfl (by first | exact .inl rfl | exact .inr rfl) rfl (by decide) (by repeat (first | exact Takes.nil | exact Take.here | apply Takes.cons | apply Take.there)) ?_
              refine WA.take (i := 8) rfl (by kernel_rfl) (fun _ _ _ h => h) rfl (op_pickT (by decide) rfl rfl) (by repeat (first | exact Takes.nil | exact Take.here | apply Takes.cons | apply Take.there)) ?_
              refine WA.take (i := 9) rfl (by kernel_rfl) (fun _ _ _ h => h) rfl (op_assign (by decide) rfl) (by repeat (first | exact Takes.nil | exact Take.here | apply Takes.cons | apply Take.there)) ?_
              refine WA.done (by kernel_rfl) ?_
              refine WX.regs (L' := [(6, _)]) (by repeat (first | exact RS.nil | refine RS.cons rfl ?_)) ?_
              refine WX.next ?_
              refine WC.ret ?_
              exact Fin.ret1 (by first | exact .inl rfl | exact .inr rfl) (_) (by first | rfl | exact decide_eq_true (htm.resolve_left g87)) Try.results6 (.tmp rfl) (by repeat (first | exact Takes.nil | exact Take.here | apply Takes.cons | apply Take.there)) (by simp)
            ·
              refine WA.takeG (i := 3) rfl (by kernel_rfl) (fun _ _ _ h => h) rfl rfl rfl (op_move (by decide) rfl) (by repeat (first | exact Takes.nil | exact Take.here | apply Takes.cons | apply Take.there)) ?_
              refine WA.takeG (i := 4) rfl (by kernel_rfl) (fun _ _ _ h => h) rfl rfl rfl (op_slice_l Try.underlying22 sz5 (by decide) rfl rfl (by omega) (by omega)) (by repeat (first | exact Takes.nil | exact Take.here | apply Takes.cons | apply Take.there)) ?_
              refine WA.takeG (i := 5) rfl (by kernel_rfl) (fun _ _ _ h => h) rfl rfl rfl (op_move (by decide) rfl) (by repeat (first | exact Takes.nil | exact Take.here | apply Takes.cons | apply Take.there)) ?_
              refine WA.takeG (i := 6) rfl (by kernel_rfl) (fun _ _ _ h => h) rfl rfl rfl (op_slice_l Try.underlying22 sz5 (by decide) rfl rfl (by omega) (by omega)) (by repeat (first | exact Takes.nil | exact Take.here | apply Takes.cons | apply Take.there)) ?_
              refine WA.stepGx (i := 7) (by kernel_rfl) rfl rfl rfl rfl (op_call (f26_spec _ _ 240 _ 240 _ ((enc k.toNat g.toNat n.toNat i.toNat c.toNat ((bs.drop 0).take (min m 224 - 0))).drop 16) (((enc k.toNat g.toNat n.toNat i.toNat c.toNat ((bs.drop 0).take (min m 224 - 0))).take at_.toNat ++ (enc kz.toNat gz.toNat nz.toNat iz.toNat cz.toNat ((bs2.drop 0).take (min m2 224 - 0))).drop at_.toNat).drop 16) (by simp [enc_length]) (by rw [List.length_drop, mix_length (at_ := at_.toNat) (by omega) (enc_length _ _ _ _ _ _) (enc_length _ _ _ _ _ _)]) (by decide) (by decide)) ca26 (by decide) rfl (by apply Give.mk; (repeat (first | exact Takes.nil | exact Take.here | apply Takes.cons | apply Take.there)); repeat (first | exact Reads.nil | (apply Reads.rd; (focus (repeat (first | exact List.Mem.head _ | apply List.Mem.tail)); done)) | (apply Reads.own; (focus (repeat (first | exact List.Mem.head _ | apply List.Mem.tail)); done)) | (apply Reads.rx; (focus (repeat (first | exact List.Mem.head _ | apply List.Mem.tail)); done)) | (apply Reads.rows (e := false); (focus (repeat (first | exact List.Mem.head _ | apply List.Mem.tail)); done)) | (apply Reads.rows (e := true); (focus (repeat (first | exact List.Mem.head _ | apply List.Mem.tail)); done))))) (fun _ r => (by repeat (first | exact Takes.nil | exact Take.here | apply Takes.cons | apply Take.there))) ?_
              rintro _ rfl
              refine WA.take (i := 8) rfl (by kernel_rfl) (fun _ _ _ h => h) rfl (op_pickF (by decide) rfl rfl) (by repeat (first | exact Takes.nil | exact Take.here | apply Takes.cons | apply Take.there)) ?_
              refine WA.take (i := 9) rfl (by kernel_rfl) (fun _ _ _ h => h) rfl (op_assign (by decide) rfl) (by repeat (first | exact Takes.nil | exact Take.here | apply Takes.cons | apply Take.there)) ?_
              refine WA.done (by kernel_rfl) ?_
              refine WX.regs (L' := [(6, _)]) (by repeat (first | exact RS.nil | refine RS.cons rfl ?_)) ?_
              refine WX.next ?_
              refine WC.ret ?_
              exact Fin.ret1 (by first | exact .inl rfl | exact .inr rfl) (_) (by first | rfl | exact decide_eq_true (htm.resolve_left g87)) Try.results6 (.tmp rfl) (by repeat (first | exact Takes.nil | exact Take.here | apply Takes.cons | apply Take.there)) (by simp)
  have st111000011111110000 : ∀ (_u : Unit), W 8 #[true, true, true, false, false, false, false, true, true, true, true, true, true, true, false, false, false, false] 94 [(2, bv at_), (3, .pointer (some ⟨b1, 0, none⟩)), (4, .pointer (some ⟨b2, 0, none⟩)), (13, .slice A m e), (14, .pointer (some ⟨b1, 5, none⟩)), (25, sliced B 0 (min m2 224) e2 1)] [blk b2 (pcells kz gz nz iz cz (.slice B m2 e2)) 24, blk b1 (pcells k g n i c (.slice A m e)) 24, rd (sliced B 0 (min m2 224) e2 1) 1 (min m2 224 - 0) (bvs ((bs2.drop 0).take (min m2 224 - 0))), rd (sliced A 0 (min m 224) e 1) 1 (min m 224 - 0) (bvs ((bs.drop 0).take (min m 224 - 0))), rd (.slice A m e) 1 m (bvs bs), rd (.slice B m2 e2) 1 m2 (bvs bs2), frameC w0 (MutF [])] := by
    intro _u
    subst hW
    refine WA.pick (l := [3]) (by kernel_rfl) rfl (fun i hi => ?_)
    simp only [List.mem_cons, List.not_mem_nil, or_false] at hi
    subst hi
    ·
      refine WA.onev rfl rfl (op_load1 fl22 (by decide) rfl (by repeat (first | exact List.Mem.head _ | apply List.Mem.tail)) rfl) (fun _ => (by repeat (first | exact Takes.nil | exact Take.here | apply Takes.cons | apply Take.there))) ?_
      exact WA.conv (by first | rfl | kernel_rfl) (by repeat (first | exact RS.nil | refine RS.cons rfl ?_)) (by repeat (first | exact Takes.nil | exact Take.here | apply Takes.cons | apply Take.there)) (st111100011111110000 ())
  have st111111011111110000 : ∀ (_u : Unit), W 5 #[true, true, true, true, true, true, false, true, true, true, true, true, true, true, false, false, false, false] 94 [(2, bv at_), (3, .pointer (some ⟨b1, 0, none⟩)), (4, .pointer (some ⟨b2, 0, none⟩)), (13, .slice A m e), (17, .int .i64 ((min m 224 : Nat) : Int)), (25, sliced B 0 (min m2 224) e2 1)] [blk b2 (pcells kz gz nz iz cz (.slice B m2 e2)) 24, blk b1 (pcells k g n i c (.slice A m e)) 24, rd (sliced B 0 (min m2 224) e2 1) 1 (min m2 224 - 0) (bvs ((bs2.drop 0).take (min m2 224 - 0))), rd (sliced A 0 (min m 224) e 1) 1 (min m 224 - 0) (bvs ((bs.drop 0).take (min m 224 - 0))), rd (.slice A m e) 1 m (bvs bs), rd (.slice B m2 e2) 1 m2 (bvs bs2), frameC w0 (MutF [])] := by
    intro _u
    subst hW
    refine WA.take (i := 6) rfl (by kernel_rfl) (fun _ _ _ h => h) rfl (op_slice_h Try.underlying22 sz5 (by decide) rfl rfl (by omega) (by omega)) (by repeat (first | exact Takes.nil | exact Take.here | apply Takes.cons | apply Take.there)) ?_
    refine WA.take (i := 14) rfl (by kernel_rfl) (fun _ _ _ h => h) rfl (op_fieldAddr fo24_5 (by decide) rfl) (by repeat (first | exact Takes.nil | exact Take.here | apply Takes.cons | apply Take.there)) ?_
    refine WA.stepo (i := 15) (by kernel_rfl) rfl rfl (op_store sz22 rfl rfl (by repeat (first | exact Take.here | apply Take.there)) (by first | rfl | (simp [Value.cells]; done) | (simp [Value.cells]; omega)) (by first | rfl | exact wvs_one _ | exact bvs_one _) (by first | exact Nat.le_of_ble_eq_true rfl | (simp; omega))) (fun _ => (by repeat (first | exact Takes.nil | exact Take.here | apply Takes.cons | apply Take.there))) ?_
    refine WA.take (i := 16) rfl (by kernel_rfl) (fun _ _ _ h => h) rfl (op_fieldAddr fo24_5 (by decide) rfl) (by repeat (first | exact Takes.nil | exact Take.here | apply Takes.cons | apply Take.there)) ?_
    refine WA.stepo (G := []) (i := 17) (by kernel_rfl) rfl rfl (op_store sz22 rfl rfl (by repeat (first | exact Take.here | apply Take.there)) (by first | rfl | (simp [Value.cells]; done) | (simp [Value.cells]; omega)) (by first | rfl | exact wvs_one _ | exact bvs_one _) (by first | exact Nat.le_of_ble_eq_true rfl | (simp; omega))) (fun h => absurd rfl h) ?_
    refine WA.done (by kernel_rfl) ?_
    refine WX.blkEq (b := b1) (pcells k g n i c (sliced A 0 (min m 224) e 1)) (by repeat (first | exact Take.here | apply Take.there)) (by rfl) ?_
    refine WX.blkEq (b := b2) (pcells kz gz nz iz cz (sliced B 0 (min m2 224) e2 1)) (by repeat (first | exact Take.here | apply Take.there)) (by rfl) ?_
    refine WX.regs (L' := [(2, _), (3, _), (4, _)]) (by repeat (first | exact RS.nil | refine RS.cons rfl ?_)) ?_
    refine WX.next ?_
    refine WC.seq ?_
    refine WC.seq ?_
    refine WC.region ?_
    refine wlx (op_call (f18_spec) ca18 (by decide) rfl (by apply Give.mk; (repeat (first | exact Takes.nil | exact Take.here | apply Takes.cons | apply Take.there)); repeat (first | exact Reads.nil | (apply Reads.rd; (focus (repeat (first | exact List.Mem.head _ | apply List.Mem.tail)); done)) | (apply Reads.own; (focus (repeat (first | exact List.Mem.head _ | apply List.Mem.tail)); done)) | (apply Reads.rx; (focus (repeat (first | exact List.Mem.head _ | apply List.Mem.tail)); done)) | (apply Reads.rows (e := false); (focus (repeat (first | exact List.Mem.head _ | apply List.Mem.tail)); done)) | (apply Reads.rows (e := true); (focus (repeat (first | exact List.Mem.head _ | apply List.Mem.tail)); done))))) rfl ?_
    rintro _ _
    refine wlv (op_not (by decide) rfl) rfl ?_
    refine wlv (op_move (by decide) rfl) rfl ?_
    refine wlgv (op_loadAll ag24 (by decide) rfl (by repeat (first | exact List.Mem.head _ | apply List.Mem.tail)) (by first | rfl | (simp [Value.cells]; done) | (simp [Value.cells]; omega))) rfl rfl rfl ?_
    refine wlgx (op_call (f20_spec _ _ _ _ _ _ (min m 224 - 0) _) ca20 (by decide) rfl (by apply Give.mk; (repeat (first | exact Takes.nil | exact Take.here | apply Takes.cons | apply Take.there)); repeat (first | exact Reads.nil | (apply Reads.rd; (focus (repeat (first | exact List.Mem.head _ | apply List.Mem.tail)); done)) | (apply Reads.own; (focus (repeat (first | exact List.Mem.head _ | apply List.Mem.tail)); done)) | (apply Reads.rx; (focus (repeat (first | exact List.Mem.head _ | apply List.Mem.tail)); done)) | (apply Reads.rows (e := false); (focus (repeat (first | exact List.Mem.head _ | apply List.Mem.tail)); done)) | (apply Reads.rows (e := true); (focus (repeat (first | exact List.Mem.head _ | apply List.Mem.tail)); done))))) rfl rfl rfl ?_
    rintro _ rfl
    refine wlgv (op_neq (by decide) rfl rfl) rfl rfl rfl ?_
    refine wlv (op_pickF (by decide) rfl rfl) rfl ?_
    refine wlv (op_move (by decide) rfl) rfl ?_
    refine WL.split (t := 35) rfl (fun g35 => ?_) (fun g35 => ?_)
    ·
      refine wlg_no rfl rfl rfl rfl rfl (by decide) ?_
      refine wlg_no rfl rfl rfl rfl rfl (by decide) ?_
      refine wlg_no rfl rfl rfl rfl rfl (by decide) ?_
      refine wlv (op_pickT (by decide) rfl rfl) rfl ?_
      refine WL.nil ?_
      refine WX.regs (L' := [(2, _), (3, _), (4, _), (39, _)]) (by repeat (first | exact RS.nil | refine RS.cons rfl ?_)) ?_
      refine WX.next ?_
      refine WC.condT rfl ?_
      refine WC.seq ?_
      refine WC.region ?_
      refine wlx (op_call (f18_spec) ca18 (by decide) rfl (by apply Give.mk; (repeat (first | exact Takes.nil | exact Take.here | apply Takes.cons | apply Take.there)); repeat (first | exact Reads.nil | (apply Reads.rd; (focus (repeat (first | exact List.Mem.head _ | apply List.Mem.tail)); done)) | (apply Reads.own; (focus (repeat (first | exact List.Mem.head _ | apply List.Mem.tail)); done)) | (apply Reads.rx; (focus (repeat (first | exact List.Mem.head _ | apply List.Mem.tail)); done)) | (apply Reads.rows (e := false); (focus (repeat (first | exact List.Mem.head _ | apply List.Mem.tail)); done)) | (apply Reads.rows (e := true); (focus (repeat (first | exact List.Mem.head _ | apply List.Mem.tail)); done))))) rfl ?_
      rintro _ _
      refine wlv (op_assign (by decide) rfl) rfl ?_
      refine WL.nil ?_
      refine WX.regs (L' := [(6, _)]) (by repeat (first | exact RS.nil | refine RS.cons rfl ?_)) ?_
      refine WX.next ?_
      refine WC.ret ?_
      refine WX.then_ret ?_
      exact Fin.ret1 (by first | exact .inl rfl | exact .inr rfl) (_) (rfl) Try.results6 (.tmp rfl) (by repeat (first | exact Takes.nil | exact Take.here | apply Takes.cons | apply Take.there)) (by simp)
    ·
      refine wlgv (op_loadAll ag24 (by decide) rfl (by repeat (first | exact List.Mem.head _ | apply List.Mem.tail)) (by first | rfl | (simp [Value.cells]; done) | (simp [Value.cells]; omega))) rfl rfl rfl ?_
      refine wlgx (op_call (f20_spec _ _ _ _ _ _ (min m2 224 - 0) _) ca20 (by decide) rfl (by apply Give.mk; (repeat (first | exact Takes.nil | exact Take.here | apply Takes.cons | apply Take.there)); repeat (first | exact Reads.nil | (apply Reads.rd; (focus (repeat (first | exact List.Mem.head _ | apply List.Mem.tail)); done)) | (apply Reads.own; (focus (repeat (first | exact List.Mem.head _ | apply List.Mem.tail)); done)) | (apply Reads.rx; (focus (repeat (first | exact List.Mem.head _ | apply List.Mem.tail)); done)) | (apply Reads.rows (e := false); (focus (repeat (first | exact List.Mem.head _ | apply List.Mem.tail)); done)) | (apply Reads.rows (e := true); (focus (repeat (first | exact List.Mem.head _ | apply List.Mem.tail)); done))))) rfl rfl rfl ?_
      rintro _ rfl
      refine wlgv (op_neq (by decide) rfl rfl) rfl rfl rfl ?_
      refine wlv (op_pickF (by decide) rfl rfl) rfl ?_
      refine WL.nil ?_
      refine WX.regs (L' := [(2, _), (3, _), (4, _), (39, _)]) (by repeat (first | exact RS.nil | refine RS.cons rfl ?_)) ?_
      refine WX.next ?_
      refine WC.cond rfl (fun h1 => ?_) (fun h1 => ?_)
      ·
        refine WC.seq ?_
        refine WC.region ?_
        refine wlx (op_call (f18_spec) ca18 (by decide) rfl (by apply Give.mk; (repeat (first | exact Takes.nil | exact Take.here | apply Takes.cons | apply Take.there)); repeat (first | exact Reads.nil | (apply Reads.rd; (focus (repeat (first | exact List.Mem.head _ | apply List.Mem.tail)); done)) | (apply Reads.own; (focus (repeat (first | exact List.Mem.head _ | apply List.Mem.tail)); done)) | (apply Reads.rx; (focus (repeat (first | exact List.Mem.head _ | apply List.Mem.tail)); done)) | (apply Reads.rows (e := false); (focus (repeat (first | exact List.Mem.head _ | apply List.Mem.tail)); done)) | (apply Reads.rows (e := true); (focus (repeat (first | exact List.Mem.head _ | apply List.Mem.tail)); done))))) rfl ?_
        rintro _ _
        refine wlv (op_assign (by decide) rfl) rfl ?_
        refine WL.nil ?_
        refine WX.regs (L' := [(6, _)]) (by repeat (first | exact RS.nil | refine RS.cons rfl ?_)) ?_
        refine WX.next ?_
        refine WC.ret ?_
        refine WX.then_ret ?_
        exact Fin.ret1 (by first | exact .inl rfl | exact .inr rfl) (_) (rfl) Try.results6 (.tmp rfl) (by repeat (first | exact Takes.nil | exact Take.here | apply Takes.cons | apply Take.there)) (by simp)
      ·
        refine WC.skip ?_
        refine WX.next ?_
        refine WC.seq ?_
        refine WC.drawnH mo 999 ?_
        have hch := Decidable.not_not.1 g35
        obtain ⟨hf, hcl, hcu, hil, hiu, hb⟩ := chk_ok hch
        simp only [fineP] at hf
        have ek : ((k.toNat : Nat) : Int) = k := Int.toNat_of_nonneg (by omega)
        have eg : ((g.toNat : Nat) : Int) = g := Int.toNat_of_nonneg (by omega)
        have en : ((n.toNat : Nat) : Int) = n := Int.toNat_of_nonneg (by omega)
        have ei : ((i.toNat : Nat) : Int) = i := Int.toNat_of_nonneg (by omega)
        have ec : ((c.toNat : Nat) : Int) = c := Int.toNat_of_nonneg (by omega)
        have hchz := Decidable.not_not.1 h1
        obtain ⟨hfz, hclz, hcuz, hilz, hiuz, hbz⟩ := chk_ok hchz
        simp only [fineP] at hfz
        have ekz : ((kz.toNat : Nat) : Int) = kz := Int.toNat_of_nonneg (by omega)
        have egz : ((gz.toNat : Nat) : Int) = gz := Int.toNat_of_nonneg (by omega)
        have enz : ((nz.toNat : Nat) : Int) = nz := Int.toNat_of_nonneg (by omega)
        have eiz : ((iz.toNat : Nat) : Int) = iz := Int.toNat_of_nonneg (by omega)
        have ecz : ((cz.toNat : Nat) : Int) = cz := Int.toNat_of_nonneg (by omega)
        refine WA.take (i := 0) rfl (by kernel_rfl) (fun _ _ _ h => h) rfl (op_loadAll ag24 (by decide) rfl (by repeat (first | exact List.Mem.head _ | apply List.Mem.tail)) (by first | rfl | (simp [Value.cells]; done) | (simp [Value.cells]; omega))) (by repeat (first | exact Takes.nil | exact Take.here | apply Takes.cons | apply Take.there)) ?_
        rw [show ((pcells k g n i c (sliced A 0 (min m 224) e 1)) : List Value) = pcells (k.toNat : Nat) (g.toNat : Nat) (n.toNat : Nat) (i.toNat : Nat) (c.toNat : Nat) (sliced A 0 (min m 224) e 1) by rw [ek, eg, en, ei, ec]]
        refine WA.take (i := 2) rfl (by kernel_rfl) (fun _ _ _ h => h) rfl (op_loadAll ag24 (by decide) rfl (by repeat (first | exact List.Mem.head _ | apply List.Mem.tail)) (by first | rfl | (simp [Value.cells]; done) | (simp [Value.cells]; omega))) (by repeat (first | exact Takes.nil | exact Take.here | apply Takes.cons | apply Take.there)) ?_
        rw [show ((pcells kz gz nz iz cz (sliced B 0 (min m2 224) e2 1)) : List Value) = pcells (kz.toNat : Nat) (gz.toNat : Nat) (nz.toNat : Nat) (iz.toNat : Nat) (cz.toNat : Nat) (sliced B 0 (min m2 224) e2 1) by rw [ekz, egz, enz, eiz, ecz]]
        refine WA.stepx (i := 1) (by kernel_rfl) rfl rfl (op_call (f22_spec k.toNat g.toNat n.toNat i.toNat c.toNat _ (min m 224 - 0) _ ((bs.drop 0).take (min m 224 - 0)) (by simp only [List.length_take, List.length_drop]; omega) (by omega) (by omega) (by omega) (by omega) (by omega) (by omega)) ca22 (by decide) rfl (by apply Give.mk; (repeat (first | exact Takes.nil | exact Take.here | apply Takes.cons | apply Take.there)); repeat (first | exact Reads.nil | (apply Reads.rd; (focus (repeat (first | exact List.Mem.head _ | apply List.Mem.tail)); done)) | (apply Reads.own; (focus (repeat (first | exact List.Mem.head _ | apply List.Mem.tail)); done)) | (apply Reads.rx; (focus (repeat (first | exact List.Mem.head _ | apply List.Mem.tail)); done)) | (apply Reads.rows (e := false); (focus (repeat (first | exact List.Mem.head _ | apply List.Mem.tail)); done)) | (apply Reads.rows (e := true); (focus (repeat (first | exact List.Mem.head _ | apply List.Mem.tail)); done))))) (fun _ r => (by repeat (first | exact Takes.nil | exact Take.here | apply Takes.cons | apply Take.there))) ?_
        rintro ⟨Aa, ca⟩ _
        refine WA.stepx (i := 3) (by kernel_rfl) rfl rfl (op_call (f22_spec kz.toNat gz.toNat nz.toNat iz.toNat cz.toNat _ (min m2 224 - 0) _ ((bs2.drop 0).take (min m2 224 - 0)) (by simp only [List.length_take, List.length_drop]; omega) (by omega) (by omega) (by omega) (by omega) (by omega) (by omega)) ca22 (by decide) rfl (by apply Give.mk; (repeat (first | exact Takes.nil | exact Take.here | apply Takes.cons | apply Take.there)); repeat (first | exact Reads.nil | (apply Reads.rd; (focus (repeat (first | exact List.Mem.head _ | apply List.Mem.tail)); done)) | (apply Reads.own; (focus (repeat (first | exact List.Mem.head _ | apply List.Mem.tail)); done)) | (apply Reads.rx; (focus (repeat (first | exact List.Mem.head _ | apply List.Mem.tail)); done)) | (apply Reads.rows (e := false); (focus (repeat (first | exact List.Mem.head _ | apply List.Mem.tail)); done)) | (apply Reads.rows (e := true); (focus (repeat (first | exact List.Mem.head _ | apply List.Mem.tail)); done))))) (fun _ r => (by repeat (first | exact Takes.nil | exact Take.here | apply Takes.cons | apply Take.there))) ?_
        rintro ⟨Ab, cb⟩ _
        refine WA.take (i := 4) rfl (by kernel_rfl) (fun _ _ _ h => h) rfl (op_assign (by decide) rfl) (by repeat (first | exact Takes.nil | exact Take.here | apply Takes.cons | apply Take.there)) ?_
        refine WA.take (i := 5) rfl (by kernel_rfl) (fun _ _ _ h => h) rfl (op_assign (by decide) rfl) (by repeat (first | exact Takes.nil | exact Take.here | apply Takes.cons | apply Take.there)) ?_
        refine WA.done (by kernel_rfl) ?_
        refine WX.turn (c := own (.slice Aa 256 ca) 5 1 256 (bvs (enc k.toNat g.toNat n.toNat i.toNat c.toNat ((bs.drop 0).take (min m 224 - 0))))) (d := rd (.slice Aa 256 ca) 1 256 (bvs (enc k.toNat g.toNat n.toNat i.toNat c.toNat ((bs.drop 0).take (min m 224 - 0))))) (by repeat (first | exact Take.here | apply Take.there)) own_le_rd ?_
        refine WX.turn (c := own (.slice Ab 256 cb) 5 1 256 (bvs (enc kz.toNat gz.toNat nz.toNat iz.toNat cz.toNat ((bs2.drop 0).take (min m2 224 - 0))))) (d := rd (.slice Ab 256 cb) 1 256 (bvs (enc kz.toNat gz.toNat nz.toNat iz.toNat cz.toNat ((bs2.drop 0).take (min m2 224 - 0))))) (by repeat (first | exact Take.here | apply Take.there)) own_le_rd ?_
        refine WX.capx (A := Aa) (m := 256) (c := ca) (Src.rd (xs := bvs (enc k.toNat g.toNat n.toNat i.toNat c.toNat ((bs.drop 0).take (min m 224 - 0)))) (by repeat (first | exact List.Mem.head _ | apply List.Mem.tail))) (fun hca => ?_)
        refine WX.dupr (v := .slice Aa 256 ca) (sz := 1) (m := 256) (xs := bvs (enc k.toNat g.toNat n.toNat i.toNat c.toNat ((bs.drop 0).take (min m 224 - 0)))) (by repeat (first | exact List.Mem.head _ | apply List.Mem.tail)) (rd_subB (l := 0) (h := at_.toNat) (Nat.zero_le _) (by omega)) ?_
        refine WX.dupr (v := .slice Ab 256 cb) (sz := 1) (m := 256) (xs := bvs (enc kz.toNat gz.toNat nz.toNat iz.toNat cz.toNat ((bs2.drop 0).take (min m2 224 - 0)))) (by repeat (first | exact List.Mem.head _ | apply List.Mem.tail)) (rd_dropB (l := at_.toNat) (enc_length _ _ _ _ _ _) (by omega)) ?_
        refine WX.regs (L' := [(2, _), (3, _), (4, _), (7, _), (8, _)]) (by repeat (first | exact RS.nil | refine RS.cons rfl ?_)) ?_
        refine WX.next ?_
        refine WC.seq ?_
        refine WC.drawn (Hs := []) mo 999 ?_
        refine WA.take (i := 1) rfl (by kernel_rfl) (fun _ _ _ h => h) rfl (op_move (by decide) rfl) (by repeat (first | exact Takes.nil | exact Take.here | apply Takes.cons | apply Take.there)) ?_
        refine WA.take (i := 2) rfl (by kernel_rfl) (fun _ _ _ h => h) rfl (op_move (by decide) rfl) (by repeat (first | exact Takes.nil | exact Take.here | apply Takes.cons | apply Take.there)) ?_
        refine WA.take (i := 3) rfl (by kernel_rfl) (fun _ _ _ h => h) rfl (op_slice_h Try.underlying22 sz5 (by decide) rfl rfl (by omega) (by omega)) (by repeat (first | exact Takes.nil | exact Take.here | apply Takes.cons | apply Take.there)) ?_
        refine WA.take (i := 5) rfl (by kernel_rfl) (fun _ _ _ h => h) rfl (op_move (by decide) rfl) (by repeat (first | exact Takes.nil | exact Take.here | apply Takes.cons | apply Take.there)) ?_
        refine WA.take (i := 6) rfl (by kernel_rfl) (fun _ _ _ h => h) rfl (op_move (by decide) rfl) (by repeat (first | exact Takes.nil | exact Take.here | apply Takes.cons | apply Take.there)) ?_
        refine WA.take (i := 7) rfl (by kernel_rfl) (fun _ _ _ h => h) rfl (op_slice_l Try.underlying22 sz5 (by decide) rfl rfl (by omega) (by omega)) (by repeat (first | exact Takes.nil | exact Take.here | apply Takes.cons | apply Take.there)) ?_
        refine WA.step1 (i := 0) (by kernel_rfl) rfl rfl (op_lit0 Try.underlying22 ti5 (by decide)) (fun _ b => (by repeat (first | exact Takes.nil | exact Take.here | apply Takes.cons | apply Take.there))) fun b3 => ?_
        refine WA.step2 (i := 4) (by kernel_rfl) rfl rfl (op_append0 Try.underlying22 ti5 rfl (by decide) (by decide) rfl rfl (by repeat (first | exact Take.here | apply Take.there)) (by first | (apply Src.rd; (repeat (first | exact List.Mem.head _ | apply List.Mem.tail)); done) | (apply Src.own; (repeat (first | exact List.Mem.head _ | apply List.Mem.tail)); done) | (apply Src.rx; (repeat (first | exact List.Mem.head _ | apply List.Mem.tail)); done)) (by first | rfl | exact wvs_one _ | exact bvs_one _) (by omega) (by omega)) (fun _ A c => (by repeat (first | exact Takes.nil | exact Take.here | apply Takes.cons | apply Take.there))) fun A1 c1 => ?_
        refine WA.step2 (i := 8) (by kernel_rfl) rfl rfl (op_append Try.underlying22 ti5 rfl (by decide) (by decide) rfl rfl (by repeat (first | exact Take.here | apply Take.there)) (by first | (apply Src.rd; (repeat (first | exact List.Mem.head _ | apply List.Mem.tail)); done) | (apply Src.own; (repeat (first | exact List.Mem.head _ | apply List.Mem.tail)); done) | (apply Src.rx; (repeat (first | exact List.Mem.head _ | apply List.Mem.tail)); done)) (by first | rfl | exact wvs_one _ | exact bvs_one _) (by omega) (by omega)) (fun _ A c => (by repeat (first | exact Takes.nil | exact Take.here | apply Takes.cons | apply Take.there))) fun A2 c2 => ?_
        refine WA.take (i := 9) rfl (by kernel_rfl) (fun _ _ _ h => h) rfl (op_assign (by decide) rfl) (by repeat (first | exact Takes.nil | exact Take.here | apply Takes.cons | apply Take.there)) ?_
        refine WA.done (by kernel_rfl) ?_
        rw [show ((at_.toNat : Nat) : Int).toNat - 0 + (256 - ((at_.toNat : Nat) : Int).toNat) = 256 by omega]
        refine WX.ownEq (v := .slice A2 256 c2) (bvs ((enc k.toNat g.toNat n.toNat i.toNat c.toNat ((bs.drop 0).take (min m 224 - 0))).take at_.toNat ++ (enc kz.toNat gz.toNat nz.toNat iz.toNat cz.toNat ((bs2.drop 0).take (min m2 224 - 0))).drop at_.toNat)) (by repeat (first | exact Take.here | apply Take.there)) (bvs_append _ _).symm ?_
        refine WX.regs (L' := [(3, _), (4, _), (7, _), (8, _), (9, _)]) (by repeat (first | exact RS.nil | refine RS.cons rfl ?_)) ?_
        refine WX.next ?_
        refine WC.seq ?_
        refine WC.region ?_
        refine wlv (op_move (by decide) rfl) rfl ?_
        refine wlx (op_call (f21_spec A2 256 c2 ((enc k.toNat g.toNat n.toNat i.toNat c.toNat ((bs.drop 0).take (min m 224 - 0))).take at_.toNat ++ (enc kz.toNat gz.toNat nz.toNat iz.toNat cz.toNat ((bs2.drop 0).take (min m2 224 - 0))).drop at_.toNat) (mix_length (at_ := at_.toNat) (by omega) (enc_length _ _ _ _ _ _) (enc_length _ _ _ _ _ _))) ca21 (by decide) rfl (by apply Give.mk; (repeat (first | exact Takes.nil | exact Take.here | apply Takes.cons | apply Take.there)); repeat (first | exact Reads.nil | (apply Reads.rd; (focus (repeat (first | exact List.Mem.head _ | apply List.Mem.tail)); done)) | (apply Reads.own; (focus (repeat (first | exact List.Mem.head _ | apply List.Mem.tail)); done)) | (apply Reads.rx; (focus (repeat (first | exact List.Mem.head _ | apply List.Mem.tail)); done)) | (apply Reads.rows (e := false); (focus (repeat (first | exact List.Mem.head _ | apply List.Mem.tail)); done)) | (apply Reads.rows (e := true); (focus (repeat (first | exact List.Mem.head _ | apply List.Mem.tail)); done))))) rfl ?_
        rintro ⟨Ao, co, mo, po, fo⟩ ⟨hdo, hmo⟩
        dsimp only at hdo hmo
        subst hmo
        dsimp only
        refine wlv (op_move (by decide) rfl) rfl ?_
        refine wlv (op_extract (by decide) rfl rfl) rfl ?_
        refine wlv (op_extract (by decide) rfl rfl) rfl ?_
        refine wl1 (op_alloc ti25 (by decide)) rfl fun b4 => ?_
        refine wl (op_storeAll sz25 rfl rfl (by repeat (first | exact Take.here | apply Take.there)) (by first | rfl | (simp [Value.cells]; done) | (simp [Value.cells]; omega)) (by first | rfl | exact wvs_one _ | exact bvs_one _) (by first | rfl | (simp [Value.cells]; done) | (simp [Value.cells]; omega))) rfl ?_
        change WL _ _ _ _ _ _ _
        refine wlv (op_assign (by decide) rfl) rfl ?_
        refine WL.nil ?_
        refine WX.regs (L' := [(3, _), (4, _), (7, _), (8, _), (9, _), (10, _), (11, _)]) (by repeat (first | exact RS.nil | refine RS.cons rfl ?_)) ?_
        refine WX.next ?_
        refine WC.seq ?_
        refine WC.seq ?_
        refine WC.region ?_
        refine wlv (op_move (by decide) rfl) rfl ?_
        refine wlv (op_bytesStr Try.underlying22 Try.underlying5 Try.underlying9 (by decide) rfl (by first | (apply Src.rd; (repeat (first | exact List.Mem.head _ | apply List.Mem.tail)); done) | (apply Src.own; (repeat (first | exact List.Mem.head _ | apply List.Mem.tail)); done) | (apply Src.rx; (repeat (first | exact List.Mem.head _ | apply List.Mem.tail)); done))) rfl ?_
        refine wlv (op_move (by decide) rfl) rfl ?_
        refine wlv (op_bytesStr Try.underlying22 Try.underlying5 Try.underlying9 (by decide) rfl (by first | (apply Src.rd; (repeat (first | exact List.Mem.head _ | apply List.Mem.tail)); done) | (apply Src.own; (repeat (first | exact List.Mem.head _ | apply List.Mem.tail)); done) | (apply Src.rx; (repeat (first | exact List.Mem.head _ | apply List.Mem.tail)); done))) rfl ?_
        refine wlv (op_eqls (by decide) rfl rfl) rfl ?_
        refine WL.nil ?_
        refine WX.regs (L' := [(3, _), (4, _), (7, _), (8, _), (9, _), (10, _), (11, _), (63, _)]) (by repeat (first | exact RS.nil | refine RS.cons rfl ?_)) ?_
        refine WX.next ?_
        refine WC.cond rfl (fun h2 => ?_) (fun h2 => ?_)
        ·
          rw [h2, dec_enc k.toNat g.toNat n.toNat i.toNat c.toNat ((bs.drop 0).take (min m 224 - 0)) (by omega) (by omega) (by omega) (by omega) (by omega) (by rw [hlb]; omega) (by rw [ek, eg, en, ei, ec, hlb]; exact hch)] at hdo
          obtain ⟨rfl, rfl⟩ := Prod.mk.inj hdo
          dsimp only
          refine WC.seq ?_
          refine WC.drawnH mo 999 ?_
          refine WA.take (i := 0) rfl (by kernel_rfl) (fun _ _ _ h => h) rfl (op_move (by decide) rfl) (by repeat (first | exact Takes.nil | exact Take.here | apply Takes.cons | apply Take.there)) ?_
          refine WA.take (i := 1) rfl (by kernel_rfl) (fun _ _ _ h => h) rfl (op_eql (by decide) rfl rfl) (by repeat (first | exact Takes.nil | exact Take.here | apply Takes.cons | apply Take.there)) ?_
          refine WA.take (i := 2) rfl (by kernel_rfl) (fun _ _ _ h => h) rfl (op_move (by decide) rfl) (by repeat (first | exact Takes.nil | exact Take.here | apply Takes.cons | apply Take.there)) ?_
          refine WA.split (t := 66) rfl (fun g66 => ?_) (fun g66 => ?_)
          ·
            refine WA.takeG (i := 3) rfl (by kernel_rfl) (fun _ _ _ h => h) rfl rfl rfl (op_loadAll ag25 (by decide) rfl (by repeat (first | exact List.Mem.head _ | apply List.Mem.tail)) (by first | rfl | (simp [Value.cells]; done) | (simp [Value.cells]; omega))) (by repeat (first | exact Takes.nil | exact Take.here | apply Takes.cons | apply Take.there)) ?_
            refine WA.takeG (i := 5) rfl (by kernel_rfl) (fun _ _ _ h => h) rfl rfl rfl (op_loadAll ag24 (by decide) rfl (by repeat (first | exact List.Mem.head _ | apply List.Mem.tail)) (by first | rfl | (simp [Value.cells]; done) | (simp [Value.cells]; omega))) (by repeat (first | exact Takes.nil | exact Take.here | apply Takes.cons | apply Take.there)) ?_
            refine WA.stepGx (i := 4) (by kernel_rfl) rfl rfl rfl rfl (op_call (f16_spec _ _ _ _ _ Ao _ co) ca16 (by decide) rfl (by apply Give.mk; (repeat (first | exact Takes.nil | exact Take.here | apply Takes.cons | apply Take.there)); repeat (first | exact Reads.nil | (apply Reads.rd; (focus (repeat (first | exact List.Mem.head _ | apply List.Mem.tail)); done)) | (apply Reads.own; (focus (repeat (first | exact List.Mem.head _ | apply List.Mem.tail)); done)) | (apply Reads.rx; (focus (repeat (first | exact List.Mem.head _ | apply List.Mem.tail)); done)) | (apply Reads.rows (e := false); (focus (repeat (first | exact List.Mem.head _ | apply List.Mem.tail)); done)) | (apply Reads.rows (e := true); (focus (repeat (first | exact List.Mem.head _ | apply List.Mem.tail)); done))))) (fun _ r => (by repeat (first | exact Takes.nil | exact Take.here | apply Takes.cons | apply Take.there))) ?_
            rintro _ _
            refine WA.stepGx (i := 6) (by kernel_rfl) rfl rfl rfl rfl (op_call (f23_spec k.toNat g.toNat n.toNat i.toNat c.toNat k.toNat g.toNat n.toNat i.toNat c.toNat Ao _ ((bs.drop 0).take (min m 224 - 0)).length co (min m 224 - 0) _ ((bs.drop 0).take (min m 224 - 0)) ((bs.drop 0).take (min m 224 - 0))) ca23 (by decide) rfl (by apply Give.mk; (repeat (first | exact Takes.nil | exact Take.here | apply Takes.cons | apply Take.there)); repeat (first | exact Reads.nil | (apply Reads.rd; (focus (repeat (first | exact List.Mem.head _ | apply List.Mem.tail)); done)) | (apply Reads.own; (focus (repeat (first | exact List.Mem.head _ | apply List.Mem.tail)); done)) | (apply Reads.rx; (focus (repeat (first | exact List.Mem.head _ | apply List.Mem.tail)); done)) | (apply Reads.rows (e := false); (focus (repeat (first | exact List.Mem.head _ | apply List.Mem.tail)); done)) | (apply Reads.rows (e := true); (focus (repeat (first | exact List.Mem.head _ | apply List.Mem.tail)); done))))) (fun _ r => (by repeat (first | exact Takes.nil | exact Take.here | apply Takes.cons | apply Take.there))) ?_
            rintro _ rfl
            refine WA.take (i := 7) rfl (by kernel_rfl) (fun _ _ _ h => h) rfl (op_pickT (by decide) rfl rfl) (by repeat (first | exact Takes.nil | exact Take.here | apply Takes.cons | apply Take.there)) ?_
            refine WA.take (i := 8) rfl (by kernel_rfl) (fun _ _ _ h => h) rfl (op_assign (by decide) rfl) (by repeat (first | exact Takes.nil | exact Take.here | apply Takes.cons | apply Take.there)) ?_
            refine WA.done (by kernel_rfl) ?_
            refine WX.regs (L' := [(6, _)]) (by repeat (first | exact RS.nil | refine RS.cons rfl ?_)) ?_
            refine WX.next ?_
            refine WC.ret ?_
            refine WX.then_ret ?_
            exact Fin.ret1 (by first | exact .inl rfl | exact .inr rfl) (_) (decide_eq_true ⟨rfl, rfl, rfl, rfl, rfl, rfl⟩) Try.results6 (.tmp rfl) (by repeat (first | exact Takes.nil | exact Take.here | apply Takes.cons | apply Take.there)) (by simp)
          ·
            exact absurd rfl g66
        ·
          refine WC.skip ?_
          refine WX.next ?_
          refine WC.seq ?_
          refine WC.seq ?_
          refine WC.region ?_
          refine wlv (op_move (by decide) rfl) rfl ?_
          refine wlv (op_bytesStr Try.underlying22 Try.underlying5 Try.underlying9 (by decide) rfl (by first | (apply Src.rd; (repeat (first | exact List.Mem.head _ | apply List.Mem.tail)); done) | (apply Src.own; (repeat (first | exact List.Mem.head _ | apply List.Mem.tail)); done) | (apply Src.rx; (repeat (first | exact List.Mem.head _ | apply List.Mem.tail)); done))) rfl ?_
          refine wlv (op_move (by decide) rfl) rfl ?_
          refine wlv (op_bytesStr Try.underlying22 Try.underlying5 Try.underlying9 (by decide) rfl (by first | (apply Src.rd; (repeat (first | exact List.Mem.head _ | apply List.Mem.tail)); done) | (apply Src.own; (repeat (first | exact List.Mem.head _ | apply List.Mem.tail)); done) | (apply Src.rx; (repeat (first | exact List.Mem.head _ | apply List.Mem.tail)); done))) rfl ?_
          refine wlv (op_eqls (by decide) rfl rfl) rfl ?_
          refine WL.nil ?_
          refine WX.dupr (v := .slice Aa 256 ca) (sz := 1) (m := 256) (xs := bvs (enc k.toNat g.toNat n.toNat i.toNat c.toNat ((bs.drop 0).take (min m 224 - 0)))) (by repeat (first | exact List.Mem.head _ | apply List.Mem.tail)) (rd_dropB (l := 16) (enc_length _ _ _ _ _ _) (by decide)) ?_
          refine WX.turn (c := own (.slice A2 256 c2) 5 1 256 (bvs ((enc k.toNat g.toNat n.toNat i.toNat c.toNat ((bs.drop 0).take (min m 224 - 0))).take at_.toNat ++ (enc kz.toNat gz.toNat nz.toNat iz.toNat cz.toNat ((bs2.drop 0).take (min m2 224 - 0))).drop at_.toNat))) (d := rd (.slice A2 256 c2) 1 256 (bvs ((enc k.toNat g.toNat n.toNat i.toNat c.toNat ((bs.drop 0).take (min m 224 - 0))).take at_.toNat ++ (enc kz.toNat gz.toNat nz.toNat iz.toNat cz.toNat ((bs2.drop 0).take (min m2 224 - 0))).drop at_.toNat))) (by repeat (first | exact Take.here | apply Take.there)) own_le_rd ?_
          refine WX.dupr (v := .slice A2 256 c2) (sz := 1) (m := 256) (xs := bvs ((enc k.toNat g.toNat n.toNat i.toNat c.toNat ((bs.drop 0).take (min m 224 - 0))).take at_.toNat ++ (enc kz.toNat gz.toNat nz.toNat iz.toNat cz.toNat ((bs2.drop 0).take (min m2 224 - 0))).drop at_.toNat)) (by repeat (first | exact List.Mem.head _ | apply List.Mem.tail)) (rd_dropB (l := 16) (mix_length (at_ := at_.toNat) (by omega) (enc_length _ _ _ _ _ _) (enc_length _ _ _ _ _ _)) (by decide)) ?_
          refine WX.regs (L' := [(4, _), (7, _), (9, _), (10, _), (11, _), (76, _)]) (by repeat (first | exact RS.nil | refine RS.cons rfl ?_)) ?_
          refine WX.next ?_
          refine WC.cond rfl (fun h3 => ?_) (fun h3 => ?_)
          ·
            rw [h3, dec_enc kz.toNat gz.toNat nz.toNat iz.toNat cz.toNat ((bs2.drop 0).take (min m2 224 - 0)) (by omega) (by omega) (by omega) (by omega) (by omega) (by rw [hlbz]; omega) (by rw [ekz, egz, enz, eiz, ecz, hlbz]; exact hchz)] at hdo
            obtain ⟨rfl, rfl⟩ := Prod.mk.inj hdo
            dsimp only
            refine WC.seq ?_
            refine WC.drawnH mo 999 ?_
            refine WA.take (i := 0) rfl (by kernel_rfl) (fun _ _ _ h => h) rfl (op_move (by decide) rfl) (by repeat (first | exact Takes.nil | exact Take.here | apply Takes.cons | apply Take.there)) ?_
            refine WA.take (i := 1) rfl (by kernel_rfl) (fun _ _ _ h => h) rfl (op_eql (by decide) rfl rfl) (by repeat (first | exact Takes.nil | exact Take.here | apply Takes.cons | apply Take.there)) ?_
            refine WA.take (i := 2) rfl (by kernel_rfl) (fun _ _ _ h => h) rfl (op_move (by decide) rfl) (by repeat (first | exact Takes.nil | exact Take.here | apply Takes.cons | apply Take.there)) ?_
            refine WA.split (t := 79) rfl (fun g79 => ?_) (fun g79 => ?_)
            ·
              refine WA.takeG (i := 3) rfl (by kernel_rfl) (fun _ _ _ h => h) rfl rfl rfl (op_loadAll ag25 (by decide) rfl (by repeat (first | exact List.Mem.head _ | apply List.Mem.tail)) (by first | rfl | (simp [Value.cells]; done) | (simp [Value.cells]; omega))) (by repeat (first | exact Takes.nil | exact Take.here | apply Takes.cons | apply Take.there)) ?_
              refine WA.takeG (i := 5) rfl (by kernel_rfl) (fun _ _ _ h => h) rfl rfl rfl (op_loadAll ag24 (by decide) rfl (by repeat (first | exact List.Mem.head _ | apply List.Mem.tail)) (by first | rfl | (simp [Value.cells]; done) | (simp [Value.cells]; omega))) (by repeat (first | exact Takes.nil | exact Take.here | apply Takes.cons | apply Take.there)) ?_
              refine WA.stepGx (i := 4) (by kernel_rfl) rfl rfl rfl rfl (op_call (f16_spec _ _ _ _ _ Ao _ co) ca16 (by decide) rfl (by apply Give.mk; (repeat (first | exact Takes.nil | exact Take.here | apply Takes.cons | apply Take.there)); repeat (first | exact Reads.nil | (apply Reads.rd; (focus (repeat (first | exact List.Mem.head _ | apply List.Mem.tail)); done)) | (apply Reads.own; (focus (repeat (first | exact List.Mem.head _ | apply List.Mem.tail)); done)) | (apply Reads.rx; (focus (repeat (first | exact List.Mem.head _ | apply List.Mem.tail)); done)) | (apply Reads.rows (e := false); (focus (repeat (first | exact List.Mem.head _ | apply List.Mem.tail)); done)) | (apply Reads.rows (e := true); (focus (repeat (first | exact List.Mem.head _ | apply List.Mem.tail)); done))))) (fun _ r => (by repeat (first | exact Takes.nil | exact Take.here | apply Takes.cons | apply Take.there))) ?_
              rintro _ _
              refine WA.stepGx (i := 6) (by kernel_rfl) rfl rfl rfl rfl (op_call (f23_spec kz.toNat gz.toNat nz.toNat iz.toNat cz.toNat kz.toNat gz.toNat nz.toNat iz.toNat cz.toNat Ao _ ((bs2.drop 0).take (min m2 224 - 0)).length co (min m2 224 - 0) _ ((bs2.drop 0).take (min m2 224 - 0)) ((bs2.drop 0).take (min m2 224 - 0))) ca23 (by decide) rfl (by apply Give.mk; (repeat (first | exact Takes.nil | exact Take.here | apply Takes.cons | apply Take.there)); repeat (first | exact Reads.nil | (apply Reads.rd; (focus (repeat (first | exact List.Mem.head _ | apply List.Mem.tail)); done)) | (apply Reads.own; (focus (repeat (first | exact List.Mem.head _ | apply List.Mem.tail)); done)) | (apply Reads.rx; (focus (repeat (first | exact List.Mem.head _ | apply List.Mem.tail)); done)) | (apply Reads.rows (e := false); (focus (repeat (first | exact List.Mem.head _ | apply List.Mem.tail)); done)) | (apply Reads.rows (e := true); (focus (repeat (first | exact List.Mem.head _ | apply List.Mem.tail)); done))))) (fun _ r => (by repeat (first | exact Takes.nil | exact Take.here | apply Takes.cons | apply Take.there))) ?_
              rintro _ rfl
              refine WA.take (i := 7) rfl (by kernel_rfl) (fun _ _ _ h => h) rfl (op_pickT (by decide) rfl rfl) (by repeat (first | exact Takes.nil | exact Take.here | apply Takes.cons | apply Take.there)) ?_
              refine WA.take (i := 8) rfl (by kernel_rfl) (fun _ _ _ h => h) rfl (op_assign (by decide) rfl) (by repeat (first | exact Takes.nil | exact Take.here | apply Takes.cons | apply Take.there)) ?_
              refine WA.done (by kernel_rfl) ?_
              refine WX.regs (L' := [(6, _)]) (by repeat (first | exact RS.nil | refine RS.cons rfl ?_)) ?_
              refine WX.next ?_
              refine WC.ret ?_
              refine WX.then_ret ?_
              exact Fin.ret1 (by first | exact .inl rfl | exact .inr rfl) (_) (decide_eq_true ⟨rfl, rfl, rfl, rfl, rfl, rfl⟩) Try.results6 (.tmp rfl) (by repeat (first | exact Takes.nil | exact Take.here | apply Takes.cons | apply Take.there)) (by simp)
            ·
              exact absurd rfl g79
          ·
            have htm := torn (a := (enc k.toNat g.toNat n.toNat i.toNat c.toNat ((bs.drop 0).take (min m 224 - 0)))) (b := (enc kz.toNat gz.toNat nz.toNat iz.toNat cz.toNat ((bs2.drop 0).take (min m2 224 - 0)))) at_.toNat (by omega) (enc_length _ _ _ _ _ _) (enc_length _ _ _ _ _ _) (enc_sum _ _ _ _ _ _) (enc_sum _ _ _ _ _ _) h2 h3
            rw [← hdo] at htm
            dsimp only at htm
            refine WC.skip ?_
            refine WX.next ?_
            refine WC.seq ?_
            refine WC.drawnH mo 999 ?_
            refine WA.take (i := 0) rfl (by kernel_rfl) (fun _ _ _ h => h) rfl (op_move (by decide) rfl) (by repeat (first | exact Takes.nil | exact Take.here | apply Takes.cons | apply Take.there)) ?_
            refine WA.take (i := 1) rfl (by kernel_rfl) (fun _ _ _ h => h) rfl (op_eql (by decide) rfl rfl) (by repeat (first | exact Takes.nil | exact Take.here | apply Takes.cons | apply Take.there)) ?_
            refine WA.take (i := 2) rfl (by kernel_rfl) (fun _ _ _ h => h) rfl (op_move (by decide) rfl) (by repeat (first | exact Takes.nil | exact Take.here | apply Takes.cons | apply Take.there)) ?_
            refine WA.split (t := 87) rfl (fun g87 => ?_) (fun g87 => ?_)
            ·
              refine WA.skipG (i := 3) rfl (by kernel_rfl) (fun _ _ _ h => h) rfl rfl rfl (by first | exact .inl rfl | exact .inr rfl) rfl (by decide) (by repeat (first | exact Takes.nil | exact Take.here | apply Takes.cons | apply Take.there)) ?_
              refine WA.skipG (i := 4) rfl (by kernel_rfl) (fun _ _ _ h => h) rfl rfl rfl (by first | exact .inl rfl | exact .inr rfl) rfl (by decide) (by repeat (first | exact Takes.nil | exact Take.here | apply Takes.cons | apply Take.there)) ?_
              refine WA.skipG (i := 5) rfl (by kernel_rfl) (fun _ _ _ h => h) rfl rfl rfl (by first | exact .inl rfl | exact .inr rfl) rfl (by decide) (by repeat (first | exact Takes.nil | exact Take.here | apply Takes.cons | apply Take.there)) ?_
              refine WA.skipG (i := 6) rfl (by kernel_rfl) (fun _ _ _ h => h) rfl rfl rfl (by first | exact .inl rfl | exact .inr rfl) rfl (by decide) (by repeat (first | exact Takes.nil | exact Take.here | apply Takes.cons | apply Take.there)) ?_
              refine WA.skipG (i := 7) rfl (by kernel_rfl) (fun _ _ _ h => h) rfl rfl rfl (by first | exact .inl rfl | exact .inr rfl) rfl (by decide) (by repeat (first | exact Takes.nil | exact Take.here | apply Takes.cons | apply Take.there)) ?_
              refine WA.take (i := 8) rfl (by kernel_rfl) (fun _ _ _ h => h) rfl (op_pickT (by decide) rfl rfl) (by repeat (first | exact Takes.nil | exact Take.here | apply Takes.cons | apply Take.there)) ?_
              refine WA.take (i := 9) rfl (by kernel_rfl) (fun _ _ _ h => h) rfl (op_assign (by decide) rfl) (by repeat (first | exact Takes.nil | exact Take.here | apply Takes.cons | apply Take.there)) ?_
              refine WA.done (by kernel_rfl) ?_
              refine WX.regs (L' := [(6, _)]) (by repeat (first | exact RS.nil | refine RS.cons rfl ?_)) ?_
              refine WX.next ?_
              refine WC.ret ?_
              exact Fin.ret1 (by first | exact .inl rfl | exact .inr rfl) (_) (by first | rfl | exact decide_eq_true (htm.resolve_left g87)) Try.results6 (.tmp rfl) (by repeat (first | exact Takes.nil | exact Take.here | apply Takes.cons | apply Take.there)) (by simp)
            ·
              refine WA.takeG (i := 3) rfl (by kernel_rfl) (fun _ _ _ h => h) rfl rfl rfl (op_move (by decide) rfl) (by repeat (first | exact Takes.nil | exact Take.here | apply Takes.cons | apply Take.there)) ?_
              refine WA.takeG (i := 4) rfl (by kernel_rfl) (fun _ _ _ h => h) rfl rfl rfl (op_slice_l Try.underlying22 sz5 (by decide) rfl rfl (by omega) (by omega)) (by repeat (first | exact Takes.nil | exact Take.here | apply Takes.cons | apply Take.there)) ?_
              refine WA.takeG (i := 5) rfl (by kernel_rfl) (fun _ _ _ h => h) rfl rfl rfl (op_move (by decide) rfl) (by repeat (first | exact Takes.nil | exact Take.here | apply Takes.cons | apply Take.there)) ?_
              refine WA.takeG (i := 6) rfl (by kernel_rfl) (fun _ _ _ h => h) rfl rfl rfl (op_slice_l Try.underlying22 sz5 (by decide) rfl rfl (by omega) (by omega)) (by repeat (first | exact Takes.nil | exact Take.here | apply Takes.cons | apply Take.there)) ?_
              refine WA.stepGx (i := 7) (by kernel_rfl) rfl rfl rfl rfl (op_call (f26_spec _ _ 240 _ 240 _ ((enc k.toNat g.toNat n.toNat i.toNat c.toNat ((bs.drop 0).take (min m 224 - 0))).drop 16) (((enc k.toNat g.toNat n.toNat i.toNat c.toNat ((bs.drop 0).take (min m 224 - 0))).take at_.toNat ++ (enc kz.toNat gz.toNat nz.toNat iz.toNat cz.toNat ((bs2.drop 0).take (min m2 224 - 0))).drop at_.toNat).drop 16) (by simp [enc_length]) (by rw [List.length_drop, mix_length (at_ := at_.toNat) (by omega) (enc_length _ _ _ _ _ _) (enc_length _ _ _ _ _ _)]) (by decide) (by decide)) ca26 (by decide) rfl (by apply Give.mk; (repeat (first | exact Takes.nil | exact Take.here | apply Takes.cons | apply Take.there)); repeat (first | exact Reads.nil | (apply Reads.rd; (focus (repeat (first | exact List.Mem.head _ | apply List.Mem.tail)); done)) | (apply Reads.own; (focus (repeat (first | exact List.Mem.head _ | apply List.Mem.tail)); done)) | (apply Reads.rx; (focus (repeat (first | exact List.Mem.head _ | apply List.Mem.tail)); done)) | (apply Reads.rows (e := false); (focus (repeat (first | exact List.Mem.head _ | apply List.Mem.tail)); done)) | (apply Reads.rows (e := true); (focus (repeat (first | exact List.Mem.head _ | apply List.Mem.tail)); done))))) (fun _ r => (by repeat (first | exact Takes.nil | exact Take.here | apply Takes.cons | apply Take.there))) ?_
              rintro _ rfl
              refine WA.take (i := 8) rfl (by kernel_rfl) (fun _ _ _ h => h) rfl (op_pickF (by decide) rfl rfl) (by repeat (first | exact Takes.nil | exact Take.here | apply Takes.cons | apply Take.there)) ?_
              refine WA.take (i := 9) rfl (by kernel_rfl) (fun _ _ _ h => h) rfl (op_assign (by decide) rfl) (by repeat (first | exact Takes.nil | exact Take.here | apply Takes.cons | apply Take.there)) ?_
              refine WA.done (by kernel_rfl) ?_
              refine WX.regs (L' := [(6, _)]) (by repeat (first | exact RS.nil | refine RS.cons rfl ?_)) ?_
              refine WX.next ?_
              refine WC.ret ?_
              exact Fin.ret1 (by first | exact .inl rfl | exact .inr rfl) (_) (by first | rfl | exact decide_eq_true (htm.resolve_left g87)) Try.results6 (.tmp rfl) (by repeat (first | exact Takes.nil | exact Take.here | apply Takes.cons | apply Take.there)) (by simp)
  have st101100011111110000 : ∀ (_u : Unit), W 8 #[true, false, true, true, false, false, false, true, true, true, true, true, true, true, false, false, false, false] 94 [(2, bv at_), (3, .pointer (some ⟨b1, 0, none⟩)), (4, .pointer (some ⟨b2, 0, none⟩)), (12, .pointer (some ⟨b1, 5, none⟩)), (15, .slice A m e), (25, sliced B 0 (min m2 224) e2 1)] [blk b2 (pcells kz gz nz iz cz (.slice B m2 e2)) 24, blk b1 (pcells k g n i c (.slice A m e)) 24, rd (sliced B 0 (min m2 224) e2 1) 1 (min m2 224 - 0) (bvs ((bs2.drop 0).take (min m2 224 - 0))), rd (sliced A 0 (min m 224) e 1) 1 (min m 224 - 0) (bvs ((bs.drop 0).take (min m 224 - 0))), rd (.slice A m e) 1 m (bvs bs), rd (.slice B m2 e2) 1 m2 (bvs bs2), frameC w0 (MutF [])] := by
    intro _u
    subst hW
    refine WA.take (i := 4) rfl (by kernel_rfl) (fun _ _ _ h => h) rfl (op_len Try.underlying22 (by decide) rfl) (by repeat (first | exact Takes.nil | exact Take.here | apply Takes.cons | apply Take.there)) ?_
    refine WA.take (i := 5) rfl (by kernel_rfl) (fun _ _ _ h => h) rfl (op_minN (a := m) (b := 224) (by decide) rfl rfl) (by repeat (first | exact Takes.nil | exact Take.here | apply Takes.cons | apply Take.there)) ?_
    refine WA.pick (l := [1]) (by kernel_rfl) rfl (fun i hi => ?_)
    simp only [List.mem_cons, List.not_mem_nil, or_false] at hi
    subst hi
    ·
      refine WA.onev rfl rfl (op_load1 fl22 (by decide) rfl (by repeat (first | exact List.Mem.head _ | apply List.Mem.tail)) rfl) (fun _ => (by repeat (first | exact Takes.nil | exact Take.here | apply Takes.cons | apply Take.there))) ?_
      exact WA.conv (by first | rfl | kernel_rfl) (by repeat (first | exact RS.nil | refine RS.cons rfl ?_)) (by repeat (first | exact Takes.nil | exact Take.here | apply Takes.cons | apply Take.there)) (st111111011111110000 ())
  subst hW
  refine WA.pick (l := [1, 3]) (by kernel_rfl) rfl (fun i hi => ?_)
  simp only [List.mem_cons, List.not_mem_nil, or_false] at hi
  rcases hi with rfl | rfl
  ·
    refine WA.onev rfl rfl (op_load1 fl22 (by decide) rfl (by repeat (first | exact List.Mem.head _ | apply List.Mem.tail)) rfl) (fun _ => (by repeat (first | exact Takes.nil | exact Take.here | apply Takes.cons | apply Take.there))) ?_
    exact WA.conv (by first | rfl | kernel_rfl) (by repeat (first | exact RS.nil | refine RS.cons rfl ?_)) (by repeat (first | exact Takes.nil | exact Take.here | apply Takes.cons | apply Take.there)) (st111000011111110000 ())
  ·
    refine WA.onev rfl rfl (op_load1 fl22 (by decide) rfl (by repeat (first | exact List.Mem.head _ | apply List.Mem.tail)) rfl) (fun _ => (by repeat (first | exact Takes.nil | exact Take.here | apply Takes.cons | apply Take.there))) ?_
    exact WA.conv (by first | rfl | kernel_rfl) (by repeat (first | exact RS.nil | refine RS.cons rfl ?_)) (by repeat (first | exact Takes.nil | exact Take.here | apply Takes.cons | apply Take.there)) (st101100011111110000 ())
end Go.Proofs.Ythephcghglldaaa.Sx
