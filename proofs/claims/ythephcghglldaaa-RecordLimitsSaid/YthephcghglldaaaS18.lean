import Derived.Test.YthephcghglldaaaS17
set_option linter.unusedVariables false
set_option linter.unusedSimpArgs false
namespace Go.Proofs.Ythephcghglldaaa.Sx
open Go.RowKit Go.Proofs.Ythephcghglldaaa.Ty
attribute [local irreducible] blk own rd rx frameC

theorem flat_at {α : Type} {f : α → List Value} {sz : Nat} (hf : ∀ a, (f a).length = sz) : ∀ (l : List α) (i : Nat) (a : α), l[i]? = some a → ((l.flatMap f).drop (i * sz)).take sz = f a := by
  intro l
  induction l with
  | nil => intro i a h; cases h
  | cons x l ih =>
    intro i a h
    cases i with
    | zero =>
      simp only [List.getElem?_cons_zero, Option.some.injEq] at h
      subst h
      rw [Nat.zero_mul, List.drop_zero, List.flatMap_cons, List.take_append_of_le_length (by rw [hf]; exact Nat.le_refl _), List.take_of_length_le (by rw [hf]; exact Nat.le_refl _)]
    | succ i =>
      rw [List.getElem?_cons_succ] at h
      rw [List.flatMap_cons, Nat.succ_mul, Nat.add_comm (i * sz), ← List.drop_drop, List.drop_left' (hf x)]
      exact ih i a h
theorem flat_len {α : Type} {f : α → List Value} {sz : Nat} (hf : ∀ a, (f a).length = sz) (l : List α) : (l.flatMap f).length = l.length * sz := by
  induction l with
  | nil => simp
  | cons x l ih => rw [List.flatMap_cons, List.length_append, hf, ih, List.length_cons, Nat.succ_mul]; omega
theorem take_min (bs : List UInt8) (m k : Nat) (hm : bs.length = m) : (bs.drop 0).take (min m k - 0) = bs.take k := by
  rw [List.drop_zero, Nat.sub_zero, List.take_eq_take_iff]
  omega
set_option maxHeartbeats 400000 in
set_option maxRecDepth 10000 in
theorem f15_spec (k g n i c0 : Int) (A : Option Addr) (m c : Nat) (bs : List UInt8) (hm : bs.length = m) :
    Spec Try.prog 15 [.agg (pcells k g n i c0 (.slice A m c)).toArray] [] [rd (.slice A m c) 1 m (bvs bs)] (R := Option Addr × Nat) (fun _ => True)
      (fun q => .agg (pcells k g n i c0 (.slice q.1 (min m 300) q.2)).toArray) (fun q => [own (.slice q.1 (min m 300) q.2) 5 1 (min m 300) (bvs (bs.take 300))]) := by
  refine Spec.intro Try.func15 Try.ntmps15 rfl (by simp) (by simp) fun w0 => ?_
  refine WC.seq ?_
  refine WC.region ?_
  refine wl1 (op_box (by decide) rfl rfl) rfl fun b1 => ?_
  refine wl1 (op_alloc ti25 (by decide)) rfl fun b2 => ?_
  refine WL.nil ?_
  refine WX.regs (L' := [(1, _), (2, _)]) (by repeat (first | exact RS.nil | refine RS.cons rfl ?_)) ?_
  refine WX.next ?_
  refine WC.seq ?_
  refine WC.drawnH mo 20 ?_
  refine WA.capx (by first | (apply Src.rd; (repeat (first | exact List.Mem.head _ | apply List.Mem.tail)); done) | (apply Src.own; (repeat (first | exact List.Mem.head _ | apply List.Mem.tail)); done) | (apply Src.rx; (repeat (first | exact List.Mem.head _ | apply List.Mem.tail)); done)) (fun hcap => ?_)
  refine WA.dup (c := rd (.slice A m c) 1 m (bvs bs)) (d := rd (sliced A 0 (min m 300) c 1) 1 (min m 300 - 0) (bvs ((bs.drop 0).take (min m 300 - 0)))) (by repeat (first | exact List.Mem.head _ | apply List.Mem.tail)) (by simp) (by simp) (rd_subB (l := 0) (h := min m 300) (by omega) (by omega)) ?_
  refine WA.take (i := 0) rfl (by kernel_rfl) (fun _ _ _ h => h) rfl (op_fieldAddr fo24_0 (by decide) rfl) (by repeat (first | exact Takes.nil | exact Take.here | apply Takes.cons | apply Take.there)) ?_
  refine WA.take (i := 1) rfl (by kernel_rfl) (fun _ _ _ h => h) rfl (op_load1 fl3 (by decide) rfl (by repeat (first | exact List.Mem.head _ | apply List.Mem.tail)) rfl) (by repeat (first | exact Takes.nil | exact Take.here | apply Takes.cons | apply Take.there)) ?_
  refine WA.take (i := 2) rfl (by kernel_rfl) (fun _ _ _ h => h) rfl (op_fieldAddr fo24_1 (by decide) rfl) (by repeat (first | exact Takes.nil | exact Take.here | apply Takes.cons | apply Take.there)) ?_
  refine WA.take (i := 3) rfl (by kernel_rfl) (fun _ _ _ h => h) rfl (op_load1 fl3 (by decide) rfl (by repeat (first | exact List.Mem.head _ | apply List.Mem.tail)) rfl) (by repeat (first | exact Takes.nil | exact Take.here | apply Takes.cons | apply Take.there)) ?_
  refine WA.take (i := 4) rfl (by kernel_rfl) (fun _ _ _ h => h) rfl (op_fieldAddr fo24_2 (by decide) rfl) (by repeat (first | exact Takes.nil | exact Take.here | apply Takes.cons | apply Take.there)) ?_
  refine WA.take (i := 5) rfl (by kernel_rfl) (fun _ _ _ h => h) rfl (op_load1 fl3 (by decide) rfl (by repeat (first | exact List.Mem.head _ | apply List.Mem.tail)) rfl) (by repeat (first | exact Takes.nil | exact Take.here | apply Takes.cons | apply Take.there)) ?_
  refine WA.take (i := 6) rfl (by kernel_rfl) (fun _ _ _ h => h) rfl (op_fieldAddr fo24_3 (by decide) rfl) (by repeat (first | exact Takes.nil | exact Take.here | apply Takes.cons | apply Take.there)) ?_
  refine WA.take (i := 7) rfl (by kernel_rfl) (fun _ _ _ h => h) rfl (op_load1 fl3 (by decide) rfl (by repeat (first | exact List.Mem.head _ | apply List.Mem.tail)) rfl) (by repeat (first | exact Takes.nil | exact Take.here | apply Takes.cons | apply Take.there)) ?_
  refine WA.take (i := 8) rfl (by kernel_rfl) (fun _ _ _ h => h) rfl (op_fieldAddr fo24_4 (by decide) rfl) (by repeat (first | exact Takes.nil | exact Take.here | apply Takes.cons | apply Take.there)) ?_
  refine WA.take (i := 9) rfl (by kernel_rfl) (fun _ _ _ h => h) rfl (op_load1 fl3 (by decide) rfl (by repeat (first | exact List.Mem.head _ | apply List.Mem.tail)) rfl) (by repeat (first | exact Takes.nil | exact Take.here | apply Takes.cons | apply Take.there)) ?_
  refine WA.take (i := 11) rfl (by kernel_rfl) (fun _ _ _ h => h) rfl (op_fieldAddr fo24_5 (by decide) rfl) (by repeat (first | exact Takes.nil | exact Take.here | apply Takes.cons | apply Take.there)) ?_
  refine WA.take (i := 12) rfl (by kernel_rfl) (fun _ _ _ h => h) rfl (op_load1 fl22 (by decide) rfl (by repeat (first | exact List.Mem.head _ | apply List.Mem.tail)) rfl) (by repeat (first | exact Takes.nil | exact Take.here | apply Takes.cons | apply Take.there)) ?_
  refine WA.take (i := 13) rfl (by kernel_rfl) (fun _ _ _ h => h) rfl (op_fieldAddr fo24_5 (by decide) rfl) (by repeat (first | exact Takes.nil | exact Take.here | apply Takes.cons | apply Take.there)) ?_
  refine WA.take (i := 14) rfl (by kernel_rfl) (fun _ _ _ h => h) rfl (op_load1 fl22 (by decide) rfl (by repeat (first | exact List.Mem.head _ | apply List.Mem.tail)) rfl) (by repeat (first | exact Takes.nil | exact Take.here | apply Takes.cons | apply Take.there)) ?_
  refine WA.take (i := 15) rfl (by kernel_rfl) (fun _ _ _ h => h) rfl (op_len Try.underlying22 (by decide) rfl) (by repeat (first | exact Takes.nil | exact Take.here | apply Takes.cons | apply Take.there)) ?_
  refine WA.take (i := 16) rfl (by kernel_rfl) (fun _ _ _ h => h) rfl (op_minN (a := m) (b := 300) (by decide) rfl rfl) (by repeat (first | exact Takes.nil | exact Take.here | apply Takes.cons | apply Take.there)) ?_
  refine WA.take (i := 17) rfl (by kernel_rfl) (fun _ _ _ h => h) rfl (op_slice_h Try.underlying22 sz5 (by decide) rfl rfl (by omega) (by omega)) (by repeat (first | exact Takes.nil | exact Take.here | apply Takes.cons | apply Take.there)) ?_
  refine WA.step1 (i := 10) (by kernel_rfl) rfl rfl (op_lit0 Try.underlying22 ti5 (by decide)) (fun _ b => (by repeat (first | exact Takes.nil | exact Take.here | apply Takes.cons | apply Take.there))) fun b3 => ?_
  refine WA.step2 (i := 18) (by kernel_rfl) rfl rfl (op_append0 Try.underlying22 ti5 rfl (by decide) (by decide) rfl rfl (by repeat (first | exact Take.here | apply Take.there)) (by first | (apply Src.rd; (repeat (first | exact List.Mem.head _ | apply List.Mem.tail)); done) | (apply Src.own; (repeat (first | exact List.Mem.head _ | apply List.Mem.tail)); done) | (apply Src.rx; (repeat (first | exact List.Mem.head _ | apply List.Mem.tail)); done)) (by first | rfl | exact wvs_one _ | exact bvs_one _) (by omega) (by omega)) (fun _ A c => (by repeat (first | exact Takes.nil | exact Take.here | apply Takes.cons | apply Take.there))) fun A1 c1 => ?_
  refine WA.take (i := 19) rfl (by kernel_rfl) (fun _ _ _ h => h) rfl (op_build (cs := (pcells k g n i c0 (.slice A1 (min m 300) c1))) (pv := [(0, _), (1, _), (2, _), (3, _), (4, _), (5, _)]) (by decide) rfl (by kernel_rfl)) (by repeat (first | exact Takes.nil | exact Take.here | apply Takes.cons | apply Take.there)) ?_
  refine WA.stepo (G := []) (i := 20) (by kernel_rfl) rfl rfl (op_storeAll sz25 rfl rfl (by repeat (first | exact Take.here | apply Take.there)) (by first | rfl | (simp [Value.cells]; done) | (simp [Value.cells]; omega)) (by first | rfl | exact wvs_one _ | exact bvs_one _) (by first | rfl | (simp [Value.cells]; done) | (simp [Value.cells]; omega))) (fun h => absurd rfl h) ?_
  refine WA.done (by kernel_rfl) ?_
  refine WX.blkEq (b := b2) (pcells k g n i c0 (.slice A1 (min m 300) c1)) (by repeat (first | exact Take.here | apply Take.there)) (by rfl) ?_
  refine WX.ownEq (v := .slice A1 (min m 300) c1) _ (by repeat (first | exact Take.here | apply Take.there)) (congrArg bvs (take_min bs m 300 hm)) ?_
  refine WX.regs (L' := [(2, _)]) (by repeat (first | exact RS.nil | refine RS.cons rfl ?_)) ?_
  refine WX.next ?_
  refine WC.ret ?_
  exact Fin.ret1 (by first | exact .inl rfl | exact .inr rfl) ((A1, c1)) (trivial) Try.results15 (.cellN rfl ag25 (by repeat (first | exact List.Mem.head _ | apply List.Mem.tail)) (by first | rfl | (simp [Value.cells]; done) | (simp [Value.cells]; omega))) (by repeat (first | exact Takes.nil | exact Take.here | apply Takes.cons | apply Take.there)) (by simp)
set_option maxHeartbeats 400000 in
set_option maxRecDepth 10000 in
theorem f16_spec (k g n i c : Int) (A : Option Addr) (m e : Nat) :
    Spec Try.prog 16 [.agg (pcells k g n i c (.slice A m e)).toArray] [] [] (R := Unit) (fun _ => True) (fun _ => .agg (pcells k g n i c (.slice A m e)).toArray) (fun _ => []) := by
  refine Spec.intro Try.func16 Try.ntmps16 rfl (by simp) (by simp) fun w0 => ?_
  refine WC.seq ?_
  refine WC.region ?_
  refine wl1 (op_box (by decide) rfl rfl) rfl fun b1 => ?_
  refine wl1 (op_alloc ti24 (by decide)) rfl fun b2 => ?_
  refine WL.nil ?_
  refine WX.regs (L' := [(1, _), (2, _)]) (by repeat (first | exact RS.nil | refine RS.cons rfl ?_)) ?_
  refine WX.next ?_
  refine WC.seq ?_
  refine WC.region ?_
  refine wlv (op_fieldAddr fo25_0 (by decide) rfl) rfl ?_
  refine wlv (op_load1 fl3 (by decide) rfl (by repeat (first | exact List.Mem.head _ | apply List.Mem.tail)) rfl) rfl ?_
  refine wlv (op_fieldAddr fo25_1 (by decide) rfl) rfl ?_
  refine wlv (op_load1 fl3 (by decide) rfl (by repeat (first | exact List.Mem.head _ | apply List.Mem.tail)) rfl) rfl ?_
  refine wlv (op_fieldAddr fo25_2 (by decide) rfl) rfl ?_
  refine wlv (op_load1 fl3 (by decide) rfl (by repeat (first | exact List.Mem.head _ | apply List.Mem.tail)) rfl) rfl ?_
  refine wlv (op_fieldAddr fo25_3 (by decide) rfl) rfl ?_
  refine wlv (op_load1 fl3 (by decide) rfl (by repeat (first | exact List.Mem.head _ | apply List.Mem.tail)) rfl) rfl ?_
  refine wlv (op_fieldAddr fo25_4 (by decide) rfl) rfl ?_
  refine wlv (op_load1 fl3 (by decide) rfl (by repeat (first | exact List.Mem.head _ | apply List.Mem.tail)) rfl) rfl ?_
  refine wlv (op_fieldAddr fo25_5 (by decide) rfl) rfl ?_
  refine wlv (op_load1 fl22 (by decide) rfl (by repeat (first | exact List.Mem.head _ | apply List.Mem.tail)) rfl) rfl ?_
  refine wlv (op_build (cs := (pcells k g n i c (.slice A m e))) (pv := [(0, _), (1, _), (2, _), (3, _), (4, _), (5, _)]) (by decide) rfl (by kernel_rfl)) rfl ?_
  refine wl (op_storeAll sz24 rfl rfl (by repeat (first | exact Take.here | apply Take.there)) (by first | rfl | (simp [Value.cells]; done) | (simp [Value.cells]; omega)) (by first | rfl | exact wvs_one _ | exact bvs_one _) (by first | rfl | (simp [Value.cells]; done) | (simp [Value.cells]; omega))) rfl ?_
  change WL _ _ _ _ _ _ _
  refine WL.nil ?_
  refine WX.regs (L' := [(2, _)]) (by repeat (first | exact RS.nil | refine RS.cons rfl ?_)) ?_
  refine WX.next ?_
  refine WC.ret ?_
  exact Fin.ret1 (by first | exact .inl rfl | exact .inr rfl) (()) (trivial) Try.results16 (.cellN rfl ag24 (by repeat (first | exact List.Mem.head _ | apply List.Mem.tail)) (by first | rfl | (simp [Value.cells]; done) | (simp [Value.cells]; omega))) (by repeat (first | exact Takes.nil | exact Take.here | apply Takes.cons | apply Take.there)) (by simp)
set_option maxHeartbeats 400000 in
set_option maxRecDepth 10000 in
theorem f23_spec (k g n i c k2 g2 n2 i2 c2 : Int) (A B : Option Addr) (m e m2 e2 : Nat) (p p2 : List UInt8) :
    Spec Try.prog 23 [.agg (pcells k g n i c (.slice A m e)).toArray, .agg (pcells k2 g2 n2 i2 c2 (.slice B m2 e2)).toArray] [] [rd (.slice A m e) 1 m (bvs p), rd (.slice B m2 e2) 1 m2 (bvs p2)]
      (R := Bool) (fun b => b = decide (k = k2 ∧ g = g2 ∧ n = n2 ∧ i = i2 ∧ c = c2 ∧ p = p2)) (fun b => .bool b) (fun _ => []) := by
  refine Spec.intro Try.func23 Try.ntmps23 rfl (by simp) (by simp) fun w0 => ?_
  refine WC.seq ?_
  refine WC.region ?_
  refine wl1 (op_box (by decide) rfl rfl) rfl fun b1 => ?_
  refine wl1 (op_box (by decide) rfl rfl) rfl fun b2 => ?_
  refine wlv (op_assign (by decide) rfl) rfl ?_
  refine WL.nil ?_
  refine WX.regs (L' := [(2, _), (3, _)]) (by repeat (first | exact RS.nil | refine RS.cons rfl ?_)) ?_
  refine WX.next ?_
  refine WC.seq ?_
  refine WC.region ?_
  refine wlv (op_fieldAddr fo24_0 (by decide) rfl) rfl ?_
  refine wlv (op_load1 fl3 (by decide) rfl (by repeat (first | exact List.Mem.head _ | apply List.Mem.tail)) rfl) rfl ?_
  refine wlv (op_fieldAddr fo24_0 (by decide) rfl) rfl ?_
  refine wlv (op_load1 fl3 (by decide) rfl (by repeat (first | exact List.Mem.head _ | apply List.Mem.tail)) rfl) rfl ?_
  refine wlv (op_eql (by decide) rfl rfl) rfl ?_
  refine wlv (op_move (by decide) rfl) rfl ?_
  refine WL.split (t := 10) rfl (fun g10 => ?_) (fun g10 => ?_)
  ·
    refine wlgv (op_fieldAddr fo24_1 (by decide) rfl) rfl rfl rfl ?_
    refine wlgv (op_load1 fl3 (by decide) rfl (by repeat (first | exact List.Mem.head _ | apply List.Mem.tail)) rfl) rfl rfl rfl ?_
    refine wlgv (op_fieldAddr fo24_1 (by decide) rfl) rfl rfl rfl ?_
    refine wlgv (op_load1 fl3 (by decide) rfl (by repeat (first | exact List.Mem.head _ | apply List.Mem.tail)) rfl) rfl rfl rfl ?_
    refine wlgv (op_eql (by decide) rfl rfl) rfl rfl rfl ?_
    refine wlv (op_pickT (by decide) rfl rfl) rfl ?_
    refine wlv (op_move (by decide) rfl) rfl ?_
    refine WL.split (t := 17) rfl (fun g17 => ?_) (fun g17 => ?_)
    ·
      refine wlgv (op_fieldAddr fo24_2 (by decide) rfl) rfl rfl rfl ?_
      refine wlgv (op_load1 fl3 (by decide) rfl (by repeat (first | exact List.Mem.head _ | apply List.Mem.tail)) rfl) rfl rfl rfl ?_
      refine wlgv (op_fieldAddr fo24_2 (by decide) rfl) rfl rfl rfl ?_
      refine wlgv (op_load1 fl3 (by decide) rfl (by repeat (first | exact List.Mem.head _ | apply List.Mem.tail)) rfl) rfl rfl rfl ?_
      refine wlgv (op_eql (by decide) rfl rfl) rfl rfl rfl ?_
      refine wlv (op_pickT (by decide) rfl rfl) rfl ?_
      refine wlv (op_move (by decide) rfl) rfl ?_
      refine WL.split (t := 24) rfl (fun g24 => ?_) (fun g24 => ?_)
      ·
        refine wlgv (op_fieldAddr fo24_3 (by decide) rfl) rfl rfl rfl ?_
        refine wlgv (op_load1 fl3 (by decide) rfl (by repeat (first | exact List.Mem.head _ | apply List.Mem.tail)) rfl) rfl rfl rfl ?_
        refine wlgv (op_fieldAddr fo24_3 (by decide) rfl) rfl rfl rfl ?_
        refine wlgv (op_load1 fl3 (by decide) rfl (by repeat (first | exact List.Mem.head _ | apply List.Mem.tail)) rfl) rfl rfl rfl ?_
        refine wlgv (op_eql (by decide) rfl rfl) rfl rfl rfl ?_
        refine wlv (op_pickT (by decide) rfl rfl) rfl ?_
        refine wlv (op_move (by decide) rfl) rfl ?_
        refine WL.split (t := 31) rfl (fun g31 => ?_) (fun g31 => ?_)
        ·
          refine wlgv (op_fieldAddr fo24_4 (by decide) rfl) rfl rfl rfl ?_
          refine wlgv (op_load1 fl3 (by decide) rfl (by repeat (first | exact List.Mem.head _ | apply List.Mem.tail)) rfl) rfl rfl rfl ?_
          refine wlgv (op_fieldAddr fo24_4 (by decide) rfl) rfl rfl rfl ?_
          refine wlgv (op_load1 fl3 (by decide) rfl (by repeat (first | exact List.Mem.head _ | apply List.Mem.tail)) rfl) rfl rfl rfl ?_
          refine wlgv (op_eql (by decide) rfl rfl) rfl rfl rfl ?_
          refine wlv (op_pickT (by decide) rfl rfl) rfl ?_
          refine wlv (op_move (by decide) rfl) rfl ?_
          refine WL.split (t := 38) rfl (fun g38 => ?_) (fun g38 => ?_)
          ·
            refine wlgv (op_fieldAddr fo24_5 (by decide) rfl) rfl rfl rfl ?_
            refine wlgv (op_load1 fl22 (by decide) rfl (by repeat (first | exact List.Mem.head _ | apply List.Mem.tail)) rfl) rfl rfl rfl ?_
            refine wlgv (op_bytesStr Try.underlying22 Try.underlying5 Try.underlying9 (by decide) rfl (by first | (apply Src.rd; (repeat (first | exact List.Mem.head _ | apply List.Mem.tail)); done) | (apply Src.own; (repeat (first | exact List.Mem.head _ | apply List.Mem.tail)); done) | (apply Src.rx; (repeat (first | exact List.Mem.head _ | apply List.Mem.tail)); done))) rfl rfl rfl ?_
            refine wlgv (op_fieldAddr fo24_5 (by decide) rfl) rfl rfl rfl ?_
            refine wlgv (op_load1 fl22 (by decide) rfl (by repeat (first | exact List.Mem.head _ | apply List.Mem.tail)) rfl) rfl rfl rfl ?_
            refine wlgv (op_bytesStr Try.underlying22 Try.underlying5 Try.underlying9 (by decide) rfl (by first | (apply Src.rd; (repeat (first | exact List.Mem.head _ | apply List.Mem.tail)); done) | (apply Src.own; (repeat (first | exact List.Mem.head _ | apply List.Mem.tail)); done) | (apply Src.rx; (repeat (first | exact List.Mem.head _ | apply List.Mem.tail)); done))) rfl rfl rfl ?_
            refine wlgv (op_eqls (by decide) rfl rfl) rfl rfl rfl ?_
            refine wlv (op_pickT (by decide) rfl rfl) rfl ?_
            refine wlv (op_assign (by decide) rfl) rfl ?_
            refine WL.nil ?_
            refine WX.regs (L' := [(4, _)]) (by repeat (first | exact RS.nil | refine RS.cons rfl ?_)) ?_
            refine WX.next ?_
            refine WC.ret ?_
            exact Fin.ret1 (by first | exact .inl rfl | exact .inr rfl) (_) (by simp only [true_eq_decide_iff, false_eq_decide_iff, decide_eq_decide]; simp_all) Try.results23 (.tmp rfl) (by repeat (first | exact Takes.nil | exact Take.here | apply Takes.cons | apply Take.there)) (by simp)
          ·
            refine wlg_no rfl rfl rfl rfl rfl (by decide) ?_
            refine wlg_no rfl rfl rfl rfl rfl (by decide) ?_
            refine wlg_no rfl rfl rfl rfl rfl (by decide) ?_
            refine wlg_no rfl rfl rfl rfl rfl (by decide) ?_
            refine wlg_no rfl rfl rfl rfl rfl (by decide) ?_
            refine wlg_no rfl rfl rfl rfl rfl (by decide) ?_
            refine wlg_no rfl rfl rfl rfl rfl (by decide) ?_
            refine wlv (op_pickF (by decide) rfl rfl) rfl ?_
            refine wlv (op_assign (by decide) rfl) rfl ?_
            refine WL.nil ?_
            refine WX.regs (L' := [(4, _)]) (by repeat (first | exact RS.nil | refine RS.cons rfl ?_)) ?_
            refine WX.next ?_
            refine WC.ret ?_
            exact Fin.ret1 (by first | exact .inl rfl | exact .inr rfl) (_) (by simp only [true_eq_decide_iff, false_eq_decide_iff, decide_eq_decide]; simp_all) Try.results23 (.tmp rfl) (by repeat (first | exact Takes.nil | exact Take.here | apply Takes.cons | apply Take.there)) (by simp)
        ·
          refine wlg_no rfl rfl rfl rfl rfl (by decide) ?_
          refine wlg_no rfl rfl rfl rfl rfl (by decide) ?_
          refine wlg_no rfl rfl rfl rfl rfl (by decide) ?_
          refine wlg_no rfl rfl rfl rfl rfl (by decide) ?_
          refine wlg_no rfl rfl rfl rfl rfl (by decide) ?_
          refine wlv (op_pickF (by decide) rfl rfl) rfl ?_
          refine wlv (op_move (by decide) rfl) rfl ?_
          refine wlg_no rfl rfl rfl rfl rfl (by decide) ?_
          refine wlg_no rfl rfl rfl rfl rfl (by decide) ?_
          refine wlg_no rfl rfl rfl rfl rfl (by decide) ?_
          refine wlg_no rfl rfl rfl rfl rfl (by decide) ?_
          refine wlg_no rfl rfl rfl rfl rfl (by decide) ?_
          refine wlg_no rfl rfl rfl rfl rfl (by decide) ?_
          refine wlg_no rfl rfl rfl rfl rfl (by decide) ?_
          refine wlv (op_pickF (by decide) rfl rfl) rfl ?_
          refine wlv (op_assign (by decide) rfl) rfl ?_
          refine WL.nil ?_
          refine WX.regs (L' := [(4, _)]) (by repeat (first | exact RS.nil | refine RS.cons rfl ?_)) ?_
          refine WX.next ?_
          refine WC.ret ?_
          exact Fin.ret1 (by first | exact .inl rfl | exact .inr rfl) (_) (by simp only [true_eq_decide_iff, false_eq_decide_iff, decide_eq_decide]; simp_all) Try.results23 (.tmp rfl) (by repeat (first | exact Takes.nil | exact Take.here | apply Takes.cons | apply Take.there)) (by simp)
      ·
        refine wlg_no rfl rfl rfl rfl rfl (by decide) ?_
        refine wlg_no rfl rfl rfl rfl rfl (by decide) ?_
        refine wlg_no rfl rfl rfl rfl rfl (by decide) ?_
        refine wlg_no rfl rfl rfl rfl rfl (by decide) ?_
        refine wlg_no rfl rfl rfl rfl rfl (by decide) ?_
        refine wlv (op_pickF (by decide) rfl rfl) rfl ?_
        refine wlv (op_move (by decide) rfl) rfl ?_
        refine wlg_no rfl rfl rfl rfl rfl (by decide) ?_
        refine wlg_no rfl rfl rfl rfl rfl (by decide) ?_
        refine wlg_no rfl rfl rfl rfl rfl (by decide) ?_
        refine wlg_no rfl rfl rfl rfl rfl (by decide) ?_
        refine wlg_no rfl rfl rfl rfl rfl (by decide) ?_
        refine wlv (op_pickF (by decide) rfl rfl) rfl ?_
        refine wlv (op_move (by decide) rfl) rfl ?_
        refine wlg_no rfl rfl rfl rfl rfl (by decide) ?_
        refine wlg_no rfl rfl rfl rfl rfl (by decide) ?_
        refine wlg_no rfl rfl rfl rfl rfl (by decide) ?_
        refine wlg_no rfl rfl rfl rfl rfl (by decide) ?_
        refine wlg_no rfl rfl rfl rfl rfl (by decide) ?_
        refine wlg_no rfl rfl rfl rfl rfl (by decide) ?_
        refine wlg_no rfl rfl rfl rfl rfl (by decide) ?_
        refine wlv (op_pickF (by decide) rfl rfl) rfl ?_
        refine wlv (op_assign (by decide) rfl) rfl ?_
        refine WL.nil ?_
        refine WX.regs (L' := [(4, _)]) (by repeat (first | exact RS.nil | refine RS.cons rfl ?_)) ?_
        refine WX.next ?_
        refine WC.ret ?_
        exact Fin.ret1 (by first | exact .inl rfl | exact .inr rfl) (_) (by simp only [true_eq_decide_iff, false_eq_decide_iff, decide_eq_decide]; simp_all) Try.results23 (.tmp rfl) (by repeat (first | exact Takes.nil | exact Take.here | apply Takes.cons | apply Take.there)) (by simp)
    ·
      refine wlg_no rfl rfl rfl rfl rfl (by decide) ?_
      refine wlg_no rfl rfl rfl rfl rfl (by decide) ?_
      refine wlg_no rfl rfl rfl rfl rfl (by decide) ?_
      refine wlg_no rfl rfl rfl rfl rfl (by decide) ?_
      refine wlg_no rfl rfl rfl rfl rfl (by decide) ?_
      refine wlv (op_pickF (by decide) rfl rfl) rfl ?_
      refine wlv (op_move (by decide) rfl) rfl ?_
      refine wlg_no rfl rfl rfl rfl rfl (by decide) ?_
      refine wlg_no rfl rfl rfl rfl rfl (by decide) ?_
      refine wlg_no rfl rfl rfl rfl rfl (by decide) ?_
      refine wlg_no rfl rfl rfl rfl rfl (by decide) ?_
      refine wlg_no rfl rfl rfl rfl rfl (by decide) ?_
      refine wlv (op_pickF (by decide) rfl rfl) rfl ?_
      refine wlv (op_move (by decide) rfl) rfl ?_
      refine wlg_no rfl rfl rfl rfl rfl (by decide) ?_
      refine wlg_no rfl rfl rfl rfl rfl (by decide) ?_
      refine wlg_no rfl rfl rfl rfl rfl (by decide) ?_
      refine wlg_no rfl rfl rfl rfl rfl (by decide) ?_
      refine wlg_no rfl rfl rfl rfl rfl (by decide) ?_
      refine wlv (op_pickF (by decide) rfl rfl) rfl ?_
      refine wlv (op_move (by decide) rfl) rfl ?_
      refine wlg_no rfl rfl rfl rfl rfl (by decide) ?_
      refine wlg_no rfl rfl rfl rfl rfl (by decide) ?_
      refine wlg_no rfl rfl rfl rfl rfl (by decide) ?_
      refine wlg_no rfl rfl rfl rfl rfl (by decide) ?_
      refine wlg_no rfl rfl rfl rfl rfl (by decide) ?_
      refine wlg_no rfl rfl rfl rfl rfl (by decide) ?_
      refine wlg_no rfl rfl rfl rfl rfl (by decide) ?_
      refine wlv (op_pickF (by decide) rfl rfl) rfl ?_
      refine wlv (op_assign (by decide) rfl) rfl ?_
      refine WL.nil ?_
      refine WX.regs (L' := [(4, _)]) (by repeat (first | exact RS.nil | refine RS.cons rfl ?_)) ?_
      refine WX.next ?_
      refine WC.ret ?_
      exact Fin.ret1 (by first | exact .inl rfl | exact .inr rfl) (_) (by simp only [true_eq_decide_iff, false_eq_decide_iff, decide_eq_decide]; simp_all) Try.results23 (.tmp rfl) (by repeat (first | exact Takes.nil | exact Take.here | apply Takes.cons | apply Take.there)) (by simp)
  ·
    refine wlg_no rfl rfl rfl rfl rfl (by decide) ?_
    refine wlg_no rfl rfl rfl rfl rfl (by decide) ?_
    refine wlg_no rfl rfl rfl rfl rfl (by decide) ?_
    refine wlg_no rfl rfl rfl rfl rfl (by decide) ?_
    refine wlg_no rfl rfl rfl rfl rfl (by decide) ?_
    refine wlv (op_pickF (by decide) rfl rfl) rfl ?_
    refine wlv (op_move (by decide) rfl) rfl ?_
    refine wlg_no rfl rfl rfl rfl rfl (by decide) ?_
    refine wlg_no rfl rfl rfl rfl rfl (by decide) ?_
    refine wlg_no rfl rfl rfl rfl rfl (by decide) ?_
    refine wlg_no rfl rfl rfl rfl rfl (by decide) ?_
    refine wlg_no rfl rfl rfl rfl rfl (by decide) ?_
    refine wlv (op_pickF (by decide) rfl rfl) rfl ?_
    refine wlv (op_move (by decide) rfl) rfl ?_
    refine wlg_no rfl rfl rfl rfl rfl (by decide) ?_
    refine wlg_no rfl rfl rfl rfl rfl (by decide) ?_
    refine wlg_no rfl rfl rfl rfl rfl (by decide) ?_
    refine wlg_no rfl rfl rfl rfl rfl (by decide) ?_
    refine wlg_no rfl rfl rfl rfl rfl (by decide) ?_
    refine wlv (op_pickF (by decide) rfl rfl) rfl ?_
    refine wlv (op_move (by decide) rfl) rfl ?_
    refine wlg_no rfl rfl rfl rfl rfl (by decide) ?_
    refine wlg_no rfl rfl rfl rfl rfl (by decide) ?_
    refine wlg_no rfl rfl rfl rfl rfl (by decide) ?_
    refine wlg_no rfl rfl rfl rfl rfl (by decide) ?_
    refine wlg_no rfl rfl rfl rfl rfl (by decide) ?_
    refine wlv (op_pickF (by decide) rfl rfl) rfl ?_
    refine wlv (op_move (by decide) rfl) rfl ?_
    refine wlg_no rfl rfl rfl rfl rfl (by decide) ?_
    refine wlg_no rfl rfl rfl rfl rfl (by decide) ?_
    refine wlg_no rfl rfl rfl rfl rfl (by decide) ?_
    refine wlg_no rfl rfl rfl rfl rfl (by decide) ?_
    refine wlg_no rfl rfl rfl rfl rfl (by decide) ?_
    refine wlg_no rfl rfl rfl rfl rfl (by decide) ?_
    refine wlg_no rfl rfl rfl rfl rfl (by decide) ?_
    refine wlv (op_pickF (by decide) rfl rfl) rfl ?_
    refine wlv (op_assign (by decide) rfl) rfl ?_
    refine WL.nil ?_
    refine WX.regs (L' := [(4, _)]) (by repeat (first | exact RS.nil | refine RS.cons rfl ?_)) ?_
    refine WX.next ?_
    refine WC.ret ?_
    exact Fin.ret1 (by first | exact .inl rfl | exact .inr rfl) (_) (by simp only [true_eq_decide_iff, false_eq_decide_iff, decide_eq_decide]; simp_all) Try.results23 (.tmp rfl) (by repeat (first | exact Takes.nil | exact Take.here | apply Takes.cons | apply Take.there)) (by simp)
set_option maxHeartbeats 400000 in
set_option maxRecDepth 10000 in
theorem f27_spec (k g n : Int) (A : Option Addr) (m c : Nat) (bs : List UInt8) (hm : bs.length = m) :
    Spec Try.prog 27 [.agg #[.int .i64 k, .int .i64 g, .int .i64 n, .slice A m c]] [] [rd (.slice A m c) 1 m (bvs bs)] (R := Option Addr × Nat) (fun _ => True)
      (fun q => .agg #[.int .i64 k, .int .i64 g, .int .i64 n, .slice q.1 (min m 2000) q.2]) (fun q => [own (.slice q.1 (min m 2000) q.2) 5 1 (min m 2000) (bvs (bs.take 2000))]) := by
  refine Spec.intro Try.func27 Try.ntmps27 rfl (by simp) (by simp) fun w0 => ?_
  refine WC.seq ?_
  refine WC.region ?_
  refine wl1 (op_box (by decide) rfl rfl) rfl fun b1 => ?_
  refine wl1 (op_alloc ti50 (by decide)) rfl fun b2 => ?_
  refine WL.nil ?_
  refine WX.regs (L' := [(1, _), (2, _)]) (by repeat (first | exact RS.nil | refine RS.cons rfl ?_)) ?_
  refine WX.next ?_
  refine WC.seq ?_
  refine WC.drawnH mo 16 ?_
  refine WA.capx (by first | (apply Src.rd; (repeat (first | exact List.Mem.head _ | apply List.Mem.tail)); done) | (apply Src.own; (repeat (first | exact List.Mem.head _ | apply List.Mem.tail)); done) | (apply Src.rx; (repeat (first | exact List.Mem.head _ | apply List.Mem.tail)); done)) (fun hcap => ?_)
  refine WA.dup (c := rd (.slice A m c) 1 m (bvs bs)) (d := rd (sliced A 0 (min m 2000) c 1) 1 (min m 2000 - 0) (bvs ((bs.drop 0).take (min m 2000 - 0)))) (by repeat (first | exact List.Mem.head _ | apply List.Mem.tail)) (by simp) (by simp) (rd_subB (l := 0) (h := min m 2000) (by omega) (by omega)) ?_
  refine WA.take (i := 0) rfl (by kernel_rfl) (fun _ _ _ h => h) rfl (op_fieldAddr fo49_0 (by decide) rfl) (by repeat (first | exact Takes.nil | exact Take.here | apply Takes.cons | apply Take.there)) ?_
  refine WA.take (i := 1) rfl (by kernel_rfl) (fun _ _ _ h => h) rfl (op_load1 fl3 (by decide) rfl (by repeat (first | exact List.Mem.head _ | apply List.Mem.tail)) rfl) (by repeat (first | exact Takes.nil | exact Take.here | apply Takes.cons | apply Take.there)) ?_
  refine WA.take (i := 2) rfl (by kernel_rfl) (fun _ _ _ h => h) rfl (op_fieldAddr fo49_1 (by decide) rfl) (by repeat (first | exact Takes.nil | exact Take.here | apply Takes.cons | apply Take.there)) ?_
  refine WA.take (i := 3) rfl (by kernel_rfl) (fun _ _ _ h => h) rfl (op_load1 fl3 (by decide) rfl (by repeat (first | exact List.Mem.head _ | apply List.Mem.tail)) rfl) (by repeat (first | exact Takes.nil | exact Take.here | apply Takes.cons | apply Take.there)) ?_
  refine WA.take (i := 4) rfl (by kernel_rfl) (fun _ _ _ h => h) rfl (op_fieldAddr fo49_2 (by decide) rfl) (by repeat (first | exact Takes.nil | exact Take.here | apply Takes.cons | apply Take.there)) ?_
  refine WA.take (i := 5) rfl (by kernel_rfl) (fun _ _ _ h => h) rfl (op_load1 fl3 (by decide) rfl (by repeat (first | exact List.Mem.head _ | apply List.Mem.tail)) rfl) (by repeat (first | exact Takes.nil | exact Take.here | apply Takes.cons | apply Take.there)) ?_
  refine WA.take (i := 7) rfl (by kernel_rfl) (fun _ _ _ h => h) rfl (op_fieldAddr fo49_3 (by decide) rfl) (by repeat (first | exact Takes.nil | exact Take.here | apply Takes.cons | apply Take.there)) ?_
  refine WA.take (i := 8) rfl (by kernel_rfl) (fun _ _ _ h => h) rfl (op_load1 fl22 (by decide) rfl (by repeat (first | exact List.Mem.head _ | apply List.Mem.tail)) rfl) (by repeat (first | exact Takes.nil | exact Take.here | apply Takes.cons | apply Take.there)) ?_
  refine WA.take (i := 9) rfl (by kernel_rfl) (fun _ _ _ h => h) rfl (op_fieldAddr fo49_3 (by decide) rfl) (by repeat (first | exact Takes.nil | exact Take.here | apply Takes.cons | apply Take.there)) ?_
  refine WA.take (i := 10) rfl (by kernel_rfl) (fun _ _ _ h => h) rfl (op_load1 fl22 (by decide) rfl (by repeat (first | exact List.Mem.head _ | apply List.Mem.tail)) rfl) (by repeat (first | exact Takes.nil | exact Take.here | apply Takes.cons | apply Take.there)) ?_
  refine WA.take (i := 11) rfl (by kernel_rfl) (fun _ _ _ h => h) rfl (op_len Try.underlying22 (by decide) rfl) (by repeat (first | exact Takes.nil | exact Take.here | apply Takes.cons | apply Take.there)) ?_
  refine WA.take (i := 12) rfl (by kernel_rfl) (fun _ _ _ h => h) rfl (op_minN (a := m) (b := 2000) (by decide) rfl rfl) (by repeat (first | exact Takes.nil | exact Take.here | apply Takes.cons | apply Take.there)) ?_
  refine WA.take (i := 13) rfl (by kernel_rfl) (fun _ _ _ h => h) rfl (op_slice_h Try.underlying22 sz5 (by decide) rfl rfl (by omega) (by omega)) (by repeat (first | exact Takes.nil | exact Take.here | apply Takes.cons | apply Take.there)) ?_
  refine WA.step1 (i := 6) (by kernel_rfl) rfl rfl (op_lit0 Try.underlying22 ti5 (by decide)) (fun _ b => (by repeat (first | exact Takes.nil | exact Take.here | apply Takes.cons | apply Take.there))) fun b3 => ?_
  refine WA.step2 (i := 14) (by kernel_rfl) rfl rfl (op_append0 Try.underlying22 ti5 rfl (by decide) (by decide) rfl rfl (by repeat (first | exact Take.here | apply Take.there)) (by first | (apply Src.rd; (repeat (first | exact List.Mem.head _ | apply List.Mem.tail)); done) | (apply Src.own; (repeat (first | exact List.Mem.head _ | apply List.Mem.tail)); done) | (apply Src.rx; (repeat (first | exact List.Mem.head _ | apply List.Mem.tail)); done)) (by first | rfl | exact wvs_one _ | exact bvs_one _) (by omega) (by omega)) (fun _ A c => (by repeat (first | exact Takes.nil | exact Take.here | apply Takes.cons | apply Take.there))) fun A1 c1 => ?_
  refine WA.take (i := 15) rfl (by kernel_rfl) (fun _ _ _ h => h) rfl (op_build (cs := [.int .i64 k, .int .i64 g, .int .i64 n, .slice A1 (min m 2000) c1]) (pv := [(0, _), (1, _), (2, _), (3, _)]) (by decide) rfl (by kernel_rfl)) (by repeat (first | exact Takes.nil | exact Take.here | apply Takes.cons | apply Take.there)) ?_
  refine WA.stepo (G := []) (i := 16) (by kernel_rfl) rfl rfl (op_storeAll sz50 rfl rfl (by repeat (first | exact Take.here | apply Take.there)) (by first | rfl | (simp [Value.cells]; done) | (simp [Value.cells]; omega)) (by first | rfl | exact wvs_one _ | exact bvs_one _) (by first | rfl | (simp [Value.cells]; done) | (simp [Value.cells]; omega))) (fun h => absurd rfl h) ?_
  refine WA.done (by kernel_rfl) ?_
  refine WX.blkEq (b := b2) ([.int .i64 k, .int .i64 g, .int .i64 n, .slice A1 (min m 2000) c1]) (by repeat (first | exact Take.here | apply Take.there)) (by rfl) ?_
  refine WX.ownEq (v := .slice A1 (min m 2000) c1) _ (by repeat (first | exact Take.here | apply Take.there)) (congrArg bvs (take_min bs m 2000 hm)) ?_
  refine WX.regs (L' := [(2, _)]) (by repeat (first | exact RS.nil | refine RS.cons rfl ?_)) ?_
  refine WX.next ?_
  refine WC.ret ?_
  exact Fin.ret1 (by first | exact .inl rfl | exact .inr rfl) ((A1, c1)) (trivial) Try.results27 (.cellN rfl ag50 (by repeat (first | exact List.Mem.head _ | apply List.Mem.tail)) (by first | rfl | (simp [Value.cells]; done) | (simp [Value.cells]; omega))) (by repeat (first | exact Takes.nil | exact Take.here | apply Takes.cons | apply Take.there)) (by simp)
set_option maxHeartbeats 400000 in
set_option maxRecDepth 10000 in
theorem f30_spec (k g n : Int) (A : Option Addr) (m e : Nat) :
    Spec Try.prog 30 [.agg #[.int .i64 k, .int .i64 g, .int .i64 n, .slice A m e]] [] [] (R := Unit) (fun _ => True) (fun _ => .agg #[.int .i64 k, .int .i64 g, .int .i64 n, .slice A m e]) (fun _ => []) := by
  refine Spec.intro Try.func30 Try.ntmps30 rfl (by simp) (by simp) fun w0 => ?_
  refine WC.seq ?_
  refine WC.region ?_
  refine wl1 (op_box (by decide) rfl rfl) rfl fun b1 => ?_
  refine wl1 (op_alloc ti49 (by decide)) rfl fun b2 => ?_
  refine WL.nil ?_
  refine WX.regs (L' := [(1, _), (2, _)]) (by repeat (first | exact RS.nil | refine RS.cons rfl ?_)) ?_
  refine WX.next ?_
  refine WC.seq ?_
  refine WC.region ?_
  refine wlv (op_fieldAddr fo50_0 (by decide) rfl) rfl ?_
  refine wlv (op_load1 fl3 (by decide) rfl (by repeat (first | exact List.Mem.head _ | apply List.Mem.tail)) rfl) rfl ?_
  refine wlv (op_fieldAddr fo50_1 (by decide) rfl) rfl ?_
  refine wlv (op_load1 fl3 (by decide) rfl (by repeat (first | exact List.Mem.head _ | apply List.Mem.tail)) rfl) rfl ?_
  refine wlv (op_fieldAddr fo50_2 (by decide) rfl) rfl ?_
  refine wlv (op_load1 fl3 (by decide) rfl (by repeat (first | exact List.Mem.head _ | apply List.Mem.tail)) rfl) rfl ?_
  refine wlv (op_fieldAddr fo50_3 (by decide) rfl) rfl ?_
  refine wlv (op_load1 fl22 (by decide) rfl (by repeat (first | exact List.Mem.head _ | apply List.Mem.tail)) rfl) rfl ?_
  refine wlv (op_build (cs := [.int .i64 k, .int .i64 g, .int .i64 n, .slice A m e]) (pv := [(0, _), (1, _), (2, _), (3, _)]) (by decide) rfl (by kernel_rfl)) rfl ?_
  refine wl (op_storeAll sz49 rfl rfl (by repeat (first | exact Take.here | apply Take.there)) (by first | rfl | (simp [Value.cells]; done) | (simp [Value.cells]; omega)) (by first | rfl | exact wvs_one _ | exact bvs_one _) (by first | rfl | (simp [Value.cells]; done) | (simp [Value.cells]; omega))) rfl ?_
  change WL _ _ _ _ _ _ _
  refine WL.nil ?_
  refine WX.regs (L' := [(2, _)]) (by repeat (first | exact RS.nil | refine RS.cons rfl ?_)) ?_
  refine WX.next ?_
  refine WC.ret ?_
  exact Fin.ret1 (by first | exact .inl rfl | exact .inr rfl) (()) (trivial) Try.results30 (.cellN rfl ag49 (by repeat (first | exact List.Mem.head _ | apply List.Mem.tail)) (by first | rfl | (simp [Value.cells]; done) | (simp [Value.cells]; omega))) (by repeat (first | exact Takes.nil | exact Take.here | apply Takes.cons | apply Take.there)) (by simp)
set_option maxHeartbeats 400000 in
set_option maxRecDepth 10000 in
theorem f26_spec (A B : Option Addr) (m c m2 c2 : Nat) (xs ys : List UInt8) (hx : xs.length = m) (hy : ys.length = m2) (hm : m < 100000) (hm2 : m2 < 100000) :
    Spec Try.prog 26 [.slice A m c, .slice B m2 c2] [] [rd (.slice A m c) 1 m (bvs xs), rd (.slice B m2 c2) 1 m2 (bvs ys)] (R := Bool)
      (fun b => b = decide (¬ xs = ys ∧ (sha xs).take 16 = (sha ys).take 16)) (fun b => .bool b) (fun _ => []) := by
  refine Spec.intro Try.func26 Try.ntmps26 rfl (by simp) (by simp) fun w0 => ?_
  refine WC.seq ?_
  refine WC.region ?_
  refine wlv (op_assign (by decide) rfl) rfl ?_
  refine WL.nil ?_
  refine WX.regs (L' := [(0, _), (1, _)]) (by repeat (first | exact RS.nil | refine RS.cons rfl ?_)) ?_
  refine WX.next ?_
  refine WC.seq ?_
  refine WC.region ?_
  refine wlv (op_move (by decide) rfl) rfl ?_
  refine wlx (op_call (f56_spec A m c xs hx hm) ca56 (by decide) rfl (by apply Give.mk; (repeat (first | exact Takes.nil | exact Take.here | apply Takes.cons | apply Take.there)); repeat (first | exact Reads.nil | (apply Reads.rd; (focus (repeat (first | exact List.Mem.head _ | apply List.Mem.tail)); done)) | (apply Reads.own; (focus (repeat (first | exact List.Mem.head _ | apply List.Mem.tail)); done)) | (apply Reads.rx; (focus (repeat (first | exact List.Mem.head _ | apply List.Mem.tail)); done)) | (apply Reads.rows (e := false); (focus (repeat (first | exact List.Mem.head _ | apply List.Mem.tail)); done)) | (apply Reads.rows (e := true); (focus (repeat (first | exact List.Mem.head _ | apply List.Mem.tail)); done))))) rfl ?_
  rintro _ _
  refine wlv (op_move (by decide) rfl) rfl ?_
  refine wlx (op_call (f56_spec B m2 c2 ys hy hm2) ca56 (by decide) rfl (by apply Give.mk; (repeat (first | exact Takes.nil | exact Take.here | apply Takes.cons | apply Take.there)); repeat (first | exact Reads.nil | (apply Reads.rd; (focus (repeat (first | exact List.Mem.head _ | apply List.Mem.tail)); done)) | (apply Reads.own; (focus (repeat (first | exact List.Mem.head _ | apply List.Mem.tail)); done)) | (apply Reads.rx; (focus (repeat (first | exact List.Mem.head _ | apply List.Mem.tail)); done)) | (apply Reads.rows (e := false); (focus (repeat (first | exact List.Mem.head _ | apply List.Mem.tail)); done)) | (apply Reads.rows (e := true); (focus (repeat (first | exact List.Mem.head _ | apply List.Mem.tail)); done))))) rfl ?_
  rintro _ _
  refine wl1 (op_alloc ti108 (by decide)) rfl fun b1 => ?_
  refine wl1 (op_alloc ti108 (by decide)) rfl fun b2 => ?_
  refine wl (op_storeAll sz108 rfl rfl (by repeat (first | exact Take.here | apply Take.there)) (by first | rfl | (simp [Value.cells]; done) | (simp [Value.cells]; omega)) (by first | rfl | exact wvs_one _ | exact bvs_one _) (by first | rfl | (simp [Value.cells]; done) | (simp [Value.cells]; omega))) rfl ?_
  change WL _ _ _ _ _ _ _
  refine wl (op_storeAll sz108 rfl rfl (by repeat (first | exact Take.here | apply Take.there)) (by first | rfl | (simp [Value.cells]; done) | (simp [Value.cells]; omega)) (by first | rfl | exact wvs_one _ | exact bvs_one _) (by first | rfl | (simp [Value.cells]; done) | (simp [Value.cells]; omega))) rfl ?_
  change WL _ _ _ _ _ _ _
  refine WL.nil ?_
  refine WX.turn (c := blk b1 (bvs (sha xs)) 108) (d := rd (.slice (some ⟨b1, 0, none⟩) 16 32) 1 16 (bvs ((sha xs).take 16))) (by repeat (first | exact Take.here | apply Take.there)) (blk_le_rd (by decide) (by decide) (by simp [bvs]) (by simp [sha_length])) ?_
  refine WX.turn (c := blk b2 (bvs (sha ys)) 108) (d := rd (.slice (some ⟨b2, 0, none⟩) 16 32) 1 16 (bvs ((sha ys).take 16))) (by repeat (first | exact Take.here | apply Take.there)) (blk_le_rd (by decide) (by decide) (by simp [bvs]) (by simp [sha_length])) ?_
  refine WX.regs (L' := [(0, _), (1, _), (5, _), (6, _)]) (by repeat (first | exact RS.nil | refine RS.cons rfl ?_)) ?_
  refine WX.next ?_
  refine WC.seq ?_
  refine WC.drawnH mo 999 ?_
  refine WA.take (i := 0) rfl (by kernel_rfl) (fun _ _ _ h => h) rfl (op_move (by decide) rfl) (by repeat (first | exact Takes.nil | exact Take.here | apply Takes.cons | apply Take.there)) ?_
  refine WA.take (i := 1) rfl (by kernel_rfl) (fun _ _ _ h => h) rfl (op_bytesStr Try.underlying22 Try.underlying5 Try.underlying9 (by decide) rfl (by first | (apply Src.rd; (repeat (first | exact List.Mem.head _ | apply List.Mem.tail)); done) | (apply Src.own; (repeat (first | exact List.Mem.head _ | apply List.Mem.tail)); done) | (apply Src.rx; (repeat (first | exact List.Mem.head _ | apply List.Mem.tail)); done))) (by repeat (first | exact Takes.nil | exact Take.here | apply Takes.cons | apply Take.there)) ?_
  refine WA.take (i := 2) rfl (by kernel_rfl) (fun _ _ _ h => h) rfl (op_move (by decide) rfl) (by repeat (first | exact Takes.nil | exact Take.here | apply Takes.cons | apply Take.there)) ?_
  refine WA.take (i := 3) rfl (by kernel_rfl) (fun _ _ _ h => h) rfl (op_bytesStr Try.underlying22 Try.underlying5 Try.underlying9 (by decide) rfl (by first | (apply Src.rd; (repeat (first | exact List.Mem.head _ | apply List.Mem.tail)); done) | (apply Src.own; (repeat (first | exact List.Mem.head _ | apply List.Mem.tail)); done) | (apply Src.rx; (repeat (first | exact List.Mem.head _ | apply List.Mem.tail)); done))) (by repeat (first | exact Takes.nil | exact Take.here | apply Takes.cons | apply Take.there)) ?_
  refine WA.take (i := 4) rfl (by kernel_rfl) (fun _ _ _ h => h) rfl (op_neqs (by decide) rfl rfl) (by repeat (first | exact Takes.nil | exact Take.here | apply Takes.cons | apply Take.there)) ?_
  refine WA.take (i := 5) rfl (by kernel_rfl) (fun _ _ _ h => h) rfl (op_move (by decide) rfl) (by repeat (first | exact Takes.nil | exact Take.here | apply Takes.cons | apply Take.there)) ?_
  refine WA.split (t := 16) rfl (fun g16 => ?_) (fun g16 => ?_)
  ·
    refine WA.takeG (i := 6) rfl (by kernel_rfl) (fun _ _ _ h => h) rfl rfl rfl (op_sliceArr_h Try.underlying108 sz5 (by decide) rfl rfl (by decide) (by decide)) (by repeat (first | exact Takes.nil | exact Take.here | apply Takes.cons | apply Take.there)) ?_
    refine WA.takeG (i := 7) rfl (by kernel_rfl) (fun _ _ _ h => h) rfl rfl rfl (op_bytesStr Try.underlying22 Try.underlying5 Try.underlying9 (by decide) rfl (by first | (apply Src.rd; (repeat (first | exact List.Mem.head _ | apply List.Mem.tail)); done) | (apply Src.own; (repeat (first | exact List.Mem.head _ | apply List.Mem.tail)); done) | (apply Src.rx; (repeat (first | exact List.Mem.head _ | apply List.Mem.tail)); done))) (by repeat (first | exact Takes.nil | exact Take.here | apply Takes.cons | apply Take.there)) ?_
    refine WA.takeG (i := 8) rfl (by kernel_rfl) (fun _ _ _ h => h) rfl rfl rfl (op_sliceArr_h Try.underlying108 sz5 (by decide) rfl rfl (by decide) (by decide)) (by repeat (first | exact Takes.nil | exact Take.here | apply Takes.cons | apply Take.there)) ?_
    refine WA.takeG (i := 9) rfl (by kernel_rfl) (fun _ _ _ h => h) rfl rfl rfl (op_bytesStr Try.underlying22 Try.underlying5 Try.underlying9 (by decide) rfl (by first | (apply Src.rd; (repeat (first | exact List.Mem.head _ | apply List.Mem.tail)); done) | (apply Src.own; (repeat (first | exact List.Mem.head _ | apply List.Mem.tail)); done) | (apply Src.rx; (repeat (first | exact List.Mem.head _ | apply List.Mem.tail)); done))) (by repeat (first | exact Takes.nil | exact Take.here | apply Takes.cons | apply Take.there)) ?_
    refine WA.takeG (i := 10) rfl (by kernel_rfl) (fun _ _ _ h => h) rfl rfl rfl (op_eqls (by decide) rfl rfl) (by repeat (first | exact Takes.nil | exact Take.here | apply Takes.cons | apply Take.there)) ?_
    refine WA.take (i := 11) rfl (by kernel_rfl) (fun _ _ _ h => h) rfl (op_pickT (by decide) rfl rfl) (by repeat (first | exact Takes.nil | exact Take.here | apply Takes.cons | apply Take.there)) ?_
    refine WA.take (i := 12) rfl (by kernel_rfl) (fun _ _ _ h => h) rfl (op_assign (by decide) rfl) (by repeat (first | exact Takes.nil | exact Take.here | apply Takes.cons | apply Take.there)) ?_
    refine WA.done (by kernel_rfl) ?_
    refine WX.regs (L' := [(4, _)]) (by repeat (first | exact RS.nil | refine RS.cons rfl ?_)) ?_
    refine WX.next ?_
    refine WC.ret ?_
    exact Fin.ret1 (by first | exact .inl rfl | exact .inr rfl) (_) (by simp only [true_eq_decide_iff, false_eq_decide_iff, decide_eq_decide]; simp_all) Try.results26 (.tmp rfl) (by repeat (first | exact Takes.nil | exact Take.here | apply Takes.cons | apply Take.there)) (by simp)
  ·
    refine WA.skipG (i := 6) rfl (by kernel_rfl) (fun _ _ _ h => h) rfl rfl rfl (by first | exact .inl rfl | exact .inr rfl) rfl (by decide) (by repeat (first | exact Takes.nil | exact Take.here | apply Takes.cons | apply Take.there)) ?_
    refine WA.skipG (i := 7) rfl (by kernel_rfl) (fun _ _ _ h => h) rfl rfl rfl (by first | exact .inl rfl | exact .inr rfl) rfl (by decide) (by repeat (first | exact Takes.nil | exact Take.here | apply Takes.cons | apply Take.there)) ?_
    refine WA.skipG (i := 8) rfl (by kernel_rfl) (fun _ _ _ h => h) rfl rfl rfl (by first | exact .inl rfl | exact .inr rfl) rfl (by decide) (by repeat (first | exact Takes.nil | exact Take.here | apply Takes.cons | apply Take.there)) ?_
    refine WA.skipG (i := 9) rfl (by kernel_rfl) (fun _ _ _ h => h) rfl rfl rfl (by first | exact .inl rfl | exact .inr rfl) rfl (by decide) (by repeat (first | exact Takes.nil | exact Take.here | apply Takes.cons | apply Take.there)) ?_
    refine WA.skipG (i := 10) rfl (by kernel_rfl) (fun _ _ _ h => h) rfl rfl rfl (by first | exact .inl rfl | exact .inr rfl) rfl (by decide) (by repeat (first | exact Takes.nil | exact Take.here | apply Takes.cons | apply Take.there)) ?_
    refine WA.take (i := 11) rfl (by kernel_rfl) (fun _ _ _ h => h) rfl (op_pickF (by decide) rfl rfl) (by repeat (first | exact Takes.nil | exact Take.here | apply Takes.cons | apply Take.there)) ?_
    refine WA.take (i := 12) rfl (by kernel_rfl) (fun _ _ _ h => h) rfl (op_assign (by decide) rfl) (by repeat (first | exact Takes.nil | exact Take.here | apply Takes.cons | apply Take.there)) ?_
    refine WA.done (by kernel_rfl) ?_
    refine WX.regs (L' := [(4, _)]) (by repeat (first | exact RS.nil | refine RS.cons rfl ?_)) ?_
    refine WX.next ?_
    refine WC.ret ?_
    exact Fin.ret1 (by first | exact .inl rfl | exact .inr rfl) (_) (by simp only [true_eq_decide_iff, false_eq_decide_iff, decide_eq_decide]; simp_all) Try.results26 (.tmp rfl) (by repeat (first | exact Takes.nil | exact Take.here | apply Takes.cons | apply Take.there)) (by simp)
set_option maxHeartbeats 400000 in
set_option maxRecDepth 10000 in
theorem f32_spec (A B : Option Addr) (M c M2 c2 : Nat) (rs rs2 : List Bs) (hM : rs.length = M) (hM2 : rs2.length = M2) (hMx : M ≤ 1000000) :
    Spec Try.prog 32 [.slice A M c, .slice B M2 c2] [] [rd (.slice A M c) 1 M (rs.map Bs.v), rowsC false rs, rd (.slice B M2 c2) 1 M2 (rs2.map Bs.v), rowsC false rs2] (R := Bool)
      (fun b => rs.map Bs.s = rs2.map Bs.s → b = true) (fun b => .bool b) (fun _ => []) := by
  have hl : rs.map Bs.s = rs2.map Bs.s → M = M2 := fun h => by have := congrArg List.length h; simpa [hM, hM2] using this
  refine Spec.intro Try.func32 Try.ntmps32 rfl (by simp) (by simp) fun w0 => ?_
  refine WC.seq ?_
  refine WC.region ?_
  refine wlv (op_assign (by decide) rfl) rfl ?_
  refine WL.nil ?_
  refine WX.regs (L' := [(0, _), (1, _)]) (by repeat (first | exact RS.nil | refine RS.cons rfl ?_)) ?_
  refine WX.next ?_
  refine WC.seq ?_
  refine WC.seq ?_
  refine WC.region ?_
  refine wlv (op_move (by decide) rfl) rfl ?_
  refine wlv (op_len Try.underlying52 (by decide) rfl) rfl ?_
  refine wlv (op_move (by decide) rfl) rfl ?_
  refine wlv (op_len Try.underlying52 (by decide) rfl) rfl ?_
  refine wlv (op_neq (by decide) rfl rfl) rfl ?_
  refine WL.nil ?_
  refine WX.regs (L' := [(0, _), (1, _), (10, _)]) (by repeat (first | exact RS.nil | refine RS.cons rfl ?_)) ?_
  refine WX.next ?_
  refine WC.cond rfl (fun h1 => ?_) (fun h1 => ?_)
  ·
    refine WC.seq ?_
    refine WC.region ?_
    refine wlv (op_assign (by decide) rfl) rfl ?_
    refine WL.nil ?_
    refine WX.regs (L' := [(4, _)]) (by repeat (first | exact RS.nil | refine RS.cons rfl ?_)) ?_
    refine WX.next ?_
    refine WC.ret ?_
    refine WX.then_ret ?_
    exact Fin.ret1 (by first | exact .inl rfl | exact .inr rfl) (_) (fun h => absurd (hl h) (by omega)) Try.results32 (.tmp rfl) (by repeat (first | exact Takes.nil | exact Take.here | apply Takes.cons | apply Take.there)) (by simp)
  ·
    obtain rfl : M = M2 := by omega
    refine WC.skip ?_
    refine WX.next ?_
    refine WC.seq ?_
    refine WC.seq ?_
    refine WC.region ?_
    refine wlv (op_assign (by decide) rfl) rfl ?_
    refine WL.nil ?_
    refine WX.regs (L' := [(0, _), (1, _), (5, _)]) (by repeat (first | exact RS.nil | refine RS.cons rfl ?_)) ?_
    refine WX.next ?_
    refine WC.block ?_
    refine WC.loop (X := Nat) (fun i => M - i) (fun i => i ≤ M) (fun i => [(0, .slice A M c), (1, .slice B M c2), (5, .int .i64 (i : Int))]) (fun i => [rd (.slice A M c) 1 M (rs.map Bs.v), rowsC false rs, rd (.slice B M c2) 1 M (rs2.map Bs.v), rowsC false rs2, frameC w0 (MutF [])]) (0) (Nat.zero_le _) (fun a w hs => hs.sub (by repeat (first | exact RS.nil | refine RS.cons (by first | rfl | exact congrArg (fun z : Int => some (Value.int .i64 z)) (by omega)) ?_)) (by repeat (first | exact Takes.nil | exact Take.here | apply Takes.cons | apply Take.there))) ?_
    rintro i hi
    try dsimp only
    refine WC.seq ?_
    refine WC.seq ?_
    refine WC.region ?_
    refine wlv (op_move (by decide) rfl) rfl ?_
    refine wlv (op_move (by decide) rfl) rfl ?_
    refine wlv (op_len Try.underlying52 (by decide) rfl) rfl ?_
    refine wlv (op_lss (by decide) rfl rfl) rfl ?_
    refine WL.nil ?_
    refine WX.regs (L' := [(0, _), (1, _), (5, _), (14, _)]) (by repeat (first | exact RS.nil | refine RS.cons rfl ?_)) ?_
    refine WX.next ?_
    refine WC.cond rfl (fun h2 => ?_) (fun h2 => ?_)
    ·
      obtain ⟨ra, hra⟩ : ∃ r, rs[i]? = some r := ⟨rs[i]'(by omega), List.getElem?_eq_getElem _⟩
      obtain ⟨rb, hrb⟩ : ∃ r, rs2[i]? = some r := ⟨rs2[i]'(by omega), List.getElem?_eq_getElem _⟩
      refine WC.dup (c := rowsC false rs) (d := rd (.slice ra.A ra.s.length ra.c) 1 ra.s.length (bvs ra.s)) (by repeat (first | exact List.Mem.head _ | apply List.Mem.tail)) rfl (by simp) (rowsC_get (r := ra) (List.mem_of_getElem? hra)) ?_
      refine WC.dup (c := rowsC false rs2) (d := rd (.slice rb.A rb.s.length rb.c) 1 rb.s.length (bvs rb.s)) (by repeat (first | exact List.Mem.head _ | apply List.Mem.tail)) rfl (by simp) (rowsC_get (r := rb) (List.mem_of_getElem? hrb)) ?_
      refine WC.skip ?_
      refine WX.next ?_
      refine WC.seq ?_
      refine WC.block ?_
      refine WC.seq ?_
      refine WC.drawnH mo 999 ?_
      refine WA.take (i := 0) rfl (by kernel_rfl) (fun _ _ _ h => h) rfl (op_move (by decide) rfl) (by repeat (first | exact Takes.nil | exact Take.here | apply Takes.cons | apply Take.there)) ?_
      refine WA.take (i := 1) rfl (by kernel_rfl) (fun _ _ _ h => h) rfl (op_move (by decide) rfl) (by repeat (first | exact Takes.nil | exact Take.here | apply Takes.cons | apply Take.there)) ?_
      refine WA.take (i := 2) rfl (by kernel_rfl) (fun _ _ _ h => h) rfl (op_index Try.underlying52 sz22 (by decide) rfl rfl (by omega) (by omega) (by decide) (Src.rd (xs := rs.map Bs.v) (by repeat (first | exact List.Mem.head _ | apply List.Mem.tail)))) (by repeat (first | exact Takes.nil | exact Take.here | apply Takes.cons | apply Take.there)) ?_
      refine WA.take (i := 3) rfl (by kernel_rfl) (fun _ _ _ h => h) rfl (op_loadS fl22 (by decide) rfl (Src.rd (xs := rs.map Bs.v) (by repeat (first | exact List.Mem.head _ | apply List.Mem.tail))) (rows_at' hra (by omega))) (by repeat (first | exact Takes.nil | exact Take.here | apply Takes.cons | apply Take.there)) ?_
      refine WA.take (i := 4) rfl (by kernel_rfl) (fun _ _ _ h => h) rfl (op_bytesStr Try.underlying22 Try.underlying5 Try.underlying9 (by decide) rfl (by first | (apply Src.rd; (repeat (first | exact List.Mem.head _ | apply List.Mem.tail)); done) | (apply Src.own; (repeat (first | exact List.Mem.head _ | apply List.Mem.tail)); done) | (apply Src.rx; (repeat (first | exact List.Mem.head _ | apply List.Mem.tail)); done))) (by repeat (first | exact Takes.nil | exact Take.here | apply Takes.cons | apply Take.there)) ?_
      refine WA.take (i := 5) rfl (by kernel_rfl) (fun _ _ _ h => h) rfl (op_move (by decide) rfl) (by repeat (first | exact Takes.nil | exact Take.here | apply Takes.cons | apply Take.there)) ?_
      refine WA.take (i := 6) rfl (by kernel_rfl) (fun _ _ _ h => h) rfl (op_move (by decide) rfl) (by repeat (first | exact Takes.nil | exact Take.here | apply Takes.cons | apply Take.there)) ?_
      refine WA.take (i := 7) rfl (by kernel_rfl) (fun _ _ _ h => h) rfl (op_index Try.underlying52 sz22 (by decide) rfl rfl (by omega) (by omega) (by decide) (Src.rd (xs := rs2.map Bs.v) (by repeat (first | exact List.Mem.head _ | apply List.Mem.tail)))) (by repeat (first | exact Takes.nil | exact Take.here | apply Takes.cons | apply Take.there)) ?_
      refine WA.take (i := 8) rfl (by kernel_rfl) (fun _ _ _ h => h) rfl (op_loadS fl22 (by decide) rfl (Src.rd (xs := rs2.map Bs.v) (by repeat (first | exact List.Mem.head _ | apply List.Mem.tail))) (rows_at' hrb (by omega))) (by repeat (first | exact Takes.nil | exact Take.here | apply Takes.cons | apply Take.there)) ?_
      refine WA.take (i := 9) rfl (by kernel_rfl) (fun _ _ _ h => h) rfl (op_bytesStr Try.underlying22 Try.underlying5 Try.underlying9 (by decide) rfl (by first | (apply Src.rd; (repeat (first | exact List.Mem.head _ | apply List.Mem.tail)); done) | (apply Src.own; (repeat (first | exact List.Mem.head _ | apply List.Mem.tail)); done) | (apply Src.rx; (repeat (first | exact List.Mem.head _ | apply List.Mem.tail)); done))) (by repeat (first | exact Takes.nil | exact Take.here | apply Takes.cons | apply Take.there)) ?_
      refine WA.take (i := 10) rfl (by kernel_rfl) (fun _ _ _ h => h) rfl (op_neqs (by decide) rfl rfl) (by repeat (first | exact Takes.nil | exact Take.here | apply Takes.cons | apply Take.there)) ?_
      refine WA.done (by kernel_rfl) ?_
      refine WX.regs (L' := [(0, _), (1, _), (5, _), (27, _)]) (by repeat (first | exact RS.nil | refine RS.cons rfl ?_)) ?_
      refine WX.next ?_
      refine WC.cond rfl (fun h3 => ?_) (fun h3 => ?_)
      ·
        refine WC.seq ?_
        refine WC.region ?_
        refine wlv (op_assign (by decide) rfl) rfl ?_
        refine WL.nil ?_
        refine WX.regs (L' := [(4, _)]) (by repeat (first | exact RS.nil | refine RS.cons rfl ?_)) ?_
        refine WX.next ?_
        refine WC.ret ?_
        refine WX.in_ret ?_
        refine WX.then_ret ?_
        refine WX.then_ret ?_
        refine WX.in_ret ?_
        refine WX.then_ret ?_
        exact Fin.ret1 (by first | exact .inl rfl | exact .inr rfl) (_) (fun h => absurd (by have h2 := ss_at hra; rw [h, ss_at hrb] at h2; exact h2.symm) h3) Try.results32 (.tmp rfl) (by repeat (first | exact Takes.nil | exact Take.here | apply Takes.cons | apply Take.there)) (by simp)
      ·
        refine WC.skip ?_
        refine WX.in_normal ?_
        refine WX.next ?_
        refine WC.region ?_
        refine wlv (op_move (by decide) rfl) rfl ?_
        refine wlv (op_add (by decide) rfl rfl (by omega)) rfl ?_
        refine wlv (op_assign (by decide) rfl) rfl ?_
        refine WL.nil ?_
        refine WX.regs (L' := [(0, _), (1, _), (5, _)]) (by repeat (first | exact RS.nil | refine RS.cons rfl ?_)) ?_
        refine WX.meet (i + 1) ⟨by omega, by omega⟩ (fun a w hs => hs.sub (by repeat (first | exact RS.nil | refine RS.cons (by first | rfl | exact congrArg (fun z : Int => some (Value.int .i64 z)) (by omega)) ?_)) (by repeat (first | exact Takes.nil | exact Take.here | apply Takes.cons | apply Take.there)))
    ·
      refine WC.exit ?_
      refine WX.then_exit ?_
      refine WX.then_exit ?_
      refine WX.in_hit ?_
      refine WX.next ?_
      refine WC.seq ?_
      refine WC.region ?_
      refine wlv (op_assign (by decide) rfl) rfl ?_
      refine WL.nil ?_
      refine WX.regs (L' := [(4, _)]) (by repeat (first | exact RS.nil | refine RS.cons rfl ?_)) ?_
      refine WX.next ?_
      refine WC.ret ?_
      exact Fin.ret1 (by first | exact .inl rfl | exact .inr rfl) (_) (fun _ => rfl) Try.results32 (.tmp rfl) (by repeat (first | exact Takes.nil | exact Take.here | apply Takes.cons | apply Take.there)) (by simp)
set_option maxHeartbeats 400000 in
set_option maxRecDepth 10000 in
theorem f41_spec (A B : Option Addr) (M c M2 c2 : Nat) (l l2 : List Rs) (hM : l.length = M) (hM2 : l2.length = M2) (hMx : M ≤ 1000000) :
    Spec Try.prog 41 [.slice A M c, .slice B M2 c2] [] [rd (.slice A M c) 4 M (l.flatMap Rs.cells), rowsC false (l.map Rs.b), rd (.slice B M2 c2) 4 M2 (l2.flatMap Rs.cells), rowsC false (l2.map Rs.b)] (R := Bool)
      (fun b => l.map Rs.r = l2.map Rs.r → b = true) (fun b => .bool b) (fun _ => []) := by
  have hl : l.map Rs.r = l2.map Rs.r → M = M2 := fun h => by have := congrArg List.length h; simpa [hM, hM2] using this
  have hc4 : ∀ r : Rs, r.cells.length = 4 := fun _ => rfl
  refine Spec.intro Try.func41 Try.ntmps41 rfl (by simp) (by simp) fun w0 => ?_
  refine WC.seq ?_
  refine WC.region ?_
  refine wlv (op_assign (by decide) rfl) rfl ?_
  refine WL.nil ?_
  refine WX.regs (L' := [(0, _), (1, _)]) (by repeat (first | exact RS.nil | refine RS.cons rfl ?_)) ?_
  refine WX.next ?_
  refine WC.seq ?_
  refine WC.seq ?_
  refine WC.region ?_
  refine wlv (op_move (by decide) rfl) rfl ?_
  refine wlv (op_len Try.underlying77 (by decide) rfl) rfl ?_
  refine wlv (op_move (by decide) rfl) rfl ?_
  refine wlv (op_len Try.underlying80 (by decide) rfl) rfl ?_
  refine wlv (op_neq (by decide) rfl rfl) rfl ?_
  refine WL.nil ?_
  refine WX.regs (L' := [(0, _), (1, _), (10, _)]) (by repeat (first | exact RS.nil | refine RS.cons rfl ?_)) ?_
  refine WX.next ?_
  refine WC.cond rfl (fun h1 => ?_) (fun h1 => ?_)
  ·
    refine WC.seq ?_
    refine WC.region ?_
    refine wlv (op_assign (by decide) rfl) rfl ?_
    refine WL.nil ?_
    refine WX.regs (L' := [(4, _)]) (by repeat (first | exact RS.nil | refine RS.cons rfl ?_)) ?_
    refine WX.next ?_
    refine WC.ret ?_
    refine WX.then_ret ?_
    exact Fin.ret1 (by first | exact .inl rfl | exact .inr rfl) (_) (fun h => absurd (hl h) (by omega)) Try.results41 (.tmp rfl) (by repeat (first | exact Takes.nil | exact Take.here | apply Takes.cons | apply Take.there)) (by simp)
  ·
    obtain rfl : M = M2 := by omega
    refine WC.skip ?_
    refine WX.next ?_
    refine WC.seq ?_
    refine WC.seq ?_
    refine WC.region ?_
    refine wlv (op_assign (by decide) rfl) rfl ?_
    refine WL.nil ?_
    refine WX.regs (L' := [(0, _), (1, _), (5, _)]) (by repeat (first | exact RS.nil | refine RS.cons rfl ?_)) ?_
    refine WX.next ?_
    refine WC.block ?_
    refine WC.loop (X := Nat) (fun i => M - i) (fun i => i ≤ M) (fun i => [(0, .slice A M c), (1, .slice B M c2), (5, .int .i64 (i : Int))]) (fun i => [rd (.slice A M c) 4 M (l.flatMap Rs.cells), rowsC false (l.map Rs.b), rd (.slice B M c2) 4 M (l2.flatMap Rs.cells), rowsC false (l2.map Rs.b), frameC w0 (MutF [])]) (0) (Nat.zero_le _) (fun a w hs => hs.sub (by repeat (first | exact RS.nil | refine RS.cons (by first | rfl | exact congrArg (fun z : Int => some (Value.int .i64 z)) (by omega)) ?_)) (by repeat (first | exact Takes.nil | exact Take.here | apply Takes.cons | apply Take.there))) ?_
    rintro i hi
    try dsimp only
    refine WC.seq ?_
    refine WC.seq ?_
    refine WC.region ?_
    refine wlv (op_move (by decide) rfl) rfl ?_
    refine wlv (op_move (by decide) rfl) rfl ?_
    refine wlv (op_len Try.underlying77 (by decide) rfl) rfl ?_
    refine wlv (op_lss (by decide) rfl rfl) rfl ?_
    refine WL.nil ?_
    refine WX.regs (L' := [(0, _), (1, _), (5, _), (14, _)]) (by repeat (first | exact RS.nil | refine RS.cons rfl ?_)) ?_
    refine WX.next ?_
    refine WC.cond rfl (fun h2 => ?_) (fun h2 => ?_)
    ·
      refine WC.skip ?_
      refine WX.next ?_
      refine WC.seq ?_
      refine WC.block ?_
      refine WC.seq ?_
      refine WC.drawnH mo 999 ?_
      obtain ⟨ra, hra⟩ : ∃ r, l[i]? = some r := ⟨l[i]'(by omega), List.getElem?_eq_getElem _⟩
      obtain ⟨rb, hrb⟩ : ∃ r, l2[i]? = some r := ⟨l2[i]'(by omega), List.getElem?_eq_getElem _⟩
      have ha : ∀ j, j = i * 4 → ((l.flatMap Rs.cells).drop j).take 4 = [.int .i64 ra.k, .int .i64 ra.g, .int .i64 ra.n, .slice ra.b.A ra.b.s.length ra.b.c] := fun j hj => by rw [hj]; exact flat_at hc4 l i ra hra
      have hb : ∀ j, j = i * 4 → ((l2.flatMap Rs.cells).drop j).take 4 = [.int .i64 rb.k, .int .i64 rb.g, .int .i64 rb.n, .slice rb.b.A rb.b.s.length rb.b.c] := fun j hj => by rw [hj]; exact flat_at hc4 l2 i rb hrb
      refine WA.dup (c := rowsC false (l.map Rs.b)) (d := rd (.slice ra.b.A ra.b.s.length ra.b.c) 1 ra.b.s.length (bvs ra.b.s)) (by repeat (first | exact List.Mem.head _ | apply List.Mem.tail)) rfl (by simp) (rowsC_get (r := ra.b) (List.mem_map_of_mem (List.mem_of_getElem? hra))) ?_
      refine WA.dup (c := rowsC false (l2.map Rs.b)) (d := rd (.slice rb.b.A rb.b.s.length rb.b.c) 1 rb.b.s.length (bvs rb.b.s)) (by repeat (first | exact List.Mem.head _ | apply List.Mem.tail)) rfl (by simp) (rowsC_get (r := rb.b) (List.mem_map_of_mem (List.mem_of_getElem? hrb))) ?_
      refine WA.take (i := 0) rfl (by kernel_rfl) (fun _ _ _ h => h) rfl (op_move (by decide) rfl) (by repeat (first | exact Takes.nil | exact Take.here | apply Takes.cons | apply Take.there)) ?_
      refine WA.take (i := 1) rfl (by kernel_rfl) (fun _ _ _ h => h) rfl (op_move (by decide) rfl) (by repeat (first | exact Takes.nil | exact Take.here | apply Takes.cons | apply Take.there)) ?_
      refine WA.take (i := 2) rfl (by kernel_rfl) (fun _ _ _ h => h) rfl (op_index Try.underlying77 sz50 (by decide) rfl rfl (by omega) (by omega) (by decide) (Src.rd (xs := l.flatMap Rs.cells) (by repeat (first | exact List.Mem.head _ | apply List.Mem.tail)))) (by repeat (first | exact Takes.nil | exact Take.here | apply Takes.cons | apply Take.there)) ?_
      refine WA.take (i := 3) rfl (by kernel_rfl) (fun _ _ _ h => h) rfl (op_loadSN ag50 (by decide) rfl (Src.rd (xs := l.flatMap Rs.cells) (by repeat (first | exact List.Mem.head _ | apply List.Mem.tail))) (by rw [ha _ (by omega)]; rfl) (by decide)) (by repeat (first | exact Takes.nil | exact Take.here | apply Takes.cons | apply Take.there)) ?_
      rw [ha _ (by omega)]
      refine WA.take (i := 5) rfl (by kernel_rfl) (fun _ _ _ h => h) rfl (op_move (by decide) rfl) (by repeat (first | exact Takes.nil | exact Take.here | apply Takes.cons | apply Take.there)) ?_
      refine WA.take (i := 6) rfl (by kernel_rfl) (fun _ _ _ h => h) rfl (op_move (by decide) rfl) (by repeat (first | exact Takes.nil | exact Take.here | apply Takes.cons | apply Take.there)) ?_
      refine WA.take (i := 7) rfl (by kernel_rfl) (fun _ _ _ h => h) rfl (op_index Try.underlying80 sz49 (by decide) rfl rfl (by omega) (by omega) (by decide) (Src.rd (xs := l2.flatMap Rs.cells) (by repeat (first | exact List.Mem.head _ | apply List.Mem.tail)))) (by repeat (first | exact Takes.nil | exact Take.here | apply Takes.cons | apply Take.there)) ?_
      refine WA.take (i := 8) rfl (by kernel_rfl) (fun _ _ _ h => h) rfl (op_loadSN ag49 (by decide) rfl (Src.rd (xs := l2.flatMap Rs.cells) (by repeat (first | exact List.Mem.head _ | apply List.Mem.tail))) (by rw [hb _ (by omega)]; rfl) (by decide)) (by repeat (first | exact Takes.nil | exact Take.here | apply Takes.cons | apply Take.there)) ?_
      rw [hb _ (by omega)]
      refine WA.stepx (i := 4) (by kernel_rfl) rfl rfl (op_call (f30_spec ra.k ra.g ra.n _ _ _) ca30 (by decide) rfl (by apply Give.mk; (repeat (first | exact Takes.nil | exact Take.here | apply Takes.cons | apply Take.there)); repeat (first | exact Reads.nil | (apply Reads.rd; (focus (repeat (first | exact List.Mem.head _ | apply List.Mem.tail)); done)) | (apply Reads.own; (focus (repeat (first | exact List.Mem.head _ | apply List.Mem.tail)); done)) | (apply Reads.rx; (focus (repeat (first | exact List.Mem.head _ | apply List.Mem.tail)); done)) | (apply Reads.rows (e := false); (focus (repeat (first | exact List.Mem.head _ | apply List.Mem.tail)); done)) | (apply Reads.rows (e := true); (focus (repeat (first | exact List.Mem.head _ | apply List.Mem.tail)); done))))) (fun _ r => (by repeat (first | exact Takes.nil | exact Take.here | apply Takes.cons | apply Take.there))) ?_
      rintro _ _
      refine WA.stepx (i := 9) (by kernel_rfl) rfl rfl (op_call (f37_spec ra.k ra.g ra.n rb.k rb.g rb.n ra.b.A rb.b.A ra.b.s.length ra.b.c rb.b.s.length rb.b.c ra.b.s rb.b.s) ca37 (by decide) rfl (by apply Give.mk; (repeat (first | exact Takes.nil | exact Take.here | apply Takes.cons | apply Take.there)); repeat (first | exact Reads.nil | (apply Reads.rd; (focus (repeat (first | exact List.Mem.head _ | apply List.Mem.tail)); done)) | (apply Reads.own; (focus (repeat (first | exact List.Mem.head _ | apply List.Mem.tail)); done)) | (apply Reads.rx; (focus (repeat (first | exact List.Mem.head _ | apply List.Mem.tail)); done)) | (apply Reads.rows (e := false); (focus (repeat (first | exact List.Mem.head _ | apply List.Mem.tail)); done)) | (apply Reads.rows (e := true); (focus (repeat (first | exact List.Mem.head _ | apply List.Mem.tail)); done))))) (fun _ r => (by repeat (first | exact Takes.nil | exact Take.here | apply Takes.cons | apply Take.there))) ?_
      rintro _ rfl
      refine WA.take (i := 10) rfl (by kernel_rfl) (fun _ _ _ h => h) rfl (op_notp (by decide) rfl) (by repeat (first | exact Takes.nil | exact Take.here | apply Takes.cons | apply Take.there)) ?_
      refine WA.done (by kernel_rfl) ?_
      refine WX.regs (L' := [(0, _), (1, _), (5, _), (27, _)]) (by repeat (first | exact RS.nil | refine RS.cons rfl ?_)) ?_
      refine WX.next ?_
      refine WC.cond rfl (fun h3 => ?_) (fun h3 => ?_)
      ·
        refine WC.seq ?_
        refine WC.region ?_
        refine wlv (op_assign (by decide) rfl) rfl ?_
        refine WL.nil ?_
        refine WX.regs (L' := [(4, _)]) (by repeat (first | exact RS.nil | refine RS.cons rfl ?_)) ?_
        refine WX.next ?_
        refine WC.ret ?_
        refine WX.in_ret ?_
        refine WX.then_ret ?_
        refine WX.then_ret ?_
        refine WX.in_ret ?_
        refine WX.then_ret ?_
        exact Fin.ret1 (by first | exact .inl rfl | exact .inr rfl) (_) (fun h => absurd (by have h2 := congrArg (fun z => z[i]?) h; simp only [List.getElem?_map, hra, hrb, Option.map_some, Option.some.injEq, Rs.r, Rcd.mk.injEq] at h2; exact h2) h3) Try.results41 (.tmp rfl) (by repeat (first | exact Takes.nil | exact Take.here | apply Takes.cons | apply Take.there)) (by simp)
      ·
        refine WC.skip ?_
        refine WX.in_normal ?_
        refine WX.next ?_
        refine WC.region ?_
        refine wlv (op_move (by decide) rfl) rfl ?_
        refine wlv (op_add (by decide) rfl rfl (by omega)) rfl ?_
        refine wlv (op_assign (by decide) rfl) rfl ?_
        refine WL.nil ?_
        refine WX.regs (L' := [(0, _), (1, _), (5, _)]) (by repeat (first | exact RS.nil | refine RS.cons rfl ?_)) ?_
        refine WX.meet (i + 1) ⟨by omega, by omega⟩ (fun a w hs => hs.sub (by repeat (first | exact RS.nil | refine RS.cons (by first | rfl | exact congrArg (fun z : Int => some (Value.int .i64 z)) (by omega)) ?_)) (by repeat (first | exact Takes.nil | exact Take.here | apply Takes.cons | apply Take.there)))
    ·
      refine WC.exit ?_
      refine WX.then_exit ?_
      refine WX.then_exit ?_
      refine WX.in_hit ?_
      refine WX.next ?_
      refine WC.seq ?_
      refine WC.region ?_
      refine wlv (op_assign (by decide) rfl) rfl ?_
      refine WL.nil ?_
      refine WX.regs (L' := [(4, _)]) (by repeat (first | exact RS.nil | refine RS.cons rfl ?_)) ?_
      refine WX.next ?_
      refine WC.ret ?_
      exact Fin.ret1 (by first | exact .inl rfl | exact .inr rfl) (_) (fun _ => rfl) Try.results41 (.tmp rfl) (by repeat (first | exact Takes.nil | exact Take.here | apply Takes.cons | apply Take.there)) (by simp)
end Go.Proofs.Ythephcghglldaaa.Sx
