import Derived.Test.YthephcghglldaaaS5
set_option linter.unusedVariables false
set_option linter.unusedSimpArgs false
namespace Go.Proofs.Ythephcghglldaaa.Sx
open Go.RowKit Go.Proofs.Ythephcghglldaaa.Ty
attribute [local irreducible] blk own rd rx frameC

theorem getD_app (l e : List UInt8) (i : Nat) (h : i < l.length) : (l ++ e).getD i 0 = l.getD i 0 := by
  simp [List.getD_eq_getElem?_getD, List.getElem?_append, h]
theorem wds_app (l e : List UInt8) (h : 64 ≤ l.length) : wds (l ++ e) 16 = wds l 16 := by
  unfold wds
  apply List.map_congr_left
  intro j hj
  have hj := List.mem_range.1 hj
  unfold wd
  rw [getD_app _ _ _ (by omega), getD_app _ _ _ (by omega), getD_app _ _ _ (by omega), getD_app _ _ _ (by omega)]
theorem absorb_app (s : S8) (l e : List UInt8) : ∀ k, 64 * k ≤ l.length → absorb s (l ++ e) k = absorb s l k := by
  intro k
  induction k with
  | zero => intro _; rfl
  | succ k ih =>
    intro h
    simp only [absorb]
    rw [ih (by omega), List.drop_append_of_le_length (by omega), wds_app _ _ (by simp; omega)]
theorem absorb_more (s : S8) (l e : List UInt8) (k : Nat) (h : 64 * k ≤ l.length) : ∀ j, absorb (absorb s l k) (l.drop (64 * k) ++ e) j = absorb s (l ++ e) (k + j) := by
  intro j
  induction j with
  | zero => exact (absorb_app s l e k h).symm
  | succ j ih =>
    have e1 : k + (j + 1) = (k + j) + 1 := by omega
    rw [e1]
    simp only [absorb]
    rw [ih, ← List.drop_append_of_le_length h, List.drop_drop, ← Nat.mul_add]
/-- SHA-256. -/
def sha (bs : List UInt8) : List UInt8 := dig (absorb S8.init (bs ++ pad bs.length) ((bs.length + plen bs.length) / 64))
theorem sha_length (bs : List UInt8) : (sha bs).length = 32 := dig_length _
theorem sha_parts (bs : List UInt8) (m : Nat) (h : bs.length = m) :
    dig (absorb (absorb S8.init bs (m / 64)) (bs.drop (64 * (m / 64)) ++ pad m) ((m % 64 + plen m) / 64)) = sha bs := by
  subst h
  rw [absorb_more _ _ _ _ (by omega)]
  unfold sha
  congr 2
  omega
theorem rd_dropB {A : Option Addr} {c m l : Nat} {bs : List UInt8} (h : bs.length = m) (hl : l ≤ m) : (rd (sliced A l m c 1) 1 (m - l) (bvs (bs.drop l))).Le (rd (.slice A m c) 1 m (bvs bs)) := by
  have k := rd_sub (A := A) (c := c) (m := m) (sz := 1) (l := l) (h := m) (xs := bvs bs) hl (Nat.le_refl _)
  have e : ((bvs bs).drop (l * 1)).take ((m - l) * 1) = bvs (bs.drop l) := by
    rw [Nat.mul_one, Nat.mul_one, List.take_of_length_le (by simp; omega)]
    simp [bvs]
  rwa [e] at k
theorem rd_subB {A : Option Addr} {c m l h : Nat} {bs : List UInt8} (hl : l ≤ h) (hh : h ≤ m) : (rd (sliced A l h c 1) 1 (h - l) (bvs ((bs.drop l).take (h - l)))).Le (rd (.slice A m c) 1 m (bvs bs)) := by
  have k := rd_sub (A := A) (c := c) (m := m) (sz := 1) (l := l) (h := h) (xs := bvs bs) hl hh
  have e : ((bvs bs).drop (l * 1)).take ((h - l) * 1) = bvs ((bs.drop l).take (h - l)) := by
    rw [Nat.mul_one, Nat.mul_one]
    simp [bvs]
  rwa [e] at k
set_option maxHeartbeats 400000 in
set_option maxRecDepth 10000 in
theorem f63_spec (A : Option Addr) (m c : Nat) (bs : List UInt8) (hm : bs.length = m) (hm' : m < 100000) :
    Spec Try.prog 63 [.slice A m c] [] [rd (.slice A m c) 1 m (bvs bs)] (R := Unit) (fun _ => True) (fun _ => .agg (bvs (sha bs)).toArray) (fun _ => []) := by
  refine Spec.intro Try.func63 Try.ntmps63 rfl (by simp) (by simp) fun w0 => ?_
  refine WC.seq ?_
  refine WC.region ?_
  refine wl1 (op_alloc ti120 (by decide)) rfl fun b1 => ?_
  refine WL.nil ?_
  refine WX.regs (L' := [(0, _), (2, _)]) (by repeat (first | exact RS.nil | refine RS.cons rfl ?_)) ?_
  refine WX.next ?_
  refine WC.seq ?_
  refine WC.region ?_
  refine wlx (op_call (f64_spec) ca64 (by decide) rfl (by apply Give.mk; (repeat (first | exact Takes.nil | exact Take.here | apply Takes.cons | apply Take.there)); repeat (first | exact Reads.nil | (apply Reads.rd; (focus (repeat (first | exact List.Mem.head _ | apply List.Mem.tail)); done)) | (apply Reads.own; (focus (repeat (first | exact List.Mem.head _ | apply List.Mem.tail)); done)) | (apply Reads.rx; (focus (repeat (first | exact List.Mem.head _ | apply List.Mem.tail)); done)) | (apply Reads.rows (e := false); (focus (repeat (first | exact List.Mem.head _ | apply List.Mem.tail)); done)) | (apply Reads.rows (e := true); (focus (repeat (first | exact List.Mem.head _ | apply List.Mem.tail)); done))))) rfl ?_
  rintro hb _
  refine wlv (op_assign (by decide) rfl) rfl ?_
  refine WL.nil ?_
  refine WX.regs (L' := [(0, _), (2, _), (3, _)]) (by repeat (first | exact RS.nil | refine RS.cons rfl ?_)) ?_
  refine WX.next ?_
  refine WC.seq ?_
  refine WC.region ?_
  refine wlv (op_move (by decide) rfl) rfl ?_
  refine wlv (op_move (by decide) rfl) rfl ?_
  refine WL.nilrd 1 ?_
  refine wlx (op_call (f65_spec hb S8.init none A 0 0 m c 0 [] bs rfl hm (by omega) (by omega) (by omega)) ca65 (by decide) rfl (by apply Give.mk; (repeat (first | exact Takes.nil | exact Take.here | apply Takes.cons | apply Take.there)); repeat (first | exact Reads.nil | (apply Reads.rd; (focus (repeat (first | exact List.Mem.head _ | apply List.Mem.tail)); done)) | (apply Reads.own; (focus (repeat (first | exact List.Mem.head _ | apply List.Mem.tail)); done)) | (apply Reads.rx; (focus (repeat (first | exact List.Mem.head _ | apply List.Mem.tail)); done)) | (apply Reads.rows (e := false); (focus (repeat (first | exact List.Mem.head _ | apply List.Mem.tail)); done)) | (apply Reads.rows (e := true); (focus (repeat (first | exact List.Mem.head _ | apply List.Mem.tail)); done))))) rfl ?_
  rintro ⟨Ar, cr⟩ _
  rw [List.nil_append, Nat.zero_add]
  refine WL.nil ?_
  refine WX.regs (L' := [(2, _), (3, _)]) (by repeat (first | exact RS.nil | refine RS.cons rfl ?_)) ?_
  refine WX.next ?_
  refine WC.seq ?_
  refine WC.region ?_
  refine wlv (op_move (by decide) rfl) rfl ?_
  refine wlx (op_call (f66_spec hb (absorb S8.init bs (m / 64)) Ar (m % 64) cr m (bs.drop (64 * (m / 64))) (by simp; omega) (by omega) (by omega)) ca66 (by decide) rfl (by apply Give.mk; (repeat (first | exact Takes.nil | exact Take.here | apply Takes.cons | apply Take.there)); repeat (first | exact Reads.nil | (apply Reads.rd; (focus (repeat (first | exact List.Mem.head _ | apply List.Mem.tail)); done)) | (apply Reads.own; (focus (repeat (first | exact List.Mem.head _ | apply List.Mem.tail)); done)) | (apply Reads.rx; (focus (repeat (first | exact List.Mem.head _ | apply List.Mem.tail)); done)) | (apply Reads.rows (e := false); (focus (repeat (first | exact List.Mem.head _ | apply List.Mem.tail)); done)) | (apply Reads.rows (e := true); (focus (repeat (first | exact List.Mem.head _ | apply List.Mem.tail)); done))))) rfl ?_
  rintro _ _
  rw [sha_parts bs m hm]
  refine wl (op_storeAll sz120 rfl rfl (by repeat (first | exact Take.here | apply Take.there)) (by simp [Value.cells, sha_length]) (by first | rfl | exact wvs_one _ | exact bvs_one _) (by first | rfl | (simp [Value.cells]; done) | (simp [Value.cells]; omega))) rfl ?_
  change WL _ _ _ _ _ _ _
  refine WL.nil ?_
  refine WX.regs (L' := [(2, _)]) (by repeat (first | exact RS.nil | refine RS.cons rfl ?_)) ?_
  refine WX.next ?_
  refine WC.ret ?_
  exact Fin.ret1 (by first | exact .inl rfl | exact .inr rfl) (()) (trivial) Try.results63 (.cellN rfl ag120 (by repeat (first | exact List.Mem.head _ | apply List.Mem.tail)) (by first | rfl | (simp [Value.cells]; done) | (simp [Value.cells]; omega))) (by repeat (first | exact Takes.nil | exact Take.here | apply Takes.cons | apply Take.there)) (by simp)
set_option maxHeartbeats 400000 in
set_option maxRecDepth 10000 in
theorem f58_spec (A : Option Addr) (m c : Nat) (bs : List UInt8) (hm : bs.length = m) (hm' : m < 100000) :
    Spec Try.prog 58 [.slice A m c] [] [rd (.slice A m c) 1 m (bvs bs)] (R := Unit) (fun _ => True) (fun _ => .agg (bvs ((sha bs).take 16)).toArray) (fun _ => []) := by
  refine Spec.intro Try.func58 Try.ntmps58 rfl (by simp) (by simp) fun w0 => ?_
  refine WC.seq ?_
  refine WC.region ?_
  refine wl1 (op_alloc ti112 (by decide)) rfl fun b1 => ?_
  refine WL.nil ?_
  refine WX.regs (L' := [(0, _), (2, _)]) (by repeat (first | exact RS.nil | refine RS.cons rfl ?_)) ?_
  refine WX.next ?_
  refine WC.seq ?_
  refine WC.region ?_
  refine wlv (op_move (by decide) rfl) rfl ?_
  refine wlx (op_call (f63_spec A m c bs hm hm') ca63 (by decide) rfl (by apply Give.mk; (repeat (first | exact Takes.nil | exact Take.here | apply Takes.cons | apply Take.there)); repeat (first | exact Reads.nil | (apply Reads.rd; (focus (repeat (first | exact List.Mem.head _ | apply List.Mem.tail)); done)) | (apply Reads.own; (focus (repeat (first | exact List.Mem.head _ | apply List.Mem.tail)); done)) | (apply Reads.rx; (focus (repeat (first | exact List.Mem.head _ | apply List.Mem.tail)); done)) | (apply Reads.rows (e := false); (focus (repeat (first | exact List.Mem.head _ | apply List.Mem.tail)); done)) | (apply Reads.rows (e := true); (focus (repeat (first | exact List.Mem.head _ | apply List.Mem.tail)); done))))) rfl ?_
  rintro r1 h1
  refine wl1 (op_alloc ti120 (by decide)) rfl fun b2 => ?_
  refine wl (op_storeAll sz120 rfl rfl (by repeat (first | exact Take.here | apply Take.there)) (by simp [Value.cells, sha_length]) (by first | rfl | exact wvs_one _ | exact bvs_one _) (by first | rfl | (simp [Value.cells]; done) | (simp [Value.cells]; omega))) rfl ?_
  change WL _ _ _ _ _ _ _
  refine WL.nil ?_
  refine WX.regs (L' := [(2, _), (3, _)]) (by repeat (first | exact RS.nil | refine RS.cons rfl ?_)) ?_
  refine WX.next ?_
  refine WC.seq ?_
  refine WC.region ?_
  refine wlv (op_sliceArr_h Try.underlying120 sz5 (by decide) rfl rfl (by decide) (by decide)) rfl ?_
  refine wlv (op_sl2arr Try.underlying112 (by decide) rfl (by decide)) rfl ?_
  refine wlv (op_loadN ag112 (by decide) rfl (by repeat (first | exact List.Mem.head _ | apply List.Mem.tail)) rfl) rfl ?_
  refine wl (op_storeAll sz112 rfl rfl (by repeat (first | exact Take.here | apply Take.there)) (by first | rfl | (simp [Value.cells]; done) | (simp [Value.cells]; omega)) (by first | rfl | exact wvs_one _ | exact bvs_one _) (by first | rfl | (simp [Value.cells]; done) | (simp [Value.cells]; omega))) rfl ?_
  change WL _ _ _ _ _ _ _
  refine WL.nil ?_
  refine WX.regs (L' := [(2, _)]) (by repeat (first | exact RS.nil | refine RS.cons rfl ?_)) ?_
  refine WX.next ?_
  refine WC.ret ?_
  exact Fin.ret1 (by first | exact .inl rfl | exact .inr rfl) (()) (trivial) Try.results58 (.cellN rfl ag112 (by repeat (first | exact List.Mem.head _ | apply List.Mem.tail)) (by first | rfl | (simp [Value.cells]; done) | (simp [Value.cells]; omega))) (by repeat (first | exact Takes.nil | exact Take.here | apply Takes.cons | apply Take.there)) (by simp)
set_option maxHeartbeats 400000 in
set_option maxRecDepth 10000 in
theorem f47_spec (A : Option Addr) (m c : Nat) (bs : List UInt8) (hm : bs.length = m) (hm' : m < 100000) (h16 : 16 ≤ m) :
    Spec Try.prog 47 [.slice A m c] [] [rd (.slice A m c) 1 m (bvs bs)] (R := Unit) (fun _ => True) (fun _ => .agg (bvs ((sha (bs.drop 16)).take 16)).toArray) (fun _ => []) := by
  refine Spec.intro Try.func47 Try.ntmps47 rfl (by simp) (by simp) fun w0 => ?_
  refine WC.seq ?_
  refine WC.region ?_
  refine wl1 (op_alloc ti98 (by decide)) rfl fun b1 => ?_
  refine WL.nil ?_
  refine WX.regs (L' := [(0, _), (2, _)]) (by repeat (first | exact RS.nil | refine RS.cons rfl ?_)) ?_
  refine WX.next ?_
  refine WC.seq ?_
  refine WC.region ?_
  refine wlv (op_move (by decide) rfl) rfl ?_
  refine wlv (op_slice_l Try.underlying22 sz5 (by decide) rfl rfl (by omega) (by omega)) rfl ?_
  refine WL.dupr (v := .slice A m c) (sz := 1) (m := m) (xs := bvs bs) (by repeat (first | exact List.Mem.head _ | apply List.Mem.tail)) (rd_dropB (l := 16) hm (by omega)) ?_
  refine wlx (op_call (f58_spec _ (m - 16) (c - 16) (bs.drop 16) (by simp; omega) (by omega)) ca58 (by decide) rfl (by apply Give.mk; (repeat (first | exact Takes.nil | exact Take.here | apply Takes.cons | apply Take.there)); repeat (first | exact Reads.nil | (apply Reads.rd; (focus (repeat (first | exact List.Mem.head _ | apply List.Mem.tail)); done)) | (apply Reads.own; (focus (repeat (first | exact List.Mem.head _ | apply List.Mem.tail)); done)) | (apply Reads.rx; (focus (repeat (first | exact List.Mem.head _ | apply List.Mem.tail)); done)) | (apply Reads.rows (e := false); (focus (repeat (first | exact List.Mem.head _ | apply List.Mem.tail)); done)) | (apply Reads.rows (e := true); (focus (repeat (first | exact List.Mem.head _ | apply List.Mem.tail)); done))))) rfl ?_
  rintro r1 h1
  refine wl (op_storeAll sz98 rfl rfl (by repeat (first | exact Take.here | apply Take.there)) (by simp [Value.cells, sha_length]) (by first | rfl | exact wvs_one _ | exact bvs_one _) (by first | rfl | (simp [Value.cells]; done) | (simp [Value.cells]; omega))) rfl ?_
  change WL _ _ _ _ _ _ _
  refine WL.nil ?_
  refine WX.regs (L' := [(2, _)]) (by repeat (first | exact RS.nil | refine RS.cons rfl ?_)) ?_
  refine WX.next ?_
  refine WC.ret ?_
  exact Fin.ret1 (by first | exact .inl rfl | exact .inr rfl) (()) (trivial) Try.results47 (.cellN rfl ag98 (by repeat (first | exact List.Mem.head _ | apply List.Mem.tail)) (by first | rfl | (simp [Value.cells]; done) | (simp [Value.cells]; omega))) (by repeat (first | exact Takes.nil | exact Take.here | apply Takes.cons | apply Take.there)) (by simp)
end Go.Proofs.Ythephcghglldaaa.Sx
