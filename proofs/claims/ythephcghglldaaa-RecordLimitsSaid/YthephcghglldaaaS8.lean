import Derived.Test.YthephcghglldaaaS7
import Derived.Test.YthephcghglldaaaSr
set_option linter.unusedVariables false
set_option linter.unusedSimpArgs false
namespace Go.Proofs.Ythephcghglldaaa.Sx
open Go.RowKit Go.Proofs.Ythephcghglldaaa.Ty
attribute [local irreducible] blk own rd rx frameC


def Wr (bs : List UInt8) (i : Nat) : UInt32 := (refW bs (i + 1)).getD i 0
theorem refW_get (bs : List UInt8) (i : Nat) : ∀ n, i < n → (refW bs n).getD i 0 = Wr bs i := by
  intro n
  induction n with
  | zero => intro h; omega
  | succ n ih =>
    intro h
    by_cases e : i = n
    · subst e; rfl
    · have h2 : i < n := by omega
      by_cases hn : n < 16
      · rw [refW_lo _ _ hn, getD_pre (by simpa using h2), ih h2]
      · rw [refW_hi _ _ hn, getD_pre (by simpa using h2), ih h2]
theorem getD_last {ws : List UInt32} {x : UInt32} {k : Nat} (h : ws.length = k) : (ws ++ [x]).getD k 0 = x := by
  subst h; simp [List.getD_eq_getElem?_getD]
theorem Wr_lo (bs : List UInt8) (i : Nat) (h : i < 16) : Wr bs i = wd bs i := by
  unfold Wr; rw [refW_lo _ _ h, getD_last (refW_length _ _)]
theorem Wr_hi (bs : List UInt8) (i : Nat) (h : 16 ≤ i) : Wr bs i = ((((rotr (Wr bs (i - 2)) 17 ^^^ rotr (Wr bs (i - 2)) 19) ^^^ (Wr bs (i - 2) >>> 10)) + Wr bs (i - 7))
        + ((rotr (Wr bs (i - 15)) 7 ^^^ rotr (Wr bs (i - 15)) 18) ^^^ (Wr bs (i - 15) >>> 3))) + Wr bs (i - 16) := by
  conv => lhs; unfold Wr
  rw [refW_hi _ _ (by omega), getD_last (refW_length _ _)]
  unfold rnew
  rw [refW_get _ (i - 2) _ (by omega), refW_get _ (i - 7) _ (by omega), refW_get _ (i - 15) _ (by omega), refW_get _ (i - 16) _ (by omega)]
theorem getD_set_self (ws : List UInt32) (k : Nat) (x : UInt32) (h : k < ws.length) : (ws.set k x).getD k 0 = x := by
  simp [List.getD_eq_getElem?_getD, h]
theorem getD_set_ne (ws : List UInt32) (k j : Nat) (x : UInt32) (h : k ≠ j) : (ws.set k x).getD j 0 = ws.getD j 0 := by
  simp [List.getD_eq_getElem?_getD, List.getElem?_set, h]
theorem wds_get (bs : List UInt8) (i : Nat) (h : i < 16) : (wds bs 16).getD i 0 = wd bs i := by
  simp [wds, List.getD_eq_getElem?_getD, h]
theorem roll (s : S8) (bs : List UInt8) : ∀ t i, i < max t 16 → max t 16 ≤ i + 16 → (pst s (wds bs 16) t).1.getD (i % 16) 0 = Wr bs i := by
  intro t
  induction t with
  | zero =>
    intro i h1 h2
    have h3 : i < 16 := by omega
    rw [Nat.mod_eq_of_lt h3]
    exact (wds_get bs i h3).trans (Wr_lo bs i h3).symm
  | succ t ih =>
    intro i h1 h2
    show (pw (pst s (wds bs 16) t).1 t).getD (i % 16) 0 = _
    unfold pw
    split
    · rename_i h16
      by_cases e : i = t
      · subst e
        rw [getD_set_self _ _ _ (by rw [pst_length]; simp; omega), Wr_hi _ _ h16]
        unfold pnew
        rw [ih (i - 2) (by omega) (by omega), ih (i - 7) (by omega) (by omega), ih (i - 15) (by omega) (by omega)]
        have e16 : i % 16 = (i - 16) % 16 := by omega
        rw [e16, ih (i - 16) (by omega) (by omega), UInt32.add_comm]
      · rw [getD_set_ne _ _ _ _ (by omega)]
        exact ih i (by omega) (by omega)
    · exact ih i (by omega) (by omega)
def rst (s : S8) (bs : List UInt8) : Nat → S8
  | 0 => s
  | t + 1 => (rst s bs t).round (Kw.getD t 0) ((refW bs 64).getD t 0)
theorem rst_pst (s : S8) (bs : List UInt8) : ∀ t, t ≤ 64 → rst s bs t = (pst s (wds bs 16) t).2 := by
  intro t
  induction t with
  | zero => intro _; rfl
  | succ t ih =>
    intro h
    show (rst s bs t).round (Kw.getD t 0) ((refW bs 64).getD t 0) = (pst s (wds bs 16) t).2.round (Kw.getD t 0) ((pst s (wds bs 16) (t + 1)).1.getD (t % 16) 0)
    rw [ih (by omega), roll s bs (t + 1) t (by omega) (by omega), refW_get bs t 64 (by omega)]
theorem plus_comm (s o : S8) : s.plus o = o.plus s := by
  simp [S8.plus, UInt32.add_comm]
/-- Adding o to s word by word. -/
def madd (s o : List UInt32) : Nat → List UInt32
  | 0 => s
  | i + 1 => (madd s o i).set i ((madd s o i).getD i 0 + o.getD i 0)
@[simp] theorem madd_length (s o : List UInt32) (i : Nat) : (madd s o i).length = s.length := by induction i <;> simp [madd, *]
theorem madd_end (s o : S8) : madd s.list o.list 8 = (s.plus o).list := rfl
theorem wds_take (bs : List UInt8) : wds (bs.take 64) 16 = wds bs 16 := by
  unfold wds
  apply List.map_congr_left
  intro j hj
  have hj := List.mem_range.1 hj
  have g : ∀ i, i < 64 → (bs.take 64).getD i 0 = bs.getD i 0 := by
    intro i hi
    simp [List.getD_eq_getElem?_getD, List.getElem?_take, hi]
  unfold wd
  rw [g _ (by omega), g _ (by omega), g _ (by omega), g _ (by omega)]
theorem absorb_ref (s : S8) (l : List UInt8) (k : Nat) : (absorb s l k).plus (rst (absorb s l k) ((l.drop (64 * k)).take 64) 64) = absorb s l (k + 1) := by
  rw [rst_pst _ _ _ (Nat.le_refl _), wds_take, plus_comm]
  rfl
def wb2 (ws : List UInt32) (i : Nat) : UInt8 := (ws.getD (i / 4) 0 >>> UInt32.ofNat (24 - 8 * (i % 4))).toUInt8

theorem dig_at (s : S8) (i : Nat) (h : i < 32) : (dig s).getD i 0 = wb2 s.list i := by
  have e0 : ∀ w : UInt32, (w >>> UInt32.ofNat 0).toUInt8 = w.toUInt8 := by intro w; simp
  have h4 : ∀ (q r : Nat), q < 8 → r < 4 → (dig s).getD (4 * q + r) 0 = wb2 s.list (4 * q + r) := by
    intro q r hq hr
    unfold wb2
    have a1 : (4 * q + r) / 4 = q := by omega
    have a2 : (4 * q + r) % 4 = r := by omega
    rw [a1, a2]
    match r, hr with
    | 0, _ => match q, hq with
      | 0, _ | 1, _ | 2, _ | 3, _ | 4, _ | 5, _ | 6, _ | 7, _ => rfl
    | 1, _ => match q, hq with
      | 0, _ | 1, _ | 2, _ | 3, _ | 4, _ | 5, _ | 6, _ | 7, _ => rfl
    | 2, _ => match q, hq with
      | 0, _ | 1, _ | 2, _ | 3, _ | 4, _ | 5, _ | 6, _ | 7, _ => rfl
    | 3, _ =>
      show _ = (_ >>> UInt32.ofNat 0).toUInt8
      rw [e0]
      match q, hq with
      | 0, _ | 1, _ | 2, _ | 3, _ | 4, _ | 5, _ | 6, _ | 7, _ => rfl
  have e : i = 4 * (i / 4) + i % 4 := by omega
  rw [e]
  exact h4 _ _ (by omega) (by omega)
theorem getD_eqget {l : List UInt8} {i : Nat} (h : i < l.length) : l.getD i 0 = l[i] := by simp [List.getD_eq_getElem?_getD, h]
theorem dig_put (d : List UInt8) (i : Nat) (h : i < 32) (hl : d.length = 32) (x : UInt8) (hx : x = d.getD i 0) : (d.take i ++ List.replicate (32 - i) 0).set i x = d.take (i + 1) ++ List.replicate (32 - (i + 1)) 0 := by
  obtain ⟨k, hk⟩ : ∃ k, 32 - i = k + 1 := ⟨32 - i - 1, by omega⟩
  have e2 : 32 - (i + 1) = k := by omega
  have e3 : (d.take i).length = i := by rw [List.length_take]; omega
  have e4 : d.take (i + 1) = d.take i ++ [d[i]] := List.take_succ_eq_append_getElem (by omega)
  rw [hk, e2, List.replicate_succ, List.set_append_right (h := by omega), e3, hx, getD_eqget (by omega), e4]
  simp only [Nat.sub_self, List.set_cons_zero, List.append_assoc, List.cons_append, List.nil_append]
set_option maxHeartbeats 400000 in
set_option maxRecDepth 10000 in
theorem f56_spec (A : Option Addr) (m c : Nat) (bs : List UInt8) (hm : bs.length = m) (hm' : m < 100000) :
    Spec Try.prog 56 [.slice A m c] [] [rd (.slice A m c) 1 m (bvs bs)] (R := Unit) (fun _ => True) (fun _ => .agg (bvs (sha bs)).toArray) (fun _ => []) := by
  have hz : zpad m < 64 := by unfold zpad; omega
  have hz2 : (m + (zpad m + 1) + 8) % 64 = 0 := by unfold zpad; omega
  have hlp : (bs ++ pad m).length = m + (zpad m + 1) + 8 := by simp [pad, be8_length, hm]; omega
  refine Spec.intro Try.func56 Try.ntmps56 rfl (by simp) (by simp) fun w0 => ?_
  refine WC.seq ?_
  refine WC.region ?_
  refine wl1 (op_alloc ti108 (by decide)) rfl fun b1 => ?_
  refine WL.nil ?_
  refine WX.regs (L' := [(0, _), (2, _)]) (by repeat (first | exact RS.nil | refine RS.cons rfl ?_)) ?_
  refine WX.next ?_
  refine WC.seq ?_
  refine WC.region ?_
  refine wlv (op_build (cs := S8.init.cells) (pv := [(0, _), (1, _), (2, _), (3, _), (4, _), (5, _), (6, _), (7, _)]) (by decide) rfl (by kernel_rfl)) rfl ?_
  refine wl1 (op_alloc ti115 (by decide)) rfl fun b2 => ?_
  refine wl (op_storeAll sz115 rfl rfl (by repeat (first | exact Take.here | apply Take.there)) (by first | rfl | (simp [Value.cells]; done) | (simp [Value.cells]; omega)) (by first | rfl | exact wvs_one _ | exact bvs_one _) (by first | rfl | (simp [Value.cells]; done) | (simp [Value.cells]; omega))) rfl ?_
  change WL _ _ _ _ _ _ _
  refine WL.nil ?_
  refine WX.regs (L' := [(0, _), (2, _), (3, _)]) (by repeat (first | exact RS.nil | refine RS.cons rfl ?_)) ?_
  refine WX.next ?_
  refine WC.seq ?_
  refine WC.region ?_
  refine wlx (op_call (f59_spec) ca59 (by decide) rfl (by apply Give.mk; (repeat (first | exact Takes.nil | exact Take.here | apply Takes.cons | apply Take.there)); repeat (first | exact Reads.nil | (apply Reads.rd; (focus (repeat (first | exact List.Mem.head _ | apply List.Mem.tail)); done)) | (apply Reads.own; (focus (repeat (first | exact List.Mem.head _ | apply List.Mem.tail)); done)) | (apply Reads.rx; (focus (repeat (first | exact List.Mem.head _ | apply List.Mem.tail)); done)) | (apply Reads.rows (e := false); (focus (repeat (first | exact List.Mem.head _ | apply List.Mem.tail)); done)) | (apply Reads.rows (e := true); (focus (repeat (first | exact List.Mem.head _ | apply List.Mem.tail)); done))))) rfl ?_
  rintro r1 h1
  refine wl1 (op_alloc ti116 (by decide)) rfl fun b3 => ?_
  refine wl (op_storeAll sz116 rfl rfl (by repeat (first | exact Take.here | apply Take.there)) (by first | rfl | (simp [Value.cells]; done) | (simp [Value.cells]; omega)) (by first | rfl | exact wvs_one _ | exact bvs_one _) (by first | rfl | (simp [Value.cells]; done) | (simp [Value.cells]; omega))) rfl ?_
  change WL _ _ _ _ _ _ _
  refine WL.nil ?_
  refine WX.regs (L' := [(0, _), (2, _), (3, _), (4, _)]) (by repeat (first | exact RS.nil | refine RS.cons rfl ?_)) ?_
  refine WX.next ?_
  refine WC.seq ?_
  refine WC.region ?_
  refine wlv (op_move (by decide) rfl) rfl ?_
  refine wlx (op_call (f60_spec A m c bs hm hm') ca60 (by decide) rfl (by apply Give.mk; (repeat (first | exact Takes.nil | exact Take.here | apply Takes.cons | apply Take.there)); repeat (first | exact Reads.nil | (apply Reads.rd; (focus (repeat (first | exact List.Mem.head _ | apply List.Mem.tail)); done)) | (apply Reads.own; (focus (repeat (first | exact List.Mem.head _ | apply List.Mem.tail)); done)) | (apply Reads.rx; (focus (repeat (first | exact List.Mem.head _ | apply List.Mem.tail)); done)) | (apply Reads.rows (e := false); (focus (repeat (first | exact List.Mem.head _ | apply List.Mem.tail)); done)) | (apply Reads.rows (e := true); (focus (repeat (first | exact List.Mem.head _ | apply List.Mem.tail)); done))))) rfl ?_
  rintro ⟨Ap, cp⟩ _
  refine WL.turn (by repeat (first | exact Take.here | apply Take.there)) own_le_rd ?_
  refine WL.capx (by first | (apply Src.rd; (repeat (first | exact List.Mem.head _ | apply List.Mem.tail)); done) | (apply Src.own; (repeat (first | exact List.Mem.head _ | apply List.Mem.tail)); done) | (apply Src.rx; (repeat (first | exact List.Mem.head _ | apply List.Mem.tail)); done)) (fun hcp => ?_)
  refine wlv (op_assign (by decide) rfl) rfl ?_
  refine WL.nil ?_
  refine WX.regs (L' := [(2, _), (3, _), (4, _), (5, _)]) (by repeat (first | exact RS.nil | refine RS.cons rfl ?_)) ?_
  refine WX.next ?_
  refine WC.seq ?_
  refine WC.seq ?_
  refine WC.region ?_
  refine wlv (op_assign (by decide) rfl) rfl ?_
  refine WL.nil ?_
  refine WX.regs (L' := [(2, _), (3, _), (4, _), (5, _), (6, _)]) (by repeat (first | exact RS.nil | refine RS.cons rfl ?_)) ?_
  refine WX.next ?_
  refine WC.block ?_
  refine WC.loop (X := Nat) (fun k => (m + (zpad m + 1) + 8) / 64 - k) (fun k => 64 * k ≤ (m + (zpad m + 1) + 8)) (fun k => [(2, .pointer (some ⟨b1, 0, none⟩)), (3, .pointer (some ⟨b2, 0, none⟩)), (4, .pointer (some ⟨b3, 0, none⟩)), (5, .slice Ap (m + (zpad m + 1) + 8) cp), (6, .int .i64 ((64 * k : Nat) : Int))]) (fun k => [blk b2 (absorb S8.init (bs ++ pad m) k).cells 115, blk b3 (wvs Kw) 116, blk b1 (bvs (List.replicate 32 0)) 108, rd (.slice Ap (m + (zpad m + 1) + 8) cp) 1 (m + (zpad m + 1) + 8) (bvs (bs ++ pad m)), frameC w0 (MutF [])]) (0) (by omega) (fun a w hs => hs.sub (by repeat (first | exact RS.nil | refine RS.cons (by first | rfl | exact congrArg (fun z : Int => some (Value.int .i64 z)) (by omega)) ?_)) (by repeat (first | exact Takes.nil | exact Take.here | apply Takes.cons | apply Take.there))) ?_
  rintro k hk
  try dsimp only
  refine WC.seq ?_
  refine WC.seq ?_
  refine WC.region ?_
  refine wlv (op_move (by decide) rfl) rfl ?_
  refine wlv (op_move (by decide) rfl) rfl ?_
  refine wlv (op_len Try.underlying22 (by decide) rfl) rfl ?_
  refine wlv (op_lss (by decide) rfl rfl) rfl ?_
  refine WL.nil ?_
  refine WX.regs (L' := [(2, _), (3, _), (4, _), (5, _), (6, _), (22, _)]) (by repeat (first | exact RS.nil | refine RS.cons rfl ?_)) ?_
  refine WX.next ?_
  refine WC.cond rfl (fun h1 => ?_) (fun h1 => ?_)
  ·
    refine WC.skip ?_
    refine WX.next ?_
    refine WC.seq ?_
    refine WC.block ?_
    refine WC.seq ?_
    refine WC.region ?_
    refine wlv (op_move (by decide) rfl) rfl ?_
    refine wlv (op_move (by decide) rfl) rfl ?_
    refine wlv (op_move (by decide) rfl) rfl ?_
    refine wlv (op_add (by decide) rfl rfl (by omega)) rfl ?_
    refine wlv (op_slice_lh Try.underlying22 sz5 (by decide) rfl rfl rfl (by omega) (by omega) (by omega)) rfl ?_
    refine WL.dupr (v := .slice Ap (m + (zpad m + 1) + 8) cp) (sz := 1) (m := (m + (zpad m + 1) + 8)) (xs := bvs (bs ++ pad m)) (by repeat (first | exact List.Mem.head _ | apply List.Mem.tail)) (rd_subB (l := 64 * k) (h := 64 * k + 64) (by omega) (by omega)) ?_
    refine wlx (op_call (f61_spec _ (64 * k + 64 - 64 * k) _ (((bs ++ pad m).drop (64 * k)).take (64 * k + 64 - 64 * k)) (by omega) (by simp only [List.length_take, List.length_drop]; omega) (by omega)) ca61 (by decide) rfl (by apply Give.mk; (repeat (first | exact Takes.nil | exact Take.here | apply Takes.cons | apply Take.there)); repeat (first | exact Reads.nil | (apply Reads.rd; (focus (repeat (first | exact List.Mem.head _ | apply List.Mem.tail)); done)) | (apply Reads.own; (focus (repeat (first | exact List.Mem.head _ | apply List.Mem.tail)); done)) | (apply Reads.rx; (focus (repeat (first | exact List.Mem.head _ | apply List.Mem.tail)); done)) | (apply Reads.rows (e := false); (focus (repeat (first | exact List.Mem.head _ | apply List.Mem.tail)); done)) | (apply Reads.rows (e := true); (focus (repeat (first | exact List.Mem.head _ | apply List.Mem.tail)); done))))) rfl ?_
    rintro r3 h3
    refine wl1 (op_alloc ti116 (by decide)) rfl fun b4 => ?_
    refine wl (op_storeAll sz116 rfl rfl (by repeat (first | exact Take.here | apply Take.there)) (by first | rfl | (simp [Value.cells]; done) | (simp [Value.cells]; omega)) (by first | rfl | exact wvs_one _ | exact bvs_one _) (by first | rfl | (simp [Value.cells]; done) | (simp [Value.cells]; omega))) rfl ?_
    change WL _ _ _ _ _ _ _
    refine WL.nil ?_
    refine WX.regs (L' := [(2, _), (3, _), (4, _), (5, _), (6, _), (7, _)]) (by repeat (first | exact RS.nil | refine RS.cons rfl ?_)) ?_
    refine WX.next ?_
    refine WC.seq ?_
    refine WC.region ?_
    refine wlv (op_loadAll ag115 (by decide) rfl (by repeat (first | exact List.Mem.head _ | apply List.Mem.tail)) (by first | rfl | (simp [Value.cells]; done) | (simp [Value.cells]; omega))) rfl ?_
    refine wl1 (op_alloc ti115 (by decide)) rfl fun b5 => ?_
    refine wl (op_storeAll sz115 rfl rfl (by repeat (first | exact Take.here | apply Take.there)) (by first | rfl | (simp [Value.cells]; done) | (simp [Value.cells]; omega)) (by first | rfl | exact wvs_one _ | exact bvs_one _) (by first | rfl | (simp [Value.cells]; done) | (simp [Value.cells]; omega))) rfl ?_
    change WL _ _ _ _ _ _ _
    refine WL.nil ?_
    refine WX.regs (L' := [(2, _), (3, _), (4, _), (5, _), (6, _), (7, _), (8, _)]) (by repeat (first | exact RS.nil | refine RS.cons rfl ?_)) ?_
    refine WX.next ?_
    refine WC.seq ?_
    refine WC.seq ?_
    refine WC.region ?_
    refine wlv (op_assign (by decide) rfl) rfl ?_
    refine WL.nil ?_
    refine WX.regs (L' := [(2, _), (3, _), (4, _), (5, _), (6, _), (7, _), (8, _), (9, _)]) (by repeat (first | exact RS.nil | refine RS.cons rfl ?_)) ?_
    refine WX.next ?_
    refine WC.block ?_
    refine WC.loop (X := Nat) (fun t => 64 - t) (fun t => t ≤ 64) (fun t => [(2, .pointer (some ⟨b1, 0, none⟩)), (3, .pointer (some ⟨b2, 0, none⟩)), (4, .pointer (some ⟨b3, 0, none⟩)), (5, .slice Ap (m + (zpad m + 1) + 8) cp), (6, .int .i64 ((64 * k : Nat) : Int)), (7, .pointer (some ⟨b4, 0, none⟩)), (8, .pointer (some ⟨b5, 0, none⟩)), (9, .int .i64 (t : Int))]) (fun t => [blk b5 (rst (absorb S8.init (bs ++ pad m) k) (((bs ++ pad m).drop (64 * k)).take (64 * k + 64 - 64 * k)) t).cells 115, blk b4 (wvs (refW (((bs ++ pad m).drop (64 * k)).take (64 * k + 64 - 64 * k)) 64)) 116, blk b2 (absorb S8.init (bs ++ pad m) k).cells 115, blk b3 (wvs Kw) 116, blk b1 (bvs (List.replicate 32 0)) 108, rd (.slice Ap (m + (zpad m + 1) + 8) cp) 1 (m + (zpad m + 1) + 8) (bvs (bs ++ pad m)), frameC w0 (MutF [])]) (0) (by omega) (fun a w hs => hs.sub (by repeat (first | exact RS.nil | refine RS.cons (by first | rfl | exact congrArg (fun z : Int => some (Value.int .i64 z)) (by omega)) ?_)) (by repeat (first | exact Takes.nil | exact Take.here | apply Takes.cons | apply Take.there))) ?_
    rintro t ht
    try dsimp only
    refine WC.seq ?_
    refine WC.seq ?_
    refine WC.region ?_
    refine wlv (op_move (by decide) rfl) rfl ?_
    refine wlv (op_lss (by decide) rfl rfl) rfl ?_
    refine WL.nil ?_
    refine WX.regs (L' := [(2, _), (3, _), (4, _), (5, _), (6, _), (7, _), (8, _), (9, _), (33, _)]) (by repeat (first | exact RS.nil | refine RS.cons rfl ?_)) ?_
    refine WX.next ?_
    refine WC.cond rfl (fun h2 => ?_) (fun h2 => ?_)
    ·
      refine WC.skip ?_
      refine WX.next ?_
      refine WC.seq ?_
      refine WC.block ?_
      refine WC.seq ?_
      refine WC.drawnH mo 999 ?_
      refine WA.take (i := 0) rfl (by kernel_rfl) (fun _ _ _ h => h) rfl (op_indexArr Try.underlying115 sz114 (by decide) rfl rfl (by omega) (by omega)) (by repeat (first | exact Takes.nil | exact Take.here | apply Takes.cons | apply Take.there)) ?_
      refine WA.take (i := 1) rfl (by kernel_rfl) (fun _ _ _ h => h) rfl (op_load1 fl114 (by decide) rfl (by repeat (first | exact List.Mem.head _ | apply List.Mem.tail)) rfl) (by repeat (first | exact Takes.nil | exact Take.here | apply Takes.cons | apply Take.there)) ?_
      refine WA.take (i := 2) rfl (by kernel_rfl) (fun _ _ _ h => h) rfl (op_indexArr Try.underlying115 sz114 (by decide) rfl rfl (by omega) (by omega)) (by repeat (first | exact Takes.nil | exact Take.here | apply Takes.cons | apply Take.there)) ?_
      refine WA.take (i := 3) rfl (by kernel_rfl) (fun _ _ _ h => h) rfl (op_load1 fl114 (by decide) rfl (by repeat (first | exact List.Mem.head _ | apply List.Mem.tail)) rfl) (by repeat (first | exact Takes.nil | exact Take.here | apply Takes.cons | apply Take.there)) ?_
      refine WA.take (i := 5) rfl (by kernel_rfl) (fun _ _ _ h => h) rfl (op_indexArr Try.underlying115 sz114 (by decide) rfl rfl (by omega) (by omega)) (by repeat (first | exact Takes.nil | exact Take.here | apply Takes.cons | apply Take.there)) ?_
      refine WA.take (i := 6) rfl (by kernel_rfl) (fun _ _ _ h => h) rfl (op_load1 fl114 (by decide) rfl (by repeat (first | exact List.Mem.head _ | apply List.Mem.tail)) rfl) (by repeat (first | exact Takes.nil | exact Take.here | apply Takes.cons | apply Take.there)) ?_
      refine WA.take (i := 9) rfl (by kernel_rfl) (fun _ _ _ h => h) rfl (op_indexArr Try.underlying115 sz114 (by decide) rfl rfl (by omega) (by omega)) (by repeat (first | exact Takes.nil | exact Take.here | apply Takes.cons | apply Take.there)) ?_
      refine WA.take (i := 10) rfl (by kernel_rfl) (fun _ _ _ h => h) rfl (op_load1 fl114 (by decide) rfl (by repeat (first | exact List.Mem.head _ | apply List.Mem.tail)) rfl) (by repeat (first | exact Takes.nil | exact Take.here | apply Takes.cons | apply Take.there)) ?_
      refine WA.take (i := 14) rfl (by kernel_rfl) (fun _ _ _ h => h) rfl (op_indexArr Try.underlying115 sz114 (by decide) rfl rfl (by omega) (by omega)) (by repeat (first | exact Takes.nil | exact Take.here | apply Takes.cons | apply Take.there)) ?_
      refine WA.take (i := 15) rfl (by kernel_rfl) (fun _ _ _ h => h) rfl (op_load1 fl114 (by decide) rfl (by repeat (first | exact List.Mem.head _ | apply List.Mem.tail)) rfl) (by repeat (first | exact Takes.nil | exact Take.here | apply Takes.cons | apply Take.there)) ?_
      refine WA.take (i := 16) rfl (by kernel_rfl) (fun _ _ _ h => h) rfl (op_indexArr Try.underlying115 sz114 (by decide) rfl rfl (by omega) (by omega)) (by repeat (first | exact Takes.nil | exact Take.here | apply Takes.cons | apply Take.there)) ?_
      refine WA.take (i := 17) rfl (by kernel_rfl) (fun _ _ _ h => h) rfl (op_load1 fl114 (by decide) rfl (by repeat (first | exact List.Mem.head _ | apply List.Mem.tail)) rfl) (by repeat (first | exact Takes.nil | exact Take.here | apply Takes.cons | apply Take.there)) ?_
      refine WA.take (i := 18) rfl (by kernel_rfl) (fun _ _ _ h => h) rfl (op_and32 (by decide) rfl rfl) (by repeat (first | exact Takes.nil | exact Take.here | apply Takes.cons | apply Take.there)) ?_
      refine WA.take (i := 19) rfl (by kernel_rfl) (fun _ _ _ h => h) rfl (op_indexArr Try.underlying115 sz114 (by decide) rfl rfl (by omega) (by omega)) (by repeat (first | exact Takes.nil | exact Take.here | apply Takes.cons | apply Take.there)) ?_
      refine WA.take (i := 20) rfl (by kernel_rfl) (fun _ _ _ h => h) rfl (op_load1 fl114 (by decide) rfl (by repeat (first | exact List.Mem.head _ | apply List.Mem.tail)) rfl) (by repeat (first | exact Takes.nil | exact Take.here | apply Takes.cons | apply Take.there)) ?_
      refine WA.take (i := 21) rfl (by kernel_rfl) (fun _ _ _ h => h) rfl (op_not32 (by decide) rfl) (by repeat (first | exact Takes.nil | exact Take.here | apply Takes.cons | apply Take.there)) ?_
      refine WA.take (i := 22) rfl (by kernel_rfl) (fun _ _ _ h => h) rfl (op_indexArr Try.underlying115 sz114 (by decide) rfl rfl (by omega) (by omega)) (by repeat (first | exact Takes.nil | exact Take.here | apply Takes.cons | apply Take.there)) ?_
      refine WA.take (i := 23) rfl (by kernel_rfl) (fun _ _ _ h => h) rfl (op_load1 fl114 (by decide) rfl (by repeat (first | exact List.Mem.head _ | apply List.Mem.tail)) rfl) (by repeat (first | exact Takes.nil | exact Take.here | apply Takes.cons | apply Take.there)) ?_
      refine WA.take (i := 24) rfl (by kernel_rfl) (fun _ _ _ h => h) rfl (op_and32 (by decide) rfl rfl) (by repeat (first | exact Takes.nil | exact Take.here | apply Takes.cons | apply Take.there)) ?_
      refine WA.take (i := 25) rfl (by kernel_rfl) (fun _ _ _ h => h) rfl (op_xor32 (by decide) rfl rfl) (by repeat (first | exact Takes.nil | exact Take.here | apply Takes.cons | apply Take.there)) ?_
      refine WA.take (i := 27) rfl (by kernel_rfl) (fun _ _ _ h => h) rfl (op_move (by decide) rfl) (by repeat (first | exact Takes.nil | exact Take.here | apply Takes.cons | apply Take.there)) ?_
      refine WA.take (i := 28) rfl (by kernel_rfl) (fun _ _ _ h => h) rfl (op_indexArr Try.underlying116 sz114 (by decide) rfl rfl (by omega) (by omega)) (by repeat (first | exact Takes.nil | exact Take.here | apply Takes.cons | apply Take.there)) ?_
      refine WA.take (i := 29) rfl (by kernel_rfl) (fun _ _ _ h => h) rfl (op_load1 fl114 (by decide) rfl (by repeat (first | exact List.Mem.head _ | apply List.Mem.tail)) (wvs_at (k := t) (by omega) (by rw [Kw_length]; omega))) (by repeat (first | exact Takes.nil | exact Take.here | apply Takes.cons | apply Take.there)) ?_
      refine WA.take (i := 31) rfl (by kernel_rfl) (fun _ _ _ h => h) rfl (op_move (by decide) rfl) (by repeat (first | exact Takes.nil | exact Take.here | apply Takes.cons | apply Take.there)) ?_
      refine WA.take (i := 32) rfl (by kernel_rfl) (fun _ _ _ h => h) rfl (op_indexArr Try.underlying116 sz114 (by decide) rfl rfl (by omega) (by omega)) (by repeat (first | exact Takes.nil | exact Take.here | apply Takes.cons | apply Take.there)) ?_
      refine WA.take (i := 33) rfl (by kernel_rfl) (fun _ _ _ h => h) rfl (op_load1 fl114 (by decide) rfl (by repeat (first | exact List.Mem.head _ | apply List.Mem.tail)) (wvs_at (k := t) (by omega) (by simp; omega))) (by repeat (first | exact Takes.nil | exact Take.here | apply Takes.cons | apply Take.there)) ?_
      refine WA.stepx (i := 4) (by kernel_rfl) rfl rfl (op_call (f62_spec _ _ (by decide)) ca62 (by decide) rfl (by apply Give.mk; (repeat (first | exact Takes.nil | exact Take.here | apply Takes.cons | apply Take.there)); repeat (first | exact Reads.nil | (apply Reads.rd; (focus (repeat (first | exact List.Mem.head _ | apply List.Mem.tail)); done)) | (apply Reads.own; (focus (repeat (first | exact List.Mem.head _ | apply List.Mem.tail)); done)) | (apply Reads.rx; (focus (repeat (first | exact List.Mem.head _ | apply List.Mem.tail)); done)) | (apply Reads.rows (e := false); (focus (repeat (first | exact List.Mem.head _ | apply List.Mem.tail)); done)) | (apply Reads.rows (e := true); (focus (repeat (first | exact List.Mem.head _ | apply List.Mem.tail)); done))))) (fun _ r => (by repeat (first | exact Takes.nil | exact Take.here | apply Takes.cons | apply Take.there))) ?_
      rintro r4 h4
      refine WA.stepx (i := 7) (by kernel_rfl) rfl rfl (op_call (f62_spec _ _ (by decide)) ca62 (by decide) rfl (by apply Give.mk; (repeat (first | exact Takes.nil | exact Take.here | apply Takes.cons | apply Take.there)); repeat (first | exact Reads.nil | (apply Reads.rd; (focus (repeat (first | exact List.Mem.head _ | apply List.Mem.tail)); done)) | (apply Reads.own; (focus (repeat (first | exact List.Mem.head _ | apply List.Mem.tail)); done)) | (apply Reads.rx; (focus (repeat (first | exact List.Mem.head _ | apply List.Mem.tail)); done)) | (apply Reads.rows (e := false); (focus (repeat (first | exact List.Mem.head _ | apply List.Mem.tail)); done)) | (apply Reads.rows (e := true); (focus (repeat (first | exact List.Mem.head _ | apply List.Mem.tail)); done))))) (fun _ r => (by repeat (first | exact Takes.nil | exact Take.here | apply Takes.cons | apply Take.there))) ?_
      rintro r5 h5
      refine WA.take (i := 8) rfl (by kernel_rfl) (fun _ _ _ h => h) rfl (op_xor32 (by decide) rfl rfl) (by repeat (first | exact Takes.nil | exact Take.here | apply Takes.cons | apply Take.there)) ?_
      refine WA.stepx (i := 11) (by kernel_rfl) rfl rfl (op_call (f62_spec _ _ (by decide)) ca62 (by decide) rfl (by apply Give.mk; (repeat (first | exact Takes.nil | exact Take.here | apply Takes.cons | apply Take.there)); repeat (first | exact Reads.nil | (apply Reads.rd; (focus (repeat (first | exact List.Mem.head _ | apply List.Mem.tail)); done)) | (apply Reads.own; (focus (repeat (first | exact List.Mem.head _ | apply List.Mem.tail)); done)) | (apply Reads.rx; (focus (repeat (first | exact List.Mem.head _ | apply List.Mem.tail)); done)) | (apply Reads.rows (e := false); (focus (repeat (first | exact List.Mem.head _ | apply List.Mem.tail)); done)) | (apply Reads.rows (e := true); (focus (repeat (first | exact List.Mem.head _ | apply List.Mem.tail)); done))))) (fun _ r => (by repeat (first | exact Takes.nil | exact Take.here | apply Takes.cons | apply Take.there))) ?_
      rintro r6 h6
      refine WA.take (i := 12) rfl (by kernel_rfl) (fun _ _ _ h => h) rfl (op_xor32 (by decide) rfl rfl) (by repeat (first | exact Takes.nil | exact Take.here | apply Takes.cons | apply Take.there)) ?_
      refine WA.take (i := 13) rfl (by kernel_rfl) (fun _ _ _ h => h) rfl (op_add32 (by decide) rfl rfl) (by repeat (first | exact Takes.nil | exact Take.here | apply Takes.cons | apply Take.there)) ?_
      refine WA.take (i := 26) rfl (by kernel_rfl) (fun _ _ _ h => h) rfl (op_add32 (by decide) rfl rfl) (by repeat (first | exact Takes.nil | exact Take.here | apply Takes.cons | apply Take.there)) ?_
      refine WA.take (i := 30) rfl (by kernel_rfl) (fun _ _ _ h => h) rfl (op_add32 (by decide) rfl rfl) (by repeat (first | exact Takes.nil | exact Take.here | apply Takes.cons | apply Take.there)) ?_
      refine WA.take (i := 34) rfl (by kernel_rfl) (fun _ _ _ h => h) rfl (op_add32 (by decide) rfl rfl) (by repeat (first | exact Takes.nil | exact Take.here | apply Takes.cons | apply Take.there)) ?_
      refine WA.take (i := 35) rfl (by kernel_rfl) (fun _ _ _ h => h) rfl (op_assign (by decide) rfl) (by repeat (first | exact Takes.nil | exact Take.here | apply Takes.cons | apply Take.there)) ?_
      refine WA.done (by kernel_rfl) ?_
      refine WX.regs (L' := [(2, _), (3, _), (4, _), (5, _), (6, _), (7, _), (8, _), (9, _), (10, _)]) (by repeat (first | exact RS.nil | refine RS.cons rfl ?_)) ?_
      refine WX.next ?_
      refine WC.seq ?_
      refine WC.drawnH mo 999 ?_
      refine WA.take (i := 0) rfl (by kernel_rfl) (fun _ _ _ h => h) rfl (op_indexArr Try.underlying115 sz114 (by decide) rfl rfl (by omega) (by omega)) (by repeat (first | exact Takes.nil | exact Take.here | apply Takes.cons | apply Take.there)) ?_
      refine WA.take (i := 1) rfl (by kernel_rfl) (fun _ _ _ h => h) rfl (op_load1 fl114 (by decide) rfl (by repeat (first | exact List.Mem.head _ | apply List.Mem.tail)) rfl) (by repeat (first | exact Takes.nil | exact Take.here | apply Takes.cons | apply Take.there)) ?_
      refine WA.take (i := 3) rfl (by kernel_rfl) (fun _ _ _ h => h) rfl (op_indexArr Try.underlying115 sz114 (by decide) rfl rfl (by omega) (by omega)) (by repeat (first | exact Takes.nil | exact Take.here | apply Takes.cons | apply Take.there)) ?_
      refine WA.take (i := 4) rfl (by kernel_rfl) (fun _ _ _ h => h) rfl (op_load1 fl114 (by decide) rfl (by repeat (first | exact List.Mem.head _ | apply List.Mem.tail)) rfl) (by repeat (first | exact Takes.nil | exact Take.here | apply Takes.cons | apply Take.there)) ?_
      refine WA.take (i := 7) rfl (by kernel_rfl) (fun _ _ _ h => h) rfl (op_indexArr Try.underlying115 sz114 (by decide) rfl rfl (by omega) (by omega)) (by repeat (first | exact Takes.nil | exact Take.here | apply Takes.cons | apply Take.there)) ?_
      refine WA.take (i := 8) rfl (by kernel_rfl) (fun _ _ _ h => h) rfl (op_load1 fl114 (by decide) rfl (by repeat (first | exact List.Mem.head _ | apply List.Mem.tail)) rfl) (by repeat (first | exact Takes.nil | exact Take.here | apply Takes.cons | apply Take.there)) ?_
      refine WA.take (i := 11) rfl (by kernel_rfl) (fun _ _ _ h => h) rfl (op_indexArr Try.underlying115 sz114 (by decide) rfl rfl (by omega) (by omega)) (by repeat (first | exact Takes.nil | exact Take.here | apply Takes.cons | apply Take.there)) ?_
      refine WA.take (i := 12) rfl (by kernel_rfl) (fun _ _ _ h => h) rfl (op_load1 fl114 (by decide) rfl (by repeat (first | exact List.Mem.head _ | apply List.Mem.tail)) rfl) (by repeat (first | exact Takes.nil | exact Take.here | apply Takes.cons | apply Take.there)) ?_
      refine WA.take (i := 13) rfl (by kernel_rfl) (fun _ _ _ h => h) rfl (op_indexArr Try.underlying115 sz114 (by decide) rfl rfl (by omega) (by omega)) (by repeat (first | exact Takes.nil | exact Take.here | apply Takes.cons | apply Take.there)) ?_
      refine WA.take (i := 14) rfl (by kernel_rfl) (fun _ _ _ h => h) rfl (op_load1 fl114 (by decide) rfl (by repeat (first | exact List.Mem.head _ | apply List.Mem.tail)) rfl) (by repeat (first | exact Takes.nil | exact Take.here | apply Takes.cons | apply Take.there)) ?_
      refine WA.take (i := 15) rfl (by kernel_rfl) (fun _ _ _ h => h) rfl (op_and32 (by decide) rfl rfl) (by repeat (first | exact Takes.nil | exact Take.here | apply Takes.cons | apply Take.there)) ?_
      refine WA.take (i := 16) rfl (by kernel_rfl) (fun _ _ _ h => h) rfl (op_indexArr Try.underlying115 sz114 (by decide) rfl rfl (by omega) (by omega)) (by repeat (first | exact Takes.nil | exact Take.here | apply Takes.cons | apply Take.there)) ?_
      refine WA.take (i := 17) rfl (by kernel_rfl) (fun _ _ _ h => h) rfl (op_load1 fl114 (by decide) rfl (by repeat (first | exact List.Mem.head _ | apply List.Mem.tail)) rfl) (by repeat (first | exact Takes.nil | exact Take.here | apply Takes.cons | apply Take.there)) ?_
      refine WA.take (i := 18) rfl (by kernel_rfl) (fun _ _ _ h => h) rfl (op_indexArr Try.underlying115 sz114 (by decide) rfl rfl (by omega) (by omega)) (by repeat (first | exact Takes.nil | exact Take.here | apply Takes.cons | apply Take.there)) ?_
      refine WA.take (i := 19) rfl (by kernel_rfl) (fun _ _ _ h => h) rfl (op_load1 fl114 (by decide) rfl (by repeat (first | exact List.Mem.head _ | apply List.Mem.tail)) rfl) (by repeat (first | exact Takes.nil | exact Take.here | apply Takes.cons | apply Take.there)) ?_
      refine WA.take (i := 20) rfl (by kernel_rfl) (fun _ _ _ h => h) rfl (op_and32 (by decide) rfl rfl) (by repeat (first | exact Takes.nil | exact Take.here | apply Takes.cons | apply Take.there)) ?_
      refine WA.take (i := 21) rfl (by kernel_rfl) (fun _ _ _ h => h) rfl (op_xor32 (by decide) rfl rfl) (by repeat (first | exact Takes.nil | exact Take.here | apply Takes.cons | apply Take.there)) ?_
      refine WA.take (i := 22) rfl (by kernel_rfl) (fun _ _ _ h => h) rfl (op_indexArr Try.underlying115 sz114 (by decide) rfl rfl (by omega) (by omega)) (by repeat (first | exact Takes.nil | exact Take.here | apply Takes.cons | apply Take.there)) ?_
      refine WA.take (i := 23) rfl (by kernel_rfl) (fun _ _ _ h => h) rfl (op_load1 fl114 (by decide) rfl (by repeat (first | exact List.Mem.head _ | apply List.Mem.tail)) rfl) (by repeat (first | exact Takes.nil | exact Take.here | apply Takes.cons | apply Take.there)) ?_
      refine WA.take (i := 24) rfl (by kernel_rfl) (fun _ _ _ h => h) rfl (op_indexArr Try.underlying115 sz114 (by decide) rfl rfl (by omega) (by omega)) (by repeat (first | exact Takes.nil | exact Take.here | apply Takes.cons | apply Take.there)) ?_
      refine WA.take (i := 25) rfl (by kernel_rfl) (fun _ _ _ h => h) rfl (op_load1 fl114 (by decide) rfl (by repeat (first | exact List.Mem.head _ | apply List.Mem.tail)) rfl) (by repeat (first | exact Takes.nil | exact Take.here | apply Takes.cons | apply Take.there)) ?_
      refine WA.take (i := 26) rfl (by kernel_rfl) (fun _ _ _ h => h) rfl (op_and32 (by decide) rfl rfl) (by repeat (first | exact Takes.nil | exact Take.here | apply Takes.cons | apply Take.there)) ?_
      refine WA.take (i := 27) rfl (by kernel_rfl) (fun _ _ _ h => h) rfl (op_xor32 (by decide) rfl rfl) (by repeat (first | exact Takes.nil | exact Take.here | apply Takes.cons | apply Take.there)) ?_
      refine WA.stepx (i := 2) (by kernel_rfl) rfl rfl (op_call (f62_spec _ _ (by decide)) ca62 (by decide) rfl (by apply Give.mk; (repeat (first | exact Takes.nil | exact Take.here | apply Takes.cons | apply Take.there)); repeat (first | exact Reads.nil | (apply Reads.rd; (focus (repeat (first | exact List.Mem.head _ | apply List.Mem.tail)); done)) | (apply Reads.own; (focus (repeat (first | exact List.Mem.head _ | apply List.Mem.tail)); done)) | (apply Reads.rx; (focus (repeat (first | exact List.Mem.head _ | apply List.Mem.tail)); done)) | (apply Reads.rows (e := false); (focus (repeat (first | exact List.Mem.head _ | apply List.Mem.tail)); done)) | (apply Reads.rows (e := true); (focus (repeat (first | exact List.Mem.head _ | apply List.Mem.tail)); done))))) (fun _ r => (by repeat (first | exact Takes.nil | exact Take.here | apply Takes.cons | apply Take.there))) ?_
      rintro r7 h7
      refine WA.stepx (i := 5) (by kernel_rfl) rfl rfl (op_call (f62_spec _ _ (by decide)) ca62 (by decide) rfl (by apply Give.mk; (repeat (first | exact Takes.nil | exact Take.here | apply Takes.cons | apply Take.there)); repeat (first | exact Reads.nil | (apply Reads.rd; (focus (repeat (first | exact List.Mem.head _ | apply List.Mem.tail)); done)) | (apply Reads.own; (focus (repeat (first | exact List.Mem.head _ | apply List.Mem.tail)); done)) | (apply Reads.rx; (focus (repeat (first | exact List.Mem.head _ | apply List.Mem.tail)); done)) | (apply Reads.rows (e := false); (focus (repeat (first | exact List.Mem.head _ | apply List.Mem.tail)); done)) | (apply Reads.rows (e := true); (focus (repeat (first | exact List.Mem.head _ | apply List.Mem.tail)); done))))) (fun _ r => (by repeat (first | exact Takes.nil | exact Take.here | apply Takes.cons | apply Take.there))) ?_
      rintro r8 h8
      refine WA.take (i := 6) rfl (by kernel_rfl) (fun _ _ _ h => h) rfl (op_xor32 (by decide) rfl rfl) (by repeat (first | exact Takes.nil | exact Take.here | apply Takes.cons | apply Take.there)) ?_
      refine WA.stepx (i := 9) (by kernel_rfl) rfl rfl (op_call (f62_spec _ _ (by decide)) ca62 (by decide) rfl (by apply Give.mk; (repeat (first | exact Takes.nil | exact Take.here | apply Takes.cons | apply Take.there)); repeat (first | exact Reads.nil | (apply Reads.rd; (focus (repeat (first | exact List.Mem.head _ | apply List.Mem.tail)); done)) | (apply Reads.own; (focus (repeat (first | exact List.Mem.head _ | apply List.Mem.tail)); done)) | (apply Reads.rx; (focus (repeat (first | exact List.Mem.head _ | apply List.Mem.tail)); done)) | (apply Reads.rows (e := false); (focus (repeat (first | exact List.Mem.head _ | apply List.Mem.tail)); done)) | (apply Reads.rows (e := true); (focus (repeat (first | exact List.Mem.head _ | apply List.Mem.tail)); done))))) (fun _ r => (by repeat (first | exact Takes.nil | exact Take.here | apply Takes.cons | apply Take.there))) ?_
      rintro r9 h9
      refine WA.take (i := 10) rfl (by kernel_rfl) (fun _ _ _ h => h) rfl (op_xor32 (by decide) rfl rfl) (by repeat (first | exact Takes.nil | exact Take.here | apply Takes.cons | apply Take.there)) ?_
      refine WA.take (i := 28) rfl (by kernel_rfl) (fun _ _ _ h => h) rfl (op_add32 (by decide) rfl rfl) (by repeat (first | exact Takes.nil | exact Take.here | apply Takes.cons | apply Take.there)) ?_
      refine WA.take (i := 29) rfl (by kernel_rfl) (fun _ _ _ h => h) rfl (op_assign (by decide) rfl) (by repeat (first | exact Takes.nil | exact Take.here | apply Takes.cons | apply Take.there)) ?_
      refine WA.done (by kernel_rfl) ?_
      refine WX.regs (L' := [(2, _), (3, _), (4, _), (5, _), (6, _), (7, _), (8, _), (9, _), (10, _), (11, _)]) (by repeat (first | exact RS.nil | refine RS.cons rfl ?_)) ?_
      refine WX.next ?_
      refine WC.region ?_
      refine wlv (op_move (by decide) rfl) rfl ?_
      refine wlv (op_move (by decide) rfl) rfl ?_
      refine wlv (op_add32 (by decide) rfl rfl) rfl ?_
      refine wlv (op_indexArr Try.underlying115 sz114 (by decide) rfl rfl (by omega) (by omega)) rfl ?_
      refine wlv (op_load1 fl114 (by decide) rfl (by repeat (first | exact List.Mem.head _ | apply List.Mem.tail)) rfl) rfl ?_
      refine wlv (op_indexArr Try.underlying115 sz114 (by decide) rfl rfl (by omega) (by omega)) rfl ?_
      refine wlv (op_load1 fl114 (by decide) rfl (by repeat (first | exact List.Mem.head _ | apply List.Mem.tail)) rfl) rfl ?_
      refine wlv (op_indexArr Try.underlying115 sz114 (by decide) rfl rfl (by omega) (by omega)) rfl ?_
      refine wlv (op_load1 fl114 (by decide) rfl (by repeat (first | exact List.Mem.head _ | apply List.Mem.tail)) rfl) rfl ?_
      refine wlv (op_indexArr Try.underlying115 sz114 (by decide) rfl rfl (by omega) (by omega)) rfl ?_
      refine wlv (op_load1 fl114 (by decide) rfl (by repeat (first | exact List.Mem.head _ | apply List.Mem.tail)) rfl) rfl ?_
      refine wlv (op_move (by decide) rfl) rfl ?_
      refine wlv (op_add32 (by decide) rfl rfl) rfl ?_
      refine wlv (op_indexArr Try.underlying115 sz114 (by decide) rfl rfl (by omega) (by omega)) rfl ?_
      refine wlv (op_load1 fl114 (by decide) rfl (by repeat (first | exact List.Mem.head _ | apply List.Mem.tail)) rfl) rfl ?_
      refine wlv (op_indexArr Try.underlying115 sz114 (by decide) rfl rfl (by omega) (by omega)) rfl ?_
      refine wlv (op_load1 fl114 (by decide) rfl (by repeat (first | exact List.Mem.head _ | apply List.Mem.tail)) rfl) rfl ?_
      refine wlv (op_indexArr Try.underlying115 sz114 (by decide) rfl rfl (by omega) (by omega)) rfl ?_
      refine wlv (op_load1 fl114 (by decide) rfl (by repeat (first | exact List.Mem.head _ | apply List.Mem.tail)) rfl) rfl ?_
      refine wlv (op_build (cs := (rst (absorb S8.init (bs ++ pad m) k) (((bs ++ pad m).drop (64 * k)).take (64 * k + 64 - 64 * k)) (t + 1)).cells) (pv := [(0, _), (1, _), (2, _), (3, _), (4, _), (5, _), (6, _), (7, _)]) (by decide) rfl (by kernel_rfl)) rfl ?_
      refine wl (op_storeAll sz115 rfl rfl (by repeat (first | exact Take.here | apply Take.there)) (by first | rfl | (simp [Value.cells]; done) | (simp [Value.cells]; omega)) (by first | rfl | exact wvs_one _ | exact bvs_one _) (by first | rfl | (simp [Value.cells]; done) | (simp [Value.cells]; omega))) rfl ?_
      change WL _ _ _ _ _ _ _
      refine WL.nil ?_
      refine WX.regs (L' := [(2, _), (3, _), (4, _), (5, _), (6, _), (7, _), (8, _), (9, _)]) (by repeat (first | exact RS.nil | refine RS.cons rfl ?_)) ?_
      refine WX.in_normal ?_
      refine WX.next ?_
      refine WC.region ?_
      refine wlv (op_move (by decide) rfl) rfl ?_
      refine wlv (op_add (by decide) rfl rfl (by omega)) rfl ?_
      refine wlv (op_assign (by decide) rfl) rfl ?_
      refine WL.nil ?_
      refine WX.regs (L' := [(2, _), (3, _), (4, _), (5, _), (6, _), (7, _), (8, _), (9, _)]) (by repeat (first | exact RS.nil | refine RS.cons rfl ?_)) ?_
      refine WX.meet (t + 1) ⟨by omega, by omega⟩ (fun a w hs => hs.sub (by repeat (first | exact RS.nil | refine RS.cons (by first | rfl | exact congrArg (fun z : Int => some (Value.int .i64 z)) (by omega)) ?_)) (by repeat (first | exact Takes.nil | exact Take.here | apply Takes.cons | apply Take.there)))
    ·
      refine WC.exit ?_
      refine WX.then_exit ?_
      refine WX.then_exit ?_
      refine WX.in_hit ?_
      refine WX.next ?_
      refine WC.seq ?_
      refine WC.region ?_
      obtain rfl : t = 64 := by omega
      refine wlv (op_assign (by decide) rfl) rfl ?_
      refine WL.nil ?_
      refine WX.regs (L' := [(2, _), (3, _), (4, _), (5, _), (6, _), (8, _), (12, _)]) (by repeat (first | exact RS.nil | refine RS.cons rfl ?_)) ?_
      refine WX.next ?_
      refine WC.block ?_
      refine WC.loop (X := Nat) (fun i => 8 - i) (fun i => i ≤ 8) (fun i => [(2, .pointer (some ⟨b1, 0, none⟩)), (3, .pointer (some ⟨b2, 0, none⟩)), (4, .pointer (some ⟨b3, 0, none⟩)), (5, .slice Ap (m + (zpad m + 1) + 8) cp), (6, .int .i64 ((64 * k : Nat) : Int)), (8, .pointer (some ⟨b5, 0, none⟩)), (12, .int .i64 (i : Int))]) (fun i => [blk b2 (wvs (madd (absorb S8.init (bs ++ pad m) k).list (rst (absorb S8.init (bs ++ pad m) k) (((bs ++ pad m).drop (64 * k)).take (64 * k + 64 - 64 * k)) 64).list i)) 115, blk b5 (wvs (rst (absorb S8.init (bs ++ pad m) k) (((bs ++ pad m).drop (64 * k)).take (64 * k + 64 - 64 * k)) 64).list) 115, blk b3 (wvs Kw) 116, blk b1 (bvs (List.replicate 32 0)) 108, rd (.slice Ap (m + (zpad m + 1) + 8) cp) 1 (m + (zpad m + 1) + 8) (bvs (bs ++ pad m)), frameC w0 (MutF [])]) (0) (by omega) (fun a w hs => hs.sub (by repeat (first | exact RS.nil | refine RS.cons (by first | rfl | exact congrArg (fun z : Int => some (Value.int .i64 z)) (by omega)) ?_)) (by repeat (first | exact Takes.nil | exact Take.here | apply Takes.cons | apply Take.there))) ?_
      rintro i hi
      try dsimp only
      refine WC.seq ?_
      refine WC.seq ?_
      refine WC.region ?_
      refine wlv (op_move (by decide) rfl) rfl ?_
      refine wlv (op_lss (by decide) rfl rfl) rfl ?_
      refine WL.nil ?_
      refine WX.regs (L' := [(2, _), (3, _), (4, _), (5, _), (6, _), (8, _), (12, _), (121, _)]) (by repeat (first | exact RS.nil | refine RS.cons rfl ?_)) ?_
      refine WX.next ?_
      refine WC.cond rfl (fun h3 => ?_) (fun h3 => ?_)
      ·
        refine WC.skip ?_
        refine WX.next ?_
        refine WC.seq ?_
        refine WC.block ?_
        refine WC.drawnH mo 9 ?_
        refine WA.take (i := 0) rfl (by kernel_rfl) (fun _ _ _ h => h) rfl (op_move (by decide) rfl) (by repeat (first | exact Takes.nil | exact Take.here | apply Takes.cons | apply Take.there)) ?_
        refine WA.take (i := 1) rfl (by kernel_rfl) (fun _ _ _ h => h) rfl (op_move (by decide) rfl) (by repeat (first | exact Takes.nil | exact Take.here | apply Takes.cons | apply Take.there)) ?_
        refine WA.take (i := 2) rfl (by kernel_rfl) (fun _ _ _ h => h) rfl (op_indexArr Try.underlying115 sz114 (by decide) rfl rfl (by omega) (by omega)) (by repeat (first | exact Takes.nil | exact Take.here | apply Takes.cons | apply Take.there)) ?_
        refine WA.take (i := 3) rfl (by kernel_rfl) (fun _ _ _ h => h) rfl (op_load1 fl114 (by decide) rfl (by repeat (first | exact List.Mem.head _ | apply List.Mem.tail)) (wvs_at (k := i) (by omega) (by simp [S8.list]; omega))) (by repeat (first | exact Takes.nil | exact Take.here | apply Takes.cons | apply Take.there)) ?_
        refine WA.take (i := 4) rfl (by kernel_rfl) (fun _ _ _ h => h) rfl (op_move (by decide) rfl) (by repeat (first | exact Takes.nil | exact Take.here | apply Takes.cons | apply Take.there)) ?_
        refine WA.take (i := 5) rfl (by kernel_rfl) (fun _ _ _ h => h) rfl (op_indexArr Try.underlying115 sz114 (by decide) rfl rfl (by omega) (by omega)) (by repeat (first | exact Takes.nil | exact Take.here | apply Takes.cons | apply Take.there)) ?_
        refine WA.take (i := 6) rfl (by kernel_rfl) (fun _ _ _ h => h) rfl (op_load1 fl114 (by decide) rfl (by repeat (first | exact List.Mem.head _ | apply List.Mem.tail)) (wvs_at (k := i) (by omega) (by simp [S8.list]; omega))) (by repeat (first | exact Takes.nil | exact Take.here | apply Takes.cons | apply Take.there)) ?_
        refine WA.take (i := 7) rfl (by kernel_rfl) (fun _ _ _ h => h) rfl (op_add32 (by decide) rfl rfl) (by repeat (first | exact Takes.nil | exact Take.here | apply Takes.cons | apply Take.there)) ?_
        refine WA.take (i := 8) rfl (by kernel_rfl) (fun _ _ _ h => h) rfl (op_indexArr Try.underlying115 sz114 (by decide) rfl rfl (by omega) (by omega)) (by repeat (first | exact Takes.nil | exact Take.here | apply Takes.cons | apply Take.there)) ?_
        refine WA.stepo (G := []) (i := 9) (by kernel_rfl) rfl rfl (op_store sz114 rfl rfl (by repeat (first | exact Take.here | apply Take.there)) (by first | rfl | (simp [Value.cells]; done) | (simp [Value.cells]; omega)) (by first | rfl | exact wvs_one _ | exact bvs_one _) (by simp [S8.list]; omega)) (fun h => absurd rfl h) ?_
        refine WA.done (by kernel_rfl) ?_
        refine WX.blkEq (b := b2) (wvs (madd (absorb S8.init (bs ++ pad m) k).list (rst (absorb S8.init (bs ++ pad m) k) (((bs ++ pad m).drop (64 * k)).take (64 * k + 64 - 64 * k)) 64).list (i + 1))) (by repeat (first | exact Take.here | apply Take.there)) ((wvs_put (k := i) (by omega) (by simp [S8.list]; omega)).trans rfl) ?_
        refine WX.regs (L' := [(2, _), (3, _), (4, _), (5, _), (6, _), (8, _), (12, _)]) (by repeat (first | exact RS.nil | refine RS.cons rfl ?_)) ?_
        refine WX.in_normal ?_
        refine WX.next ?_
        refine WC.region ?_
        refine wlv (op_move (by decide) rfl) rfl ?_
        refine wlv (op_add (by decide) rfl rfl (by omega)) rfl ?_
        refine wlv (op_assign (by decide) rfl) rfl ?_
        refine WL.nil ?_
        refine WX.regs (L' := [(2, _), (3, _), (4, _), (5, _), (6, _), (8, _), (12, _)]) (by repeat (first | exact RS.nil | refine RS.cons rfl ?_)) ?_
        refine WX.meet (i + 1) ⟨by omega, by omega⟩ (fun a w hs => hs.sub (by repeat (first | exact RS.nil | refine RS.cons (by first | rfl | exact congrArg (fun z : Int => some (Value.int .i64 z)) (by omega)) ?_)) (by repeat (first | exact Takes.nil | exact Take.here | apply Takes.cons | apply Take.there)))
      ·
        refine WC.exit ?_
        refine WX.then_exit ?_
        refine WX.then_exit ?_
        refine WX.in_hit ?_
        refine WX.in_normal ?_
        refine WX.next ?_
        refine WC.region ?_
        obtain rfl : i = 8 := by omega
        rw [madd_end, show 64 * k + 64 - 64 * k = 64 by omega, absorb_ref]
        refine wlv (op_move (by decide) rfl) rfl ?_
        refine wlv (op_add (by decide) rfl rfl (by omega)) rfl ?_
        refine wlv (op_assign (by decide) rfl) rfl ?_
        refine WL.nil ?_
        refine WX.regs (L' := [(2, _), (3, _), (4, _), (5, _), (6, _)]) (by repeat (first | exact RS.nil | refine RS.cons rfl ?_)) ?_
        refine WX.meet (k + 1) ⟨by omega, by omega⟩ (fun a w hs => hs.sub (by repeat (first | exact RS.nil | refine RS.cons (by first | rfl | exact congrArg (fun z : Int => some (Value.int .i64 z)) (by omega)) ?_)) (by repeat (first | exact Takes.nil | exact Take.here | apply Takes.cons | apply Take.there)))
  ·
    refine WC.exit ?_
    refine WX.then_exit ?_
    refine WX.then_exit ?_
    refine WX.in_hit ?_
    refine WX.next ?_
    refine WC.seq ?_
    refine WC.region ?_
    have hk2 : k = (bs.length + plen bs.length) / 64 := by unfold plen; rw [hm]; omega
    have hsha : dig (absorb S8.init (bs ++ pad m) k) = sha bs := by rw [hk2, ← hm]; rfl
    refine wl1 (op_alloc ti108 (by decide)) rfl fun b6 => ?_
    refine WL.nil ?_
    refine WX.regs (L' := [(2, _), (3, _), (13, _)]) (by repeat (first | exact RS.nil | refine RS.cons rfl ?_)) ?_
    refine WX.next ?_
    refine WC.seq ?_
    refine WC.seq ?_
    refine WC.region ?_
    refine wlv (op_assign (by decide) rfl) rfl ?_
    refine WL.nil ?_
    refine WX.regs (L' := [(2, _), (3, _), (13, _), (14, _)]) (by repeat (first | exact RS.nil | refine RS.cons rfl ?_)) ?_
    refine WX.next ?_
    refine WC.block ?_
    refine WC.loop (X := Nat) (fun i => 32 - i) (fun i => i ≤ 32) (fun i => [(2, .pointer (some ⟨b1, 0, none⟩)), (3, .pointer (some ⟨b2, 0, none⟩)), (13, .pointer (some ⟨b6, 0, none⟩)), (14, .int .i64 (i : Int))]) (fun i => [blk b6 (bvs ((sha bs).take i ++ List.replicate (32 - i) 0)) 108, blk b2 (wvs (absorb S8.init (bs ++ pad m) k).list) 115, blk b1 (bvs (List.replicate 32 0)) 108, frameC w0 (MutF [])]) (0) (by omega) (fun a w hs => hs.sub (by repeat (first | exact RS.nil | refine RS.cons (by first | rfl | exact congrArg (fun z : Int => some (Value.int .i64 z)) (by omega)) ?_)) (by repeat (first | exact Takes.nil | exact Take.here | apply Takes.cons | apply Take.there))) ?_
    rintro i hi
    try dsimp only
    refine WC.seq ?_
    refine WC.seq ?_
    refine WC.region ?_
    refine wlv (op_move (by decide) rfl) rfl ?_
    refine wlv (op_lss (by decide) rfl rfl) rfl ?_
    refine WL.nil ?_
    refine WX.regs (L' := [(2, _), (3, _), (13, _), (14, _), (134, _)]) (by repeat (first | exact RS.nil | refine RS.cons rfl ?_)) ?_
    refine WX.next ?_
    refine WC.cond rfl (fun h4 => ?_) (fun h4 => ?_)
    ·
      refine WC.skip ?_
      refine WX.next ?_
      refine WC.seq ?_
      refine WC.block ?_
      refine WC.region ?_
      refine wlv (op_move (by decide) rfl) rfl ?_
      refine wlv (op_move (by decide) rfl) rfl ?_
      refine wlv (op_quo (by decide) rfl rfl (by omega) (by omega)) rfl ?_
      refine wlv (op_indexArr Try.underlying115 sz114 (by decide) rfl rfl (by omega) (by omega)) rfl ?_
      refine wlv (op_load1 fl114 (by decide) rfl (by repeat (first | exact List.Mem.head _ | apply List.Mem.tail)) (wvs_at (k := i / 4) (by omega) (by simp [S8.list]; omega))) rfl ?_
      refine wlv (op_move (by decide) rfl) rfl ?_
      refine wlv (op_rem (by decide) rfl rfl (by omega) (by omega)) rfl ?_
      refine wlv (op_mul (by decide) rfl rfl (by omega)) rfl ?_
      refine wlv (op_sub (by decide) rfl rfl (by omega)) rfl ?_
      refine wlv (op_shr32 (by decide) rfl rfl (by omega)) rfl ?_
      refine wlv (op_conv328 (by kernel_rfl) Try.underlying5 (by decide) rfl) rfl ?_
      refine wlv (op_indexArr Try.underlying108 sz5 (by decide) rfl rfl (by omega) (by omega)) rfl ?_
      refine wl (op_store sz5 rfl rfl (by repeat (first | exact Take.here | apply Take.there)) (by first | rfl | (simp [Value.cells]; done) | (simp [Value.cells]; omega)) (by first | rfl | exact wvs_one _ | exact bvs_one _) (by simp [sha_length]; omega)) rfl ?_
      change WL _ _ _ _ _ _ _
      refine WL.nil ?_
      refine WX.blkEq (b := b6) (bvs ((sha bs).take (i + 1) ++ List.replicate (32 - (i + 1)) 0)) (by repeat (first | exact Take.here | apply Take.there)) ((bvs_put (k := i) (by omega) (by simp [sha_length]; omega)).trans (congrArg bvs (dig_put _ i (by omega) (sha_length _) _ ?_))) ?_
      · rw [← hsha, dig_at _ _ (by omega)]; unfold wb2; rw [show ((24 - 8 * ((i : Int) % 4)).toNat) = 24 - 8 * (i % 4) by omega]
      refine WX.regs (L' := [(2, _), (3, _), (13, _), (14, _)]) (by repeat (first | exact RS.nil | refine RS.cons rfl ?_)) ?_
      refine WX.in_normal ?_
      refine WX.next ?_
      refine WC.region ?_
      refine wlv (op_move (by decide) rfl) rfl ?_
      refine wlv (op_add (by decide) rfl rfl (by omega)) rfl ?_
      refine wlv (op_assign (by decide) rfl) rfl ?_
      refine WL.nil ?_
      refine WX.regs (L' := [(2, _), (3, _), (13, _), (14, _)]) (by repeat (first | exact RS.nil | refine RS.cons rfl ?_)) ?_
      refine WX.meet (i + 1) ⟨by omega, by omega⟩ (fun a w hs => hs.sub (by repeat (first | exact RS.nil | refine RS.cons (by first | rfl | exact congrArg (fun z : Int => some (Value.int .i64 z)) (by omega)) ?_)) (by repeat (first | exact Takes.nil | exact Take.here | apply Takes.cons | apply Take.there)))
    ·
      refine WC.exit ?_
      refine WX.then_exit ?_
      refine WX.then_exit ?_
      refine WX.in_hit ?_
      refine WX.next ?_
      refine WC.seq ?_
      refine WC.region ?_
      obtain rfl : i = 32 := by omega
      rw [show (sha bs).take 32 ++ List.replicate (32 - 32) 0 = sha bs by rw [List.take_of_length_le (by rw [sha_length]; omega)]; simp]
      refine wlv (op_loadAll ag108 (by decide) rfl (by repeat (first | exact List.Mem.head _ | apply List.Mem.tail)) (by first | rfl | (simp [Value.cells]; done) | (simp [Value.cells]; omega))) rfl ?_
      refine wl (op_storeAll sz108 rfl rfl (by repeat (first | exact Take.here | apply Take.there)) (by first | rfl | (simp [Value.cells]; done) | (simp [Value.cells]; omega)) (by first | rfl | exact wvs_one _ | exact bvs_one _) (by first | rfl | (simp [Value.cells]; done) | (simp [Value.cells]; omega))) rfl ?_
      change WL _ _ _ _ _ _ _
      refine WL.nil ?_
      refine WX.regs (L' := [(2, _)]) (by repeat (first | exact RS.nil | refine RS.cons rfl ?_)) ?_
      refine WX.next ?_
      refine WC.ret ?_
      exact Fin.ret1 (by first | exact .inl rfl | exact .inr rfl) (()) (trivial) Try.results56 (.cellN rfl ag108 (by repeat (first | exact List.Mem.head _ | apply List.Mem.tail)) (by first | rfl | (simp [Value.cells]; done) | (simp [Value.cells]; omega))) (by repeat (first | exact Takes.nil | exact Take.here | apply Takes.cons | apply Take.there)) (by simp)
end Go.Proofs.Ythephcghglldaaa.Sx
