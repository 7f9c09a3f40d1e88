import Derived.Test.YtkjlbedebmffgaaGreatNd
import Derived.Test.YtkjlbedebmffgaaGreatNb
import Derived.Test.YtkjlbedebmffgaaGreatNc
set_option linter.unusedVariables false
set_option linter.unusedSimpArgs false
namespace Go.Proofs.YtkjlbedebmffgaaGreat.Sx
open Go.RowKit Go.Proofs.YtkjlbedebmffgaaGreat.Ty
attribute [local irreducible] blk own rd rx frameC
def Wr (bs : List UInt8) (i : Nat) : UInt32 := (refW bs (i + 1)).getD i 0
theorem refW_get (bs : List UInt8) (i : Nat) : ∀ n, i < n → (refW bs n).getD i 0 = Wr bs i := by
 intro n
 induction n with
 | zero => intro h; omega
 | succ n ih =>
  intro h
  by_cases e : i = n
  ·subst e; rfl
  ·have h2 : i < n := by omega
   by_cases hn : n < 16
   ·rw [refW_lo _ _ hn, getD_pre (by simpa using h2), ih h2]
   ·rw [refW_hi _ _ hn, getD_pre (by simpa using h2), ih h2]
theorem getD_last {ws : List UInt32} {x : UInt32} {k : Nat} (h : ws.length = k) : (ws ++ [x]).getD k 0 = x := by
 subst h; simp [List.getD_eq_getElem?_getD]
theorem Wr_lo (bs : List UInt8) (i : Nat) (h : i < 16) : Wr bs i = wd bs i := by
 unfold Wr; rw [refW_lo _ _ h, getD_last (refW_length _ _)]
theorem Wr_hi (bs : List UInt8) (i : Nat) (h : 16 ≤ i) : Wr bs i = ((((rotr (Wr bs (i - 2)) 17 ^^^ rotr (Wr bs (i - 2)) 19) ^^^ (Wr bs (i - 2) >>> 10)) + Wr bs (i - 7))
    + ((rotr (Wr bs (i - 15)) 7 ^^^ rotr (Wr bs (i - 15)) 18) ^^^ (Wr bs (i - 15) >>> 3))) + Wr bs (i - 16) := by
 conv => lhs; unfold Wr
 rw [refW_hi _ _ (by omega), getD_last (refW_length _ _)]
 unfold rnew
 rw [refW_get _ (i - 2) _ (by omega), refW_get _ (i - 7) _ (by omega), refW_get _ (i - 15) _ (by omega), refW_get _ (i - 16) _ (by omega)]
theorem getD_set_self (ws : List UInt32) (k : Nat) (x : UInt32) (h : k < ws.length) : (ws.set k x).getD k 0 = x := by
 simp [List.getD_eq_getElem?_getD, h]
theorem getD_set_ne (ws : List UInt32) (k j : Nat) (x : UInt32) (h : k ≠ j) : (ws.set k x).getD j 0 = ws.getD j 0 := by
 simp [List.getD_eq_getElem?_getD, List.getElem?_set, h]
theorem wds_get (bs : List UInt8) (i : Nat) (h : i < 16) : (wds bs 16).getD i 0 = wd bs i := by
 simp [wds, List.getD_eq_getElem?_getD, h]
theorem roll (s : S8) (bs : List UInt8) : ∀ t i, i < max t 16 → max t 16 ≤ i + 16 → (pst s (wds bs 16) t).1.getD (i % 16) 0 = Wr bs i := by
 intro t
 induction t with
 | zero =>
  intro i h1 h2
  have h3 : i < 16 := by omega
  rw [Nat.mod_eq_of_lt h3]
  exact (wds_get bs i h3).trans (Wr_lo bs i h3).symm
 | succ t ih =>
  intro i h1 h2
  show (pw (pst s (wds bs 16) t).1 t).getD (i % 16) 0 = _
  unfold pw
  split
  ·rename_i h16
   by_cases e : i = t
   ·subst e
    rw [getD_set_self _ _ _ (by rw [pst_length]; simp; omega), Wr_hi _ _ h16]
    unfold pnew
    rw [ih (i - 2) (by omega) (by omega), ih (i - 7) (by omega) (by omega), ih (i - 15) (by omega) (by omega)]
    have e16 : i % 16 = (i - 16) % 16 := by omega
    rw [e16, ih (i - 16) (by omega) (by omega), UInt32.add_comm]
   ·rw [getD_set_ne _ _ _ _ (by omega)]
    exact ih i (by omega) (by omega)
  ·exact ih i (by omega) (by omega)
def rst (s : S8) (bs : List UInt8) : Nat → S8
 | 0 => s
 | t + 1 => (rst s bs t).round (Kw.getD t 0) ((refW bs 64).getD t 0)
theorem rst_pst (s : S8) (bs : List UInt8) : ∀ t, t ≤ 64 → rst s bs t = (pst s (wds bs 16) t).2 := by
 intro t
 induction t with
 | zero => intro _; rfl
 | succ t ih =>
  intro h
  show (rst s bs t).round (Kw.getD t 0) ((refW bs 64).getD t 0) = (pst s (wds bs 16) t).2.round (Kw.getD t 0) ((pst s (wds bs 16) (t + 1)).1.getD (t % 16) 0)
  rw [ih (by omega), roll s bs (t + 1) t (by omega) (by omega), refW_get bs t 64 (by omega)]
theorem plus_comm (s o : S8) : s.plus o = o.plus s := by
 simp [S8.plus, UInt32.add_comm]
def madd (s o : List UInt32) : Nat → List UInt32
 | 0 => s
 | i + 1 => (madd s o i).set i ((madd s o i).getD i 0 + o.getD i 0)
@[simp] theorem madd_length (s o : List UInt32) (i : Nat) : (madd s o i).length = s.length := by induction i <;> simp [madd, *]
theorem madd_end (s o : S8) : madd s.list o.list 8 = (s.plus o).list := rfl
theorem wds_take (bs : List UInt8) : wds (bs.take 64) 16 = wds bs 16 := by
 unfold wds
 apply List.map_congr_left
 intro j hj
 have hj := List.mem_range.1 hj
 have g : ∀ i, i < 64 → (bs.take 64).getD i 0 = bs.getD i 0 := by
  intro i hi
  simp [List.getD_eq_getElem?_getD, List.getElem?_take, hi]
 unfold wd
 rw [g _ (by omega), g _ (by omega), g _ (by omega), g _ (by omega)]
theorem absorb_ref (s : S8) (l : List UInt8) (k : Nat) : (absorb s l k).plus (rst (absorb s l k) ((l.drop (64 * k)).take 64) 64) = absorb s l (k + 1) := by
 rw [rst_pst _ _ _ (Nat.le_refl _), wds_take, plus_comm]
 rfl
def wb2 (ws : List UInt32) (i : Nat) : UInt8 := (ws.getD (i / 4) 0 >>> UInt32.ofNat (24 - 8 * (i % 4))).toUInt8
theorem dig_at (s : S8) (i : Nat) (h : i < 32) : (dig s).getD i 0 = wb2 s.list i := by
 have e0 : ∀ w : UInt32, (w >>> UInt32.ofNat 0).toUInt8 = w.toUInt8 := by intro w; simp
 have h4 : ∀ (q r : Nat), q < 8 → r < 4 → (dig s).getD (4 * q + r) 0 = wb2 s.list (4 * q + r) := by
  intro q r hq hr
  unfold wb2
  have a1 : (4 * q + r) / 4 = q := by omega
  have a2 : (4 * q + r) % 4 = r := by omega
  rw [a1, a2]
  match r, hr with
  | 0, _ => match q, hq with
   | 0, _ | 1, _ | 2, _ | 3, _ | 4, _ | 5, _ | 6, _ | 7, _ => rfl
  | 1, _ => match q, hq with
   | 0, _ | 1, _ | 2, _ | 3, _ | 4, _ | 5, _ | 6, _ | 7, _ => rfl
  | 2, _ => match q, hq with
   | 0, _ | 1, _ | 2, _ | 3, _ | 4, _ | 5, _ | 6, _ | 7, _ => rfl
  | 3, _ =>
   show _ = (_ >>> UInt32.ofNat 0).toUInt8
   rw [e0]
   match q, hq with
   | 0, _ | 1, _ | 2, _ | 3, _ | 4, _ | 5, _ | 6, _ | 7, _ => rfl
 have e : i = 4 * (i / 4) + i % 4 := by omega
 rw [e]
 exact h4 _ _ (by omega) (by omega)
theorem getD_eqget {l : List UInt8} {i : Nat} (h : i < l.length) : l.getD i 0 = l[i] := by simp [List.getD_eq_getElem?_getD, h]
theorem dig_put (d : List UInt8) (i : Nat) (h : i < 32) (hl : d.length = 32) (x : UInt8) (hx : x = d.getD i 0) : (d.take i ++ List.replicate (32 - i) 0).set i x = d.take (i + 1) ++ List.replicate (32 - (i + 1)) 0 := by
 obtain ⟨k, hk⟩ : ∃ k, 32 - i = k + 1 := ⟨32 - i - 1, by omega⟩
 have e2 : 32 - (i + 1) = k := by omega
 have e3 : (d.take i).length = i := by rw [List.length_take]; omega
 have e4 : d.take (i + 1) = d.take i ++ [d[i]] := List.take_succ_eq_append_getElem (by omega)
 rw [hk, e2, List.replicate_succ, List.set_append_right (h := by omega), e3, hx, getD_eqget (by omega), e4]
 simp only [Nat.sub_self, List.set_cons_zero, List.append_assoc, List.cons_append, List.nil_append]
set_option maxHeartbeats 400000 in
set_option maxRecDepth 10000 in
theorem f95_spec (A : Option Addr) (m c : Nat) (bs : List UInt8) (hm : bs.length = m) (hm' : m < 100000) :
  Spec Tryz.prog 95 [.slice A m c] [] [rd (.slice A m c) 1 m (bvs bs)] (R := Unit) (fun _ => True) (fun _ => .agg (bvs (sha bs)).toArray) (fun _ => []) := by
 have hz : zpad m < 64 := by unfold zpad; omega
 have hz2 : (m + (zpad m + 1) + 8) % 64 = 0 := by unfold zpad; omega
 have hlp : (bs ++ pad m).length = m + (zpad m + 1) + 8 := by simp [pad, be8_length, hm]; omega
 refine Spec.intro Tryz.func95 Tryz.ntmps95 rfl (by simp) (by simp) fun w0 => ?_
 refine W240 ?_
 refine wl1 (op_alloc ti169 (lt_ rfl)) rfl fun b1 => ?_
 refine W2 ?_
 refine W63 ?_
 refine W249 ?_
 refine wlv (op_build (cs := S8.init.cells) (pv := [(0, _), (1, _), (2, _), (3, _), (4, _), (5, _), (6, _), (7, _)]) (lt_ rfl) rfl (by kernel_rfl)) rfl ?_
 refine wl1 (op_alloc ti182 (lt_ rfl)) rfl fun b2 => ?_
 refine wl (op_storeAll sz182 rfl rfl xK xL xO xL) rfl ?_
 refine W252 ?_
 refine WX.regs (L' := [(0, _), (2, _), (3, _)]) ?_
 refine W249 ?_
 refine wlx (op_call (f104_spec) ca104 (lt_ rfl) rfl) rfl ?_
 rintro r1 h1
 refine wl1 (op_alloc ti183 (lt_ rfl)) rfl fun b3 => ?_
 refine W360 ?_
 refine WX.regs (L' := [(0, _), (2, _), (3, _), (4, _)]) ?_
 refine W261 ?_
 refine wlx (op_call (f105_spec A m c bs hm hm') ca105 (lt_ rfl) rfl) rfl ?_
 rintro ⟨Ap, cp⟩ _
 refine WL.turn xK own_le_rd ?_
 refine WL.capx xS (fun hcp => ?_)
 refine W241 ?_
 refine W121 ?_
 refine W310 ?_
 refine WX.regs (L' := [(2, _), (3, _), (4, _), (5, _), (6, _)]) ?_
 refine W294 ?_
 refine WC.loop (X := Nat) (fun k => (m + (zpad m + 1) + 8) / 64 - k) (fun k => 64 * k ≤ (m + (zpad m + 1) + 8)) (fun k => [(2, .pointer (some ⟨b1, 0, none⟩)), (3, .pointer (some ⟨b2, 0, none⟩)), (4, .pointer (some ⟨b3, 0, none⟩)), (5, .slice Ap (m + (zpad m + 1) + 8) cp), (6, .int .i64 ((64 * k : Nat) : Int))]) (fun k => [blk b2 (absorb S8.init (bs ++ pad m) k).cells 182, blk b3 (wvs Kw) 183, blk b1 (bvs (List.replicate 32 0)) 169, rd (.slice Ap (m + (zpad m + 1) + 8) cp) 1 (m + (zpad m + 1) + 8) (bvs (bs ++ pad m)), frameC w0 (MutF [])]) (0) (by omega) (fun a w hs => hs.sub xY xT) ?_
 rintro k hk
 try dsimp only
 refine W314 ?_
 refine W38 ?_
 refine W265 ?_
 refine WX.regs (L' := [(2, _), (3, _), (4, _), (5, _), (6, _), (22, _)]) ?_
 refine W0 ?_
 refine WC.cond rfl (fun h1 => ?_) (fun h1 => ?_)
 ·
  refine W298 ?_
  refine W244 ?_
  refine W4 ?_
  refine W16 ?_
  refine wlv (op_slice_lh Tryz.underlying30 sz5 (lt_ rfl) rfl rfl rfl (by omega) (by omega) (by omega)) rfl ?_
  refine WL.dupr (v := .slice Ap (m + (zpad m + 1) + 8) cp) (sz := 1) (m := (m + (zpad m + 1) + 8)) (xs := bvs (bs ++ pad m)) xM (rd_subB (l := 64 * k) (h := 64 * k + 64) (by omega) (by omega)) ?_
  refine wlx (op_call (f106_spec _ (64 * k + 64 - 64 * k) _ (((bs ++ pad m).drop (64 * k)).take (64 * k + 64 - 64 * k)) (by omega) (by simp only [List.length_take, List.length_drop]; omega) (by omega)) ca106 (lt_ rfl) rfl) rfl ?_
  rintro r3 h3
  refine wl1 (op_alloc ti183 (lt_ rfl)) rfl fun b4 => ?_
  refine W360 ?_
  refine WX.regs (L' := [(2, _), (3, _), (4, _), (5, _), (6, _), (7, _)]) ?_
  refine W249 ?_
  refine wlv (op_loadAll ag182 (lt_ rfl) rfl xM xL) rfl ?_
  refine wl1 (op_alloc ti182 (lt_ rfl)) rfl fun b5 => ?_
  refine wl (op_storeAll sz182 rfl rfl xK xL xO xL) rfl ?_
  refine W252 ?_
  refine WX.regs (L' := [(2, _), (3, _), (4, _), (5, _), (6, _), (7, _), (8, _)]) ?_
  refine W310 ?_
  refine WX.regs (L' := [(2, _), (3, _), (4, _), (5, _), (6, _), (7, _), (8, _), (9, _)]) ?_
  refine W294 ?_
  refine WC.loop (X := Nat) (fun t => 64 - t) (fun t => t ≤ 64) (fun t => [(2, .pointer (some ⟨b1, 0, none⟩)), (3, .pointer (some ⟨b2, 0, none⟩)), (4, .pointer (some ⟨b3, 0, none⟩)), (5, .slice Ap (m + (zpad m + 1) + 8) cp), (6, .int .i64 ((64 * k : Nat) : Int)), (7, .pointer (some ⟨b4, 0, none⟩)), (8, .pointer (some ⟨b5, 0, none⟩)), (9, .int .i64 (t : Int))]) (fun t => [blk b5 (rst (absorb S8.init (bs ++ pad m) k) (((bs ++ pad m).drop (64 * k)).take (64 * k + 64 - 64 * k)) t).cells 182, blk b4 (wvs (refW (((bs ++ pad m).drop (64 * k)).take (64 * k + 64 - 64 * k)) 64)) 183, blk b2 (absorb S8.init (bs ++ pad m) k).cells 182, blk b3 (wvs Kw) 183, blk b1 (bvs (List.replicate 32 0)) 169, rd (.slice Ap (m + (zpad m + 1) + 8) cp) 1 (m + (zpad m + 1) + 8) (bvs (bs ++ pad m)), frameC w0 (MutF [])]) (0) (by omega) (fun a w hs => hs.sub xY xT) ?_
  rintro t ht
  try dsimp only
  refine W328 ?_
  refine W265 ?_
  refine WX.regs (L' := [(2, _), (3, _), (4, _), (5, _), (6, _), (7, _), (8, _), (9, _), (33, _)]) ?_
  refine W0 ?_
  refine WC.cond rfl (fun h2 => ?_) (fun h2 => ?_)
  ·
   refine W270 ?_
   refine W301 ?_
   refine WA.take (i := 0) rfl (by kernel_rfl) (fun _ _ _ h => h) rfl (op_indexArr Tryz.underlying182 sz181 (lt_ rfl) rfl rfl (by omega) (by omega)) xT ?_
   refine W177 ?_
   refine WA.take (i := 2) rfl (by kernel_rfl) (fun _ _ _ h => h) rfl (op_indexArr Tryz.underlying182 sz181 (lt_ rfl) rfl rfl (by omega) (by omega)) xT ?_
   refine WA.take (i := 3) rfl (by kernel_rfl) (fun _ _ _ h => h) rfl (op_load1 fl181 (lt_ rfl) rfl xM rfl) xT ?_
   refine WA.take (i := 5) rfl (by kernel_rfl) (fun _ _ _ h => h) rfl (op_indexArr Tryz.underlying182 sz181 (lt_ rfl) rfl rfl (by omega) (by omega)) xT ?_
   refine WA.take (i := 6) rfl (by kernel_rfl) (fun _ _ _ h => h) rfl (op_load1 fl181 (lt_ rfl) rfl xM rfl) xT ?_
   refine WA.take (i := 9) rfl (by kernel_rfl) (fun _ _ _ h => h) rfl (op_indexArr Tryz.underlying182 sz181 (lt_ rfl) rfl rfl (by omega) (by omega)) xT ?_
   refine WA.take (i := 10) rfl (by kernel_rfl) (fun _ _ _ h => h) rfl (op_load1 fl181 (lt_ rfl) rfl xM rfl) xT ?_
   refine WA.take (i := 14) rfl (by kernel_rfl) (fun _ _ _ h => h) rfl (op_indexArr Tryz.underlying182 sz181 (lt_ rfl) rfl rfl (by omega) (by omega)) xT ?_
   refine WA.take (i := 15) rfl (by kernel_rfl) (fun _ _ _ h => h) rfl (op_load1 fl181 (lt_ rfl) rfl xM rfl) xT ?_
   refine WA.take (i := 16) rfl (by kernel_rfl) (fun _ _ _ h => h) rfl (op_indexArr Tryz.underlying182 sz181 (lt_ rfl) rfl rfl (by omega) (by omega)) xT ?_
   refine W178 ?_
   refine WA.take (i := 18) rfl (by kernel_rfl) (fun _ _ _ h => h) rfl (op_and32 (lt_ rfl) rfl rfl) xT ?_
   refine WA.take (i := 19) rfl (by kernel_rfl) (fun _ _ _ h => h) rfl (op_indexArr Tryz.underlying182 sz181 (lt_ rfl) rfl rfl (by omega) (by omega)) xT ?_
   refine WA.take (i := 20) rfl (by kernel_rfl) (fun _ _ _ h => h) rfl (op_load1 fl181 (lt_ rfl) rfl xM rfl) xT ?_
   refine WA.take (i := 21) rfl (by kernel_rfl) (fun _ _ _ h => h) rfl (op_not32 (lt_ rfl) rfl) xT ?_
   refine WA.take (i := 22) rfl (by kernel_rfl) (fun _ _ _ h => h) rfl (op_indexArr Tryz.underlying182 sz181 (lt_ rfl) rfl rfl (by omega) (by omega)) xT ?_
   refine W179 ?_
   refine WA.take (i := 24) rfl (by kernel_rfl) (fun _ _ _ h => h) rfl (op_and32 (lt_ rfl) rfl rfl) xT ?_
   refine WA.take (i := 25) rfl (by kernel_rfl) (fun _ _ _ h => h) rfl (op_xor32 (lt_ rfl) rfl rfl) xT ?_
   refine W180 ?_
   refine WA.take (i := 28) rfl (by kernel_rfl) (fun _ _ _ h => h) rfl (op_indexArr Tryz.underlying183 sz181 (lt_ rfl) rfl rfl (by omega) (by omega)) xT ?_
   refine WA.take (i := 29) rfl (by kernel_rfl) (fun _ _ _ h => h) rfl (op_load1 fl181 (lt_ rfl) rfl xM (wvs_at (k := t) (by omega) (by rw [Kw_length]; omega))) xT ?_
   refine WA.take (i := 31) rfl (by kernel_rfl) (fun _ _ _ h => h) rfl (op_move (lt_ rfl) rfl) xT ?_
   refine WA.take (i := 32) rfl (by kernel_rfl) (fun _ _ _ h => h) rfl (op_indexArr Tryz.underlying183 sz181 (lt_ rfl) rfl rfl (by omega) (by omega)) xT ?_
   refine WA.take (i := 33) rfl (by kernel_rfl) (fun _ _ _ h => h) rfl (op_load1 fl181 (lt_ rfl) rfl xM (wvs_at (k := t) (by omega) (by simp; omega))) xT ?_
   refine WA.stepx (i := 4) (by kernel_rfl) rfl rfl (op_call (f107_spec _ _ (by decide)) ca107 (lt_ rfl) rfl) (fun _ r => xT) ?_
   rintro r4 h4
   refine WA.stepx (i := 7) (by kernel_rfl) rfl rfl (op_call (f107_spec _ _ (by decide)) ca107 (lt_ rfl) rfl) (fun _ r => xT) ?_
   rintro r5 h5
   refine WA.take (i := 8) rfl (by kernel_rfl) (fun _ _ _ h => h) rfl (op_xor32 (lt_ rfl) rfl rfl) xT ?_
   refine WA.stepx (i := 11) (by kernel_rfl) rfl rfl (op_call (f107_spec _ _ (by decide)) ca107 (lt_ rfl) rfl) (fun _ r => xT) ?_
   rintro r6 h6
   refine WA.take (i := 12) rfl (by kernel_rfl) (fun _ _ _ h => h) rfl (op_xor32 (lt_ rfl) rfl rfl) xT ?_
   refine WA.take (i := 13) rfl (by kernel_rfl) (fun _ _ _ h => h) rfl (op_add32 (lt_ rfl) rfl rfl) xT ?_
   refine WA.take (i := 26) rfl (by kernel_rfl) (fun _ _ _ h => h) rfl (op_add32 (lt_ rfl) rfl rfl) xT ?_
   refine WA.take (i := 30) rfl (by kernel_rfl) (fun _ _ _ h => h) rfl (op_add32 (lt_ rfl) rfl rfl) xT ?_
   refine WA.take (i := 34) rfl (by kernel_rfl) (fun _ _ _ h => h) rfl (op_add32 (lt_ rfl) rfl rfl) xT ?_
   refine WA.take (i := 35) rfl (by kernel_rfl) (fun _ _ _ h => h) rfl (op_assign (lt_ rfl) rfl) xT ?_
   refine W19 ?_
   refine WX.regs (L' := [(2, _), (3, _), (4, _), (5, _), (6, _), (7, _), (8, _), (9, _), (10, _)]) ?_
   refine W0 ?_
   refine W301 ?_
   refine WA.take (i := 0) rfl (by kernel_rfl) (fun _ _ _ h => h) rfl (op_indexArr Tryz.underlying182 sz181 (lt_ rfl) rfl rfl (by omega) (by omega)) xT ?_
   refine W177 ?_
   refine WA.take (i := 3) rfl (by kernel_rfl) (fun _ _ _ h => h) rfl (op_indexArr Tryz.underlying182 sz181 (lt_ rfl) rfl rfl (by omega) (by omega)) xT ?_
   refine WA.take (i := 4) rfl (by kernel_rfl) (fun _ _ _ h => h) rfl (op_load1 fl181 (lt_ rfl) rfl xM rfl) xT ?_
   refine WA.take (i := 7) rfl (by kernel_rfl) (fun _ _ _ h => h) rfl (op_indexArr Tryz.underlying182 sz181 (lt_ rfl) rfl rfl (by omega) (by omega)) xT ?_
   refine WA.take (i := 8) rfl (by kernel_rfl) (fun _ _ _ h => h) rfl (op_load1 fl181 (lt_ rfl) rfl xM rfl) xT ?_
   refine WA.take (i := 11) rfl (by kernel_rfl) (fun _ _ _ h => h) rfl (op_indexArr Tryz.underlying182 sz181 (lt_ rfl) rfl rfl (by omega) (by omega)) xT ?_
   refine WA.take (i := 12) rfl (by kernel_rfl) (fun _ _ _ h => h) rfl (op_load1 fl181 (lt_ rfl) rfl xM rfl) xT ?_
   refine WA.take (i := 13) rfl (by kernel_rfl) (fun _ _ _ h => h) rfl (op_indexArr Tryz.underlying182 sz181 (lt_ rfl) rfl rfl (by omega) (by omega)) xT ?_
   refine WA.take (i := 14) rfl (by kernel_rfl) (fun _ _ _ h => h) rfl (op_load1 fl181 (lt_ rfl) rfl xM rfl) xT ?_
   refine WA.take (i := 15) rfl (by kernel_rfl) (fun _ _ _ h => h) rfl (op_and32 (lt_ rfl) rfl rfl) xT ?_
   refine WA.take (i := 16) rfl (by kernel_rfl) (fun _ _ _ h => h) rfl (op_indexArr Tryz.underlying182 sz181 (lt_ rfl) rfl rfl (by omega) (by omega)) xT ?_
   refine W178 ?_
   refine WA.take (i := 18) rfl (by kernel_rfl) (fun _ _ _ h => h) rfl (op_indexArr Tryz.underlying182 sz181 (lt_ rfl) rfl rfl (by omega) (by omega)) xT ?_
   refine WA.take (i := 19) rfl (by kernel_rfl) (fun _ _ _ h => h) rfl (op_load1 fl181 (lt_ rfl) rfl xM rfl) xT ?_
   refine WA.take (i := 20) rfl (by kernel_rfl) (fun _ _ _ h => h) rfl (op_and32 (lt_ rfl) rfl rfl) xT ?_
   refine W181 ?_
   refine WA.take (i := 22) rfl (by kernel_rfl) (fun _ _ _ h => h) rfl (op_indexArr Tryz.underlying182 sz181 (lt_ rfl) rfl rfl (by omega) (by omega)) xT ?_
   refine W179 ?_
   refine WA.take (i := 24) rfl (by kernel_rfl) (fun _ _ _ h => h) rfl (op_indexArr Tryz.underlying182 sz181 (lt_ rfl) rfl rfl (by omega) (by omega)) xT ?_
   refine WA.take (i := 25) rfl (by kernel_rfl) (fun _ _ _ h => h) rfl (op_load1 fl181 (lt_ rfl) rfl xM rfl) xT ?_
   refine WA.take (i := 26) rfl (by kernel_rfl) (fun _ _ _ h => h) rfl (op_and32 (lt_ rfl) rfl rfl) xT ?_
   refine WA.take (i := 27) rfl (by kernel_rfl) (fun _ _ _ h => h) rfl (op_xor32 (lt_ rfl) rfl rfl) xT ?_
   refine WA.stepx (i := 2) (by kernel_rfl) rfl rfl (op_call (f107_spec _ _ (by decide)) ca107 (lt_ rfl) rfl) (fun _ r => xT) ?_
   rintro r7 h7
   refine WA.stepx (i := 5) (by kernel_rfl) rfl rfl (op_call (f107_spec _ _ (by decide)) ca107 (lt_ rfl) rfl) (fun _ r => xT) ?_
   rintro r8 h8
   refine WA.take (i := 6) rfl (by kernel_rfl) (fun _ _ _ h => h) rfl (op_xor32 (lt_ rfl) rfl rfl) xT ?_
   refine WA.stepx (i := 9) (by kernel_rfl) rfl rfl (op_call (f107_spec _ _ (by decide)) ca107 (lt_ rfl) rfl) (fun _ r => xT) ?_
   rintro r9 h9
   refine WA.take (i := 10) rfl (by kernel_rfl) (fun _ _ _ h => h) rfl (op_xor32 (lt_ rfl) rfl rfl) xT ?_
   refine WA.take (i := 28) rfl (by kernel_rfl) (fun _ _ _ h => h) rfl (op_add32 (lt_ rfl) rfl rfl) xT ?_
   refine WA.take (i := 29) rfl (by kernel_rfl) (fun _ _ _ h => h) rfl (op_assign (lt_ rfl) rfl) xT ?_
   refine W19 ?_
   refine WX.regs (L' := [(2, _), (3, _), (4, _), (5, _), (6, _), (7, _), (8, _), (9, _), (10, _), (11, _)]) ?_
   refine W0 ?_
   refine W334 ?_
   refine W83 ?_
   refine W108 ?_
   refine W32 ?_
   refine W108 ?_
   refine W32 ?_
   refine W108 ?_
   refine W32 ?_
   refine W108 ?_
   refine W32 ?_
   refine W4 ?_
   refine W83 ?_
   refine W108 ?_
   refine W32 ?_
   refine W108 ?_
   refine W32 ?_
   refine W108 ?_
   refine W32 ?_
   refine wlv (op_build (cs := (rst (absorb S8.init (bs ++ pad m) k) (((bs ++ pad m).drop (64 * k)).take (64 * k + 64 - 64 * k)) (t + 1)).cells) (pv := [(0, _), (1, _), (2, _), (3, _), (4, _), (5, _), (6, _), (7, _)]) (lt_ rfl) rfl (by kernel_rfl)) rfl ?_
   refine wl (op_storeAll sz182 rfl rfl xK xL xO xL) rfl ?_
   refine W252 ?_
   refine WX.regs (L' := [(2, _), (3, _), (4, _), (5, _), (6, _), (7, _), (8, _), (9, _)]) ?_
   refine W352 ?_
   refine WX.regs (L' := [(2, _), (3, _), (4, _), (5, _), (6, _), (7, _), (8, _), (9, _)]) ?_
   refine WX.meet (t + 1) ⟨by omega, by omega⟩ (fun a w hs => hs.sub xY xT)
  ·
   refine W284 ?_
   obtain rfl : t = 64 := by omega
   refine W241 ?_
   refine WX.regs (L' := [(2, _), (3, _), (4, _), (5, _), (6, _), (8, _), (12, _)]) ?_
   refine W294 ?_
   refine WC.loop (X := Nat) (fun i => 8 - i) (fun i => i ≤ 8) (fun i => [(2, .pointer (some ⟨b1, 0, none⟩)), (3, .pointer (some ⟨b2, 0, none⟩)), (4, .pointer (some ⟨b3, 0, none⟩)), (5, .slice Ap (m + (zpad m + 1) + 8) cp), (6, .int .i64 ((64 * k : Nat) : Int)), (8, .pointer (some ⟨b5, 0, none⟩)), (12, .int .i64 (i : Int))]) (fun i => [blk b2 (wvs (madd (absorb S8.init (bs ++ pad m) k).list (rst (absorb S8.init (bs ++ pad m) k) (((bs ++ pad m).drop (64 * k)).take (64 * k + 64 - 64 * k)) 64).list i)) 182, blk b5 (wvs (rst (absorb S8.init (bs ++ pad m) k) (((bs ++ pad m).drop (64 * k)).take (64 * k + 64 - 64 * k)) 64).list) 182, blk b3 (wvs Kw) 183, blk b1 (bvs (List.replicate 32 0)) 169, rd (.slice Ap (m + (zpad m + 1) + 8) cp) 1 (m + (zpad m + 1) + 8) (bvs (bs ++ pad m)), frameC w0 (MutF [])]) (0) (by omega) (fun a w hs => hs.sub xY xT) ?_
   rintro i hi
   try dsimp only
   refine W328 ?_
   refine W265 ?_
   refine WX.regs (L' := [(2, _), (3, _), (4, _), (5, _), (6, _), (8, _), (12, _), (121, _)]) ?_
   refine W0 ?_
   refine WC.cond rfl (fun h3 => ?_) (fun h3 => ?_)
   ·
    refine W270 ?_
    refine WC.drawnH mo 9 ?_
    refine W344 ?_
    refine WA.take (i := 2) rfl (by kernel_rfl) (fun _ _ _ h => h) rfl (op_indexArr Tryz.underlying182 sz181 (lt_ rfl) rfl rfl (by omega) (by omega)) xT ?_
    refine WA.take (i := 3) rfl (by kernel_rfl) (fun _ _ _ h => h) rfl (op_load1 fl181 (lt_ rfl) rfl xM (wvs_at (k := i) (by omega) (by simp [S8.list]; omega))) xT ?_
    refine W51 ?_
    refine WA.take (i := 5) rfl (by kernel_rfl) (fun _ _ _ h => h) rfl (op_indexArr Tryz.underlying182 sz181 (lt_ rfl) rfl rfl (by omega) (by omega)) xT ?_
    refine WA.take (i := 6) rfl (by kernel_rfl) (fun _ _ _ h => h) rfl (op_load1 fl181 (lt_ rfl) rfl xM (wvs_at (k := i) (by omega) (by simp [S8.list]; omega))) xT ?_
    refine WA.take (i := 7) rfl (by kernel_rfl) (fun _ _ _ h => h) rfl (op_add32 (lt_ rfl) rfl rfl) xT ?_
    refine WA.take (i := 8) rfl (by kernel_rfl) (fun _ _ _ h => h) rfl (op_indexArr Tryz.underlying182 sz181 (lt_ rfl) rfl rfl (by omega) (by omega)) xT ?_
    refine WA.stepo (G := []) (i := 9) (by kernel_rfl) rfl rfl (op_store sz181 rfl rfl xK xL xO (by simp [S8.list]; omega)) (fun h => absurd rfl h) ?_
    refine W19 ?_
    refine WX.blkEq (b := b2) (wvs (madd (absorb S8.init (bs ++ pad m) k).list (rst (absorb S8.init (bs ++ pad m) k) (((bs ++ pad m).drop (64 * k)).take (64 * k + 64 - 64 * k)) 64).list (i + 1))) xK ((wvs_put (k := i) (by omega) (by simp [S8.list]; omega)).trans rfl) ?_
    refine WX.regs (L' := [(2, _), (3, _), (4, _), (5, _), (6, _), (8, _), (12, _)]) ?_
    refine W352 ?_
    refine WX.regs (L' := [(2, _), (3, _), (4, _), (5, _), (6, _), (8, _), (12, _)]) ?_
    refine WX.meet (i + 1) ⟨by omega, by omega⟩ (fun a w hs => hs.sub xY xT)
   ·
    refine W264 ?_
    refine W308 ?_
    refine W3 ?_
    obtain rfl : i = 8 := by omega
    rw [madd_end, show 64 * k + 64 - 64 * k = 64 by omega, absorb_ref]
    refine W4 ?_
    refine W295 ?_
    refine WX.regs (L' := [(2, _), (3, _), (4, _), (5, _), (6, _)]) ?_
    refine WX.meet (k + 1) ⟨by omega, by omega⟩ (fun a w hs => hs.sub xY xT)
 ·
  refine W284 ?_
  have hk2 : k = (bs.length + plen bs.length) / 64 := by unfold plen; rw [hm]; omega
  have hsha : dig (absorb S8.init (bs ++ pad m) k) = sha bs := by rw [hk2, ← hm]; rfl
  refine wl1 (op_alloc ti169 (lt_ rfl)) rfl fun b6 => ?_
  refine W2 ?_
  refine WX.regs (L' := [(2, _), (3, _), (13, _)]) ?_
  refine W310 ?_
  refine WX.regs (L' := [(2, _), (3, _), (13, _), (14, _)]) ?_
  refine W294 ?_
  refine WC.loop (X := Nat) (fun i => 32 - i) (fun i => i ≤ 32) (fun i => [(2, .pointer (some ⟨b1, 0, none⟩)), (3, .pointer (some ⟨b2, 0, none⟩)), (13, .pointer (some ⟨b6, 0, none⟩)), (14, .int .i64 (i : Int))]) (fun i => [blk b6 (bvs ((sha bs).take i ++ List.replicate (32 - i) 0)) 169, blk b2 (wvs (absorb S8.init (bs ++ pad m) k).list) 182, blk b1 (bvs (List.replicate 32 0)) 169, frameC w0 (MutF [])]) (0) (by omega) (fun a w hs => hs.sub xY xT) ?_
  rintro i hi
  try dsimp only
  refine W328 ?_
  refine W265 ?_
  refine WX.regs (L' := [(2, _), (3, _), (13, _), (14, _), (134, _)]) ?_
  refine W0 ?_
  refine WC.cond rfl (fun h4 => ?_) (fun h4 => ?_)
  ·
   refine W270 ?_
   refine W334 ?_
   refine W109 ?_
   refine W108 ?_
   refine wlv (op_load1 fl181 (lt_ rfl) rfl xM (wvs_at (k := i / 4) (by omega) (by simp [S8.list]; omega))) rfl ?_
   refine W4 ?_
   refine W78 ?_
   refine W73 ?_
   refine W94 ?_
   refine wlv (op_shr32 (lt_ rfl) rfl rfl (by omega)) rfl ?_
   refine W164 ?_
   refine wlv (op_indexArr Tryz.underlying169 sz5 (lt_ rfl) rfl rfl (by omega) (by omega)) rfl ?_
   refine wl (op_store sz5 rfl rfl xK xL xO (by simp [sha_length]; omega)) rfl ?_
   refine W252 ?_
   refine WX.blkEq (b := b6) (bvs ((sha bs).take (i + 1) ++ List.replicate (32 - (i + 1)) 0)) xK ((bvs_put (k := i) (by omega) (by simp [sha_length]; omega)).trans (congrArg bvs (dig_put _ i (by omega) (sha_length _) _ ?_))) ?_
   ·rw [← hsha, dig_at _ _ (by omega)]; unfold wb2; rw [show ((24 - 8 * ((i : Int) % 4)).toNat) = 24 - 8 * (i % 4) by omega]
   refine WX.regs (L' := [(2, _), (3, _), (13, _), (14, _)]) ?_
   refine W352 ?_
   refine WX.regs (L' := [(2, _), (3, _), (13, _), (14, _)]) ?_
   refine WX.meet (i + 1) ⟨by omega, by omega⟩ (fun a w hs => hs.sub xY xT)
  ·
   refine W284 ?_
   obtain rfl : i = 32 := by omega
   rw [show (sha bs).take 32 ++ List.replicate (32 - 32) 0 = sha bs by rw [List.take_of_length_le (by rw [sha_length]; omega)]; simp]
   refine wlv (op_loadAll ag169 (lt_ rfl) rfl xM xL) rfl ?_
   refine wl (op_storeAll sz169 rfl rfl xK xL xO xL) rfl ?_
   refine W252 ?_
   refine W250 ?_
   exact Fin.ret1 xI (()) (trivial) Tryz.results95 (.cellN rfl ag169 xM xL) xT (by simp)
end Go.Proofs.YtkjlbedebmffgaaGreat.Sx
namespace Go.Proofs.YtkjlbedebmffgaaGreat.Sx
open Go.RowKit Go.Proofs.YtkjlbedebmffgaaGreat.Ty
attribute [local irreducible] blk own rd rx frameC
def be (n : Nat) : Nat → List UInt8
 | 0 => []
 | k + 1 => UInt8.ofNat (n / 256 ^ k) :: be n k
@[simp] theorem be_length (n k : Nat) : (be n k).length = k := by induction k <;> simp [be, *]
def vl (bs : List UInt8) : Nat := bs.foldl (fun n x => n * 256 + x.toNat) 0
theorem vl_snoc (bs : List UInt8) (x : UInt8) : vl (bs ++ [x]) = vl bs * 256 + x.toNat := by simp [vl]
theorem vl_from (bs : List UInt8) : ∀ a : Nat, bs.foldl (fun n x => n * 256 + x.toNat) a < (a + 1) * 256 ^ bs.length := by
 induction bs with
 | nil => intro a; simp
 | cons x bs ih =>
  intro a
  have h := ih (a * 256 + x.toNat)
  have hx := x.toNat_lt
  have h2 : (a * 256 + x.toNat + 1) * 256 ^ bs.length ≤ ((a + 1) * 256) * 256 ^ bs.length := Nat.mul_le_mul_right _ (by omega)
  have h3 : (a + 1) * 256 ^ (x :: bs).length = ((a + 1) * 256) * 256 ^ bs.length := by rw [List.length_cons, Nat.pow_succ, Nat.mul_comm (256 ^ bs.length) 256, Nat.mul_assoc]
  rw [List.foldl_cons, h3]
  omega
theorem vl_lt (bs : List UInt8) : vl bs < 256 ^ bs.length := by
 have := vl_from bs 0
 simpa [vl] using this
theorem vl_step (bs : List UInt8) (i : Nat) (h : i < bs.length) : vl (bs.take (i + 1)) = vl (bs.take i) * 256 + (bs.getD i 0).toNat := by
 rw [List.take_succ_eq_append_getElem h, vl_snoc]
 simp [h]
abbrev fineP (k g n : Int) : Prop := 0 ≤ k ∧ k ≤ 65535 ∧ 0 ≤ g ∧ g ≤ 2147483647 ∧ 0 ≤ n ∧ n ≤ 2147483647
def chk (k g n i c : Int) (m : Nat) : Int :=
 if ¬ fineP k g n ∨ c < 1 ∨ c > 586 ∨ i < 0 ∨ i ≥ c then 2
 else if m > 224 then 5
 else if (¬ i = c - 1 ∧ m < 224) ∨ (i = c - 1 ∧ c > 1 ∧ m = 0) then 4
 else if i = c - 1 ∧ 224 * i + m > 131072 then 5
 else 0
def pcells (k g n i c : Int) (v : Value) : List Value := [.int .i64 k, .int .i64 g, .int .i64 n, .int .i64 i, .int .i64 c, v]
section
variable {P : Program} {n : Fr} {L : List (Nat × Value)} {H : List Ch} {d : Nat} {ty : TypeId} {pos : String} {af : Array Edge} {g : Option (Nat × Bool)} {x y : Operand} {xt yt : TypeId}
theorem op_subw {a b : Int} (hn : d < n.n) (hx : evr L x = some (.int .i64 a)) (hy : evr L y = some (.int .i64 b)) :
  Val P ⟨some d, .binOp .sub xt x y yt, ty, pos, af, g⟩ n L H d (.int .i64 (IntKind.i64.wrap (a - b))) :=
 binop_val hn hx hy (fun _ _ => rfl) fun w => by simp [binOp, Op.intArith]
end
theorem wrap_in {a : Int} (h : -9223372036854775808 ≤ a ∧ a < 9223372036854775808) : IntKind.i64.wrap a = a := by
 simp [IntKind.wrap_i64]; omega
set_option maxHeartbeats 400000 in
set_option maxRecDepth 10000 in
theorem f108_spec (nn k : Nat) (hn : nn < 9223372036854775808) (hk : k ≤ 8) :
  Spec Tryz.prog 108 [.int .i64 nn, .int .i64 k] [] [] (R := Option Addr × Nat) (fun _ => True) (fun r => .slice r.1 k r.2) (fun r => [own (.slice r.1 k r.2) 5 1 k (bvs (be nn k))]) := by
 refine Spec.intro Tryz.func108 Tryz.ntmps108 rfl (by simp) (by simp) fun w0 => ?_
 refine W283 ?_
 refine W76 ?_
 refine W249 ?_
 refine W241 ?_
 refine WX.regs (L' := [(0, _), (1, _), (5, _)]) ?_
 refine W310 ?_
 refine WX.regs (L' := [(0, _), (1, _), (5, _), (6, _)]) ?_
 refine W294 ?_
 refine WC.nilslice 5 1 ?_
 refine WC.loop (X := Nat × Option Addr × Nat) (fun q => k - q.1) (fun q => q.1 ≤ k) (fun q => [(0, .int .i64 ((nn / 256 ^ q.1 : Nat) : Int)), (1, .int .i64 k), (5, .slice q.2.1 q.1 q.2.2), (6, .int .i64 q.1)]) (fun q => [own (.slice q.2.1 q.1 q.2.2) 5 1 q.1 (bvs (be nn q.1)), frameC w0 (MutF [])]) ((0, none, 0)) (Nat.zero_le _) (fun a w hs => hs.sub (by repeat (first | exact RS.nil | refine RS.cons (by first | rfl | simp [get, upd, keep, argL]) ?_)) xT) ?_
 rintro ⟨i, A, c⟩ hi
 try dsimp only at hi ⊢
 have hi0 := Nat.div_le_self nn (256 ^ i)
 have hi1 : (0 : Int) ≤ ((nn / 256 ^ i : Nat) : Int) := Int.natCast_nonneg _
 refine W314 ?_
 refine W265 ?_
 refine WX.regs (L' := [(0, _), (1, _), (5, _), (6, _), (9, _)]) ?_
 refine W0 ?_
 refine WC.cond rfl (fun h1 => ?_) (fun h1 => ?_)
 ·
  refine W298 ?_
  refine W4 ?_
  refine W78 ?_
  refine wlv (op_convByte (by kernel_rfl) Tryz.underlying5 (lt_ rfl) rfl (by omega)) rfl ?_
  refine wl1 (op_lit1 Tryz.underlying30 ti5 rfl (by decide) (lt_ rfl) rfl rfl) rfl fun b1 => ?_
  refine W4 ?_
  refine wl2 (op_append Tryz.underlying30 ti5 rfl (by decide) (lt_ rfl) rfl rfl xK xS (bvs_one _) (by omega) (by omega)) rfl fun A1 c1 => ?_
  refine W241 ?_
  refine WX.regs (L' := [(0, _), (1, _), (5, _), (6, _)]) ?_
  refine W0 ?_
  refine W309 ?_
  refine W109 ?_
  refine W241 ?_
  refine WX.regs (L' := [(0, _), (1, _), (5, _), (6, _)]) ?_
  refine W352 ?_
  refine WX.regs (L' := [(0, _), (1, _), (5, _), (6, _)]) ?_
  have e1 : nn / 256 ^ i / 256 = nn / 256 ^ (i + 1) := by rw [Nat.div_div_eq_div_mul, ← Nat.pow_succ]
  have e0 : ((nn / 256 ^ i : Nat) : Int) / 256 = ((nn / 256 ^ (i + 1) : Nat) : Int) := by rw [← e1]; omega
  have e2 : (bv (UInt8.ofNat (((nn / 256 ^ i : Nat) : Int) % 256).toNat)).cells.toList ++ bvs (be nn i) = bvs (be nn (i + 1)) := by
   have e3 : (((nn / 256 ^ i : Nat) : Int) % 256).toNat = nn / 256 ^ i % 256 := by omega
   rw [e3]
   simp only [bvs, be, List.map_cons]
   have e4 : UInt8.ofNat (nn / 256 ^ i % 256) = UInt8.ofNat (nn / 256 ^ i) := by apply UInt8.toNat_inj.1; simp
   rw [e4]
   rfl
  rw [e0, e2, Nat.add_comm 1 i]
  refine WX.meet ((i + 1, A1, c1)) ⟨by simp only []; omega, by simp only []; omega⟩ (fun a w hs => hs.sub xY xT)
 ·
  refine W264 ?_
  refine W261 ?_
  refine W241 ?_
  refine W322 ?_
  obtain rfl : i = k := by omega
  exact Fin.ret1 xI ((A, c)) (trivial) Tryz.results108 (.tmp rfl) xT (by simp)
set_option maxHeartbeats 400000 in
set_option maxRecDepth 10000 in
theorem f96_spec (A : Option Addr) (m c : Nat) (bs : List UInt8) (hm : bs.length = m) (hm' : m ≤ 6) :
  Spec Tryz.prog 96 [.slice A m c] [] [rd (.slice A m c) 1 m (bvs bs)] (R := Unit) (fun _ => True) (fun _ => .int .i64 ((vl bs : Nat) : Int)) (fun _ => []) := by
 have hv : ∀ i, i ≤ m → vl (bs.take i) < 256 ^ 6 := fun i hi => Nat.lt_of_lt_of_le (vl_lt _) (Nat.pow_le_pow_right (by decide) (by rw [List.length_take]; omega))
 refine Spec.intro Tryz.func96 Tryz.ntmps96 rfl (by simp) (by simp) fun w0 => ?_
 refine W300 ?_
 refine W249 ?_
 refine W241 ?_
 refine W84 ?_
 refine W310 ?_
 refine W97 ?_
 refine W294 ?_
 refine WC.loop (X := Nat) (fun i => m - i) (fun i => i ≤ m) (fun i => [(0, .slice A m c), (3, .int .i64 ((vl (bs.take i) : Nat) : Int)), (4, .int .i64 (i : Int))]) (fun i => [rd (.slice A m c) 1 m (bvs bs), frameC w0 (MutF [])]) (0) (by omega) (fun a w hs => hs.sub xY xT) ?_
 rintro i hi
 try dsimp only
 have hvi := hv i hi
 refine W314 ?_
 refine W38 ?_
 refine W265 ?_
 refine WX.regs (L' := [(0, _), (3, _), (4, _), (8, _)]) ?_
 refine W0 ?_
 refine WC.cond rfl (fun h1 => ?_) (fun h1 => ?_)
 ·
  refine W270 ?_
  refine W309 ?_
  refine W73 ?_
  refine W244 ?_
  refine W318 ?_
  refine W166 ?_
  refine wlv (op_add (lt_ rfl) rfl rfl (by have := (bs.getD i 0).toNat_lt; omega)) rfl ?_
  refine W241 ?_
  rw [show ((vl (bs.take i) : Nat) : Int) * 256 + (((bs.getD i 0).toNat : Nat) : Int) = ((vl (bs.take (i + 1)) : Nat) : Int) by rw [vl_step bs i (by omega)]; simp]
  refine W97 ?_
  refine W352 ?_
  refine W97 ?_
  refine WX.meet (i + 1) ⟨by omega, by omega⟩ (fun a w hs => hs.sub xY xT)
 ·
  refine W264 ?_
  refine W261 ?_
  refine W260 ?_
  obtain rfl : i = m := by omega
  rw [show bs.take i = bs by rw [List.take_of_length_le (by omega)]]
  exact Fin.ret1 xI (()) (trivial) Tryz.results96 (.tmp rfl) xT (by simp)
set_option maxHeartbeats 400000 in
set_option maxRecDepth 10000 in
theorem f98_spec (k g n : Int) :
  Spec Tryz.prog 98 [.int .i64 k, .int .i64 g, .int .i64 n] [] [] (R := Bool) (fun b => b = decide (fineP k g n)) (fun b => .bool b) (fun _ => []) := by
 refine Spec.intro Tryz.func98 Tryz.ntmps98 rfl (by simp) (by simp) fun w0 => ?_
 refine W283 ?_
 refine W111 ?_
 refine W261 ?_
 refine W66 ?_
 refine W4 ?_
 refine WL.split (t := 9) rfl (fun g9 => ?_) (fun g9 => ?_)
 ·
  refine W13 ?_
  refine wlgv (op_leq (lt_ rfl) rfl rfl) rfl rfl rfl ?_
  refine W17 ?_
  refine W4 ?_
  refine WL.split (t := 13) rfl (fun g13 => ?_) (fun g13 => ?_)
  ·
   refine W13 ?_
   refine wlgv (op_geq (lt_ rfl) rfl rfl) rfl rfl rfl ?_
   refine W17 ?_
   refine W4 ?_
   refine WL.split (t := 17) rfl (fun g17 => ?_) (fun g17 => ?_)
   ·
    refine W13 ?_
    refine wlgv (op_leq (lt_ rfl) rfl rfl) rfl rfl rfl ?_
    refine W17 ?_
    refine W4 ?_
    refine WL.split (t := 21) rfl (fun g21 => ?_) (fun g21 => ?_)
    ·
     refine W13 ?_
     refine wlgv (op_geq (lt_ rfl) rfl rfl) rfl rfl rfl ?_
     refine W17 ?_
     refine W4 ?_
     refine WL.split (t := 25) rfl (fun g25 => ?_) (fun g25 => ?_)
     ·
      refine W13 ?_
      refine wlgv (op_leq (lt_ rfl) rfl rfl) rfl rfl rfl ?_
      refine W17 ?_
      refine W333 ?_
      refine W242 ?_
      exact Fin.ret1 xI (_) (by simp only [true_eq_decide_iff, false_eq_decide_iff, decide_eq_decide, fineP]; omega) Tryz.results98 (.tmp rfl) xT (by simp)
     ·
      refine W267 ?_
      refine W333 ?_
      refine W242 ?_
      exact Fin.ret1 xI (_) (by simp only [true_eq_decide_iff, false_eq_decide_iff, decide_eq_decide, fineP]; omega) Tryz.results98 (.tmp rfl) xT (by simp)
    ·
     refine W267 ?_
     refine W4 ?_
     refine W267 ?_
     refine W333 ?_
     refine W242 ?_
     exact Fin.ret1 xI (_) (by simp only [true_eq_decide_iff, false_eq_decide_iff, decide_eq_decide, fineP]; omega) Tryz.results98 (.tmp rfl) xT (by simp)
   ·
    refine W267 ?_
    refine W4 ?_
    refine W267 ?_
    refine W4 ?_
    refine W267 ?_
    refine W333 ?_
    refine W242 ?_
    exact Fin.ret1 xI (_) (by simp only [true_eq_decide_iff, false_eq_decide_iff, decide_eq_decide, fineP]; omega) Tryz.results98 (.tmp rfl) xT (by simp)
  ·
   refine W267 ?_
   refine W4 ?_
   refine W267 ?_
   refine W4 ?_
   refine W267 ?_
   refine W4 ?_
   refine W267 ?_
   refine W333 ?_
   refine W242 ?_
   exact Fin.ret1 xI (_) (by simp only [true_eq_decide_iff, false_eq_decide_iff, decide_eq_decide, fineP]; omega) Tryz.results98 (.tmp rfl) xT (by simp)
 ·
  refine W267 ?_
  refine W4 ?_
  refine W267 ?_
  refine W4 ?_
  refine W267 ?_
  refine W4 ?_
  refine W267 ?_
  refine W4 ?_
  refine W267 ?_
  refine W333 ?_
  refine W242 ?_
  exact Fin.ret1 xI (_) (by simp only [true_eq_decide_iff, false_eq_decide_iff, decide_eq_decide, fineP]; omega) Tryz.results98 (.tmp rfl) xT (by simp)
set_option maxHeartbeats 400000 in
set_option maxRecDepth 10000 in
theorem f93_spec (k g : Int) :
  Spec Tryz.prog 93 [.int .i64 k, .int .i64 g] [] [] (R := Bool) (fun b => b = decide (0 ≤ k ∧ k ≤ g)) (fun b => .bool b) (fun _ => []) := by
 refine Spec.intro Tryz.func93 Tryz.ntmps93 rfl (by simp) (by simp) fun w0 => ?_
 refine W283 ?_
 refine W76 ?_
 refine W261 ?_
 refine W66 ?_
 refine W4 ?_
 refine WL.split (t := 7) rfl (fun g7 => ?_) (fun g7 => ?_)
 ·
  refine W345 ?_
  refine wlgv (op_leq (lt_ rfl) rfl rfl) rfl rfl rfl ?_
  refine W17 ?_
  refine W241 ?_
  refine W322 ?_
  exact Fin.ret1 xI (_) (by simp only [true_eq_decide_iff, false_eq_decide_iff, decide_eq_decide, fineP]; omega) Tryz.results93 (.tmp rfl) xT (by simp)
 ·
  refine W243 ?_
  refine W6 ?_
  refine W15 ?_
  refine W241 ?_
  refine W322 ?_
  exact Fin.ret1 xI (_) (by simp only [true_eq_decide_iff, false_eq_decide_iff, decide_eq_decide, fineP]; omega) Tryz.results93 (.tmp rfl) xT (by simp)
set_option maxHeartbeats 400000 in
set_option maxRecDepth 10000 in
theorem f70_spec (k g n : Int) :
  Spec Tryz.prog 70 [.agg #[.int .i64 k, .int .i64 g, .int .i64 n]] [] [] (R := Bool) (fun b => b = decide (fineP k g n)) (fun b => .bool b) (fun _ => []) := by
 refine Spec.intro Tryz.func70 Tryz.ntmps70 rfl (by simp) (by simp) fun w0 => ?_
 refine W240 ?_
 refine wl1 (op_box (lt_ rfl) rfl rfl) rfl fun b1 => ?_
 refine W358 ?_
 refine W249 ?_
 refine wlv (op_fieldAddr fo135_0 (lt_ rfl) rfl) rfl ?_
 refine W21 ?_
 refine wlx (op_call (f93_spec _ _) ca93 (lt_ rfl) rfl) rfl ?_
 rintro _ rfl
 refine W4 ?_
 refine WL.split (t := 6) rfl (fun g6 => ?_) (fun g6 => ?_)
 ·
  refine wlgv (op_fieldAddr fo135_1 (lt_ rfl) rfl) rfl rfl rfl ?_
  refine W28 ?_
  refine wlgx (op_call (f93_spec _ _) ca93 (lt_ rfl) rfl) rfl rfl rfl ?_
  rintro _ rfl
  refine W17 ?_
  refine W4 ?_
  refine WL.split (t := 11) rfl (fun g11 => ?_) (fun g11 => ?_)
  ·
   refine wlgv (op_fieldAddr fo135_2 (lt_ rfl) rfl) rfl rfl rfl ?_
   refine W28 ?_
   refine wlgx (op_call (f93_spec _ _) ca93 (lt_ rfl) rfl) rfl rfl rfl ?_
   rintro _ rfl
   refine W17 ?_
   refine W260 ?_
   exact Fin.ret1 xI (_) (by simp only [true_eq_decide_iff, false_eq_decide_iff, decide_eq_decide, fineP]; omega) Tryz.results70 (.tmp rfl) xT (by simp)
  ·
   refine W243 ?_
   refine W6 ?_
   refine W15 ?_
   refine W260 ?_
   exact Fin.ret1 xI (_) (by simp only [true_eq_decide_iff, false_eq_decide_iff, decide_eq_decide, fineP]; omega) Tryz.results70 (.tmp rfl) xT (by simp)
 ·
  refine W243 ?_
  refine W6 ?_
  refine W15 ?_
  refine W4 ?_
  refine W243 ?_
  refine W6 ?_
  refine W15 ?_
  refine W260 ?_
  exact Fin.ret1 xI (_) (by simp only [true_eq_decide_iff, false_eq_decide_iff, decide_eq_decide, fineP]; omega) Tryz.results70 (.tmp rfl) xT (by simp)
set_option maxHeartbeats 400000 in
set_option maxRecDepth 10000 in
theorem f103_spec (k g n i c : Int) (v : Value) :
  Spec Tryz.prog 103 [.agg (pcells k g n i c v).toArray] [] [] (R := Unit) (fun _ => True) (fun _ => .agg #[.int .i64 k, .int .i64 g, .int .i64 n]) (fun _ => []) := by
 refine Spec.intro Tryz.func103 Tryz.ntmps103 rfl (by simp) (by simp) fun w0 => ?_
 refine W240 ?_
 refine wl1 (op_box (lt_ rfl) rfl rfl) rfl fun b1 => ?_
 refine wl1 (op_alloc ti135 (lt_ rfl)) rfl fun b2 => ?_
 refine W2 ?_
 refine W80 ?_
 refine W249 ?_
 refine wlv (op_fieldAddr fo123_0 (lt_ rfl) rfl) rfl ?_
 refine W21 ?_
 refine W335 ?_
 refine wlv (op_fieldAddr fo123_2 (lt_ rfl) rfl) rfl ?_
 refine W21 ?_
 refine wlv (op_build (cs := [.int .i64 k, .int .i64 g, .int .i64 n]) (pv := [(0, _), (1, _), (2, _)]) (lt_ rfl) rfl (by kernel_rfl)) rfl ?_
 refine wl (op_storeAll sz135 rfl rfl xK xL xO xL) rfl ?_
 refine W252 ?_
 refine W250 ?_
 exact Fin.ret1 xI (()) (trivial) Tryz.results103 (.cellN rfl ag135 xM xL) xT (by simp)
end Go.Proofs.YtkjlbedebmffgaaGreat.Sx
namespace Go.Proofs.YtkjlbedebmffgaaGreat.Sx
open Go.RowKit Go.Proofs.YtkjlbedebmffgaaGreat.Ty
attribute [local irreducible] blk own rd rx frameC
def sealR (bs : List UInt8) : List UInt8 := (bs ++ List.replicate (240 - bs.length) 0).take 240
theorem sealR_length (bs : List UInt8) : (sealR bs).length = 240 := by simp [sealR]; omega
def sealB (bs : List UInt8) : List UInt8 := (sha (sealR bs)).take 16 ++ sealR bs
theorem sealB_length (bs : List UInt8) : (sealB bs).length = 256 := by simp [sealB, sealR_length, sha_length]
theorem zeros_step3 (bs : List UInt8) (j : Nat) : bvs (bs ++ List.replicate j 0) ++ [bv 0] = bvs (bs ++ List.replicate (j + 1) 0) := by
 rw [List.replicate_succ', ← List.append_assoc, bvs_append (bs ++ _)]; rfl
def blank (bs : List UInt8) : Bool := bs.all (· == 0)
theorem blank_step (bs : List UInt8) (i : Nat) (hi : i < bs.length) (h : blank (bs.take i) = true) (h0 : bs.getD i 0 = 0) : blank (bs.take (i + 1)) = true := by
 unfold blank at *
 rw [List.take_succ_eq_append_getElem hi, List.all_append, h]
 simpa [hi] using h0
theorem blank_not (bs : List UInt8) (i : Nat) (hi : i < bs.length) (h0 : ¬ bs.getD i 0 = 0) : blank bs = false := by
 unfold blank
 rw [List.all_eq_false]
 exact ⟨bs[i], List.getElem_mem hi, by simpa [hi] using h0⟩
set_option maxHeartbeats 400000 in
set_option maxRecDepth 10000 in
theorem f109_spec (A : Option Addr) (m c : Nat) (bs : List UInt8) (hm : bs.length = m) (hmx : m ≤ 140737488355328) :
  Spec Tryz.prog 109 [.slice A m c] [] [rd (.slice A m c) 1 m (bvs bs)] (R := Option Addr × Nat) (fun _ => True) (fun r => .slice r.1 256 r.2) (fun r => [own (.slice r.1 256 r.2) 5 1 256 (bvs (sealB bs))]) := by
 refine Spec.intro Tryz.func109 Tryz.ntmps109 rfl (by simp) (by simp) fun w0 => ?_
 refine W300 ?_
 refine W249 ?_
 refine wl1 (op_lit0 Tryz.underlying30 ti5 (lt_ rfl)) rfl fun b1 => ?_
 refine W4 ?_
 refine wl2 (op_append0 Tryz.underlying30 ti5 rfl (by decide) (lt_ rfl) rfl rfl xK xS xO (by omega) (by omega)) rfl fun A1 c1 => ?_
 refine W241 ?_
 refine WX.regs (L' := [(3, _)]) ?_
 refine W0 ?_
 refine W254 ?_
 rw [show bvs bs = bvs (bs ++ List.replicate 0 0) by simp]
 refine WC.loop (X := Nat × Option Addr × Nat) (fun q => 240 - (m + q.1)) (fun q => m + q.1 ≤ 240 ∨ q.1 = 0) (fun q => [(3, .slice q.2.1 (m + q.1) q.2.2)]) (fun q => [own (.slice q.2.1 (m + q.1) q.2.2) 5 1 (m + q.1) (bvs (bs ++ List.replicate q.1 0)), frameC w0 (MutF [])]) ((0, A1, c1)) (.inr rfl) (fun a w hs => hs.sub xY xT) ?_
 rintro ⟨j, Aj, cj⟩ hj
 try dsimp only at hj ⊢
 refine W328 ?_
 refine W38 ?_
 refine W265 ?_
 refine WX.regs (L' := [(3, _), (10, _)]) ?_
 refine W0 ?_
 refine WC.cond rfl (fun h1 => ?_) (fun h1 => ?_)
 ·
  refine W262 ?_
  refine W11 ?_
  refine W309 ?_
  refine wl1 (op_lit1 Tryz.underlying30 ti5 rfl (by decide) (lt_ rfl) rfl rfl) rfl fun b2 => ?_
  refine wl2 (op_append Tryz.underlying30 ti5 rfl (by decide) (lt_ rfl) rfl rfl xK xS xO (by omega) (by omega)) rfl fun A2 c2 => ?_
  refine W241 ?_
  refine WX.ownEq (v := .slice A2 (m + j + 1) c2) _ xK (zeros_step3 bs j) ?_
  refine WX.regs (L' := [(3, _)]) ?_
  refine W18 ?_
  refine WX.meet ((j + 1, _, _)) ⟨by simp only []; omega, by simp only []; omega⟩ (fun a w hs => hs.sub xY xT)
 ·
  refine W284 ?_
  have hj2 : m + j ≥ 240 := by omega
  have hlj : (bs ++ List.replicate j 0).length = m + j := by simp [hm]
  have hR : ((bs ++ List.replicate j 0).drop 0).take (240 - 0) = sealR bs := by
   unfold sealR
   rw [List.drop_zero]
   by_cases hm240 : m ≤ 240
   ·have : j = 240 - bs.length := by omega
    rw [this]
   ·obtain rfl : j = 0 := by omega
    rw [hm, show 240 - m = 0 by omega]
  refine WL.turn xK own_le_rd ?_
  refine WL.capx xS (fun hcj => ?_)
  refine WL.dupr (v := .slice Aj (m + j) cj) (sz := 1) (m := m + j) (xs := bvs (bs ++ List.replicate j 0)) xM (rd_subB (l := 0) (h := 240) (by omega) hj2) ?_
  rw [hR]
  refine W4 ?_
  refine wlv (op_slice_h Tryz.underlying30 sz5 (lt_ rfl) rfl rfl (by omega) (by omega)) rfl ?_
  refine W241 ?_
  refine WX.regs (L' := [(3, _)]) ?_
  refine W261 ?_
  refine wlx (op_call (f95_spec _ 240 _ (sealR bs) (sealR_length _) (by decide)) ca95 (lt_ rfl) rfl) rfl ?_
  rintro r1 h1
  refine wl1 (op_alloc ti169 (lt_ rfl)) rfl fun b3 => ?_
  refine wl (op_storeAll sz169 rfl rfl xK xL xO xL) rfl ?_
  refine W252 ?_
  refine WX.regs (L' := [(3, _), (4, _)]) ?_
  refine W249 ?_
  refine WL.turn (c := blk b3 (bvs (sha (sealR bs))) 169) (d := rd (.slice (some ⟨b3, 0, none⟩) 16 32) 1 16 (bvs ((sha (sealR bs)).take 16))) xK (blk_le_rd (by decide) (by decide) (by simp [bvs]) (by simp [sha_length])) ?_
  refine wl1 (op_lit0 Tryz.underlying30 ti5 (lt_ rfl)) rfl fun b4 => ?_
  refine wlv (op_sliceArr_h Tryz.underlying169 sz5 (lt_ rfl) rfl rfl (by decide) (by decide)) rfl ?_
  refine wl2 (op_append0 Tryz.underlying30 ti5 rfl (by decide) (lt_ rfl) rfl rfl xK xS xO (by omega) (by omega)) rfl fun A3 c3 => ?_
  refine W4 ?_
  refine wl2 (op_append Tryz.underlying30 ti5 rfl (by decide) (lt_ rfl) rfl rfl xK xS xO (by omega) (by omega)) rfl fun A4 c4 => ?_
  refine W260 ?_
  exact Fin.ret1 xI ((_, _)) (trivial) Tryz.results109 (.tmp rfl) xT (by simp)
set_option maxHeartbeats 400000 in
set_option maxRecDepth 10000 in
theorem f97_spec (k g n i c : Int) (A : Option Addr) (m cap : Nat) :
  Spec Tryz.prog 97 [.agg (pcells k g n i c (.slice A m cap)).toArray] [] [] (R := Int) (fun r => r = chk k g n i c m) (fun r => .int .i64 r) (fun _ => []) := by
 refine Spec.intro Tryz.func97 Tryz.ntmps97 rfl (by simp) (by simp) fun w0 => ?_
 refine W240 ?_
 refine wl1 (op_box (lt_ rfl) rfl rfl) rfl fun b1 => ?_
 refine W358 ?_
 refine W269 ?_
 refine wlv (op_fieldAddr fo139_0 (lt_ rfl) rfl) rfl ?_
 refine W21 ?_
 refine W317 ?_
 refine wlv (op_fieldAddr fo139_2 (lt_ rfl) rfl) rfl ?_
 refine W21 ?_
 refine wlx (op_call (f98_spec _ _ _) ca98 (lt_ rfl) rfl) rfl ?_
 rintro _ rfl
 refine W86 ?_
 refine W4 ?_
 refine WL.split (t := 13) rfl (fun g13 => ?_) (fun g13 => ?_)
 ·
  refine W302 ?_
  refine W4 ?_
  refine W302 ?_
  refine W4 ?_
  refine W302 ?_
  refine W4 ?_
  refine W320 ?_
  refine W2 ?_
  refine WX.regs (L' := [(1, _), (34, _)]) ?_
  refine W362 ?_
  refine W336 ?_
  exact Fin.ret1 xI (_) (by (try simp only []); unfold chk; (try simp only [fineP] at *); repeat (split); all_goals omega) Tryz.results97 (.tmp rfl) xT (by simp)
 ·
  refine W124 ?_
  refine W28 ?_
  refine W98 ?_
  refine W15 ?_
  refine W4 ?_
  refine WL.split (t := 18) rfl (fun g18 => ?_) (fun g18 => ?_)
  ·
   refine W302 ?_
   refine W4 ?_
   refine W302 ?_
   refine W4 ?_
   refine W320 ?_
   refine W2 ?_
   refine WX.regs (L' := [(1, _), (34, _)]) ?_
   refine W362 ?_
   refine W336 ?_
   exact Fin.ret1 xI (_) (by (try simp only []); unfold chk; (try simp only [fineP] at *); repeat (split); all_goals omega) Tryz.results97 (.tmp rfl) xT (by simp)
  ·
   refine W124 ?_
   refine W28 ?_
   refine W36 ?_
   refine W15 ?_
   refine W4 ?_
   refine WL.split (t := 23) rfl (fun g23 => ?_) (fun g23 => ?_)
   ·
    refine W302 ?_
    refine W4 ?_
    refine W320 ?_
    refine W2 ?_
    refine WX.regs (L' := [(1, _), (34, _)]) ?_
    refine W362 ?_
    refine W336 ?_
    exact Fin.ret1 xI (_) (by (try simp only []); unfold chk; (try simp only [fineP] at *); repeat (split); all_goals omega) Tryz.results97 (.tmp rfl) xT (by simp)
   ·
    refine W112 ?_
    refine W28 ?_
    refine W98 ?_
    refine W15 ?_
    refine W4 ?_
    refine WL.split (t := 28) rfl (fun g28 => ?_) (fun g28 => ?_)
    ·
     refine W320 ?_
     refine W2 ?_
     refine WX.regs (L' := [(1, _), (34, _)]) ?_
     refine W362 ?_
     refine W336 ?_
     exact Fin.ret1 xI (_) (by (try simp only []); unfold chk; (try simp only [fineP] at *); repeat (split); all_goals omega) Tryz.results97 (.tmp rfl) xT (by simp)
    ·
     refine W112 ?_
     refine W28 ?_
     refine W124 ?_
     refine W28 ?_
     refine wlgv (op_geq (lt_ rfl) rfl rfl) rfl rfl rfl ?_
     refine W285 ?_
     refine WX.regs (L' := [(1, _), (34, _)]) ?_
     refine W0 ?_
     refine WC.cond rfl (fun h1 => ?_) (fun h1 => ?_)
     ·
      refine W336 ?_
      exact Fin.ret1 xI (_) (by (try simp only []); unfold chk; (try simp only [fineP] at *); repeat (split); all_goals omega) Tryz.results97 (.tmp rfl) xT (by simp)
     ·
      refine W274 ?_
      refine wlv (op_fieldAddr fo139_5 (lt_ rfl) rfl) rfl ?_
      refine W52 ?_
      refine W38 ?_
      refine W241 ?_
      refine WX.regs (L' := [(1, _), (3, _)]) ?_
      refine W282 ?_
      refine W56 ?_
      refine W2 ?_
      refine WX.regs (L' := [(1, _), (3, _), (39, _)]) ?_
      refine W0 ?_
      refine WC.cond rfl (fun h2 => ?_) (fun h2 => ?_)
      ·
       refine W336 ?_
       exact Fin.ret1 xI (_) (by (try simp only []); unfold chk; (try simp only [fineP] at *); repeat (split); all_goals omega) Tryz.results97 (.tmp rfl) xT (by simp)
      ·
       refine W274 ?_
       refine wlv (op_fieldAddr fo139_3 (lt_ rfl) rfl) rfl ?_
       refine W21 ?_
       refine wlv (op_fieldAddr fo139_4 (lt_ rfl) rfl) rfl ?_
       refine W21 ?_
       refine wlv (op_sub (lt_ rfl) rfl rfl (by simp only [fineP] at *; omega)) rfl ?_
       refine W42 ?_
       refine W241 ?_
       refine WX.regs (L' := [(1, _), (3, _), (4, _)]) ?_
       refine W282 ?_
       refine W86 ?_
       refine W4 ?_
       refine WL.split (t := 48) rfl (fun g48 => ?_) (fun g48 => ?_)
       ·
        refine W13 ?_
        refine W98 ?_
        refine W17 ?_
        refine W4 ?_
        refine WL.split (t := 52) rfl (fun g52 => ?_) (fun g52 => ?_)
        ·
         refine W243 ?_
         refine W37 ?_
         refine W37 ?_
         refine W37 ?_
         refine W243 ?_
         refine W37 ?_
         refine W37 ?_
         refine W257 ?_
         refine W2 ?_
         refine W125 ?_
         refine W362 ?_
         refine W336 ?_
         exact Fin.ret1 xI (_) (by (try simp only []); unfold chk; (try simp only [fineP] at *); repeat (split); all_goals omega) Tryz.results97 (.tmp rfl) xT (by simp)
        ·
         refine W345 ?_
         refine WL.split (t := 54) rfl (fun g54 => ?_) (fun g54 => ?_)
         ·
          refine W124 ?_
          refine W28 ?_
          refine W36 ?_
          refine W68 ?_
          refine W13 ?_
          refine WL.split (t := 59) rfl (fun g59 => ?_) (fun g59 => ?_)
          ·
           refine W13 ?_
           refine W62 ?_
           refine W68 ?_
           refine W285 ?_
           refine W125 ?_
           refine W0 ?_
           refine WC.cond rfl (fun h3 => ?_) (fun h3 => ?_)
           ·
            refine W336 ?_
            exact Fin.ret1 xI (_) (by (try simp only []); unfold chk; (try simp only [fineP] at *); repeat (split); all_goals omega) Tryz.results97 (.tmp rfl) xT (by simp)
           ·
            refine W262 ?_
            refine W314 ?_
            refine WL.split (t := 65) rfl (fun g65 => ?_) (fun g65 => ?_)
            ·
             refine W112 ?_
             refine W28 ?_
             refine W137 ?_
             refine W13 ?_
             refine W87 ?_
             refine W36 ?_
             refine W313 ?_
             refine W88 ?_
             refine W0 ?_
             refine WC.cond rfl (fun h4 => ?_) (fun h4 => ?_)
             ·
              refine W336 ?_
              exact Fin.ret1 xI (_) (by (try simp only []); unfold chk; (try simp only [fineP] at *); repeat (split); all_goals omega) Tryz.results97 (.tmp rfl) xT (by simp)
             ·
              refine W274 ?_
              refine W260 ?_
              exact Fin.ret1 xI (_) (by (try simp only []); unfold chk; (try simp only [fineP] at *); repeat (split); all_goals omega) Tryz.results97 (.tmp rfl) xT (by simp)
            ·
             refine W255 ?_
             refine W267 ?_
             refine W2 ?_
             refine W88 ?_
             refine W281 ?_
             refine W311 ?_
             exact Fin.ret1 xI (_) (by (try simp only []); unfold chk; (try simp only [fineP] at *); repeat (split); all_goals omega) Tryz.results97 (.tmp rfl) xT (by simp)
          ·
           refine W243 ?_
           refine W57 ?_
           refine W285 ?_
           refine W125 ?_
           refine W281 ?_
           refine W269 ?_
           refine W244 ?_
           refine WL.split (t := 65) rfl (fun g65 => ?_) (fun g65 => ?_)
           ·
            refine W112 ?_
            refine W28 ?_
            refine W137 ?_
            refine W13 ?_
            refine W87 ?_
            refine W36 ?_
            refine W313 ?_
            refine W88 ?_
            refine W0 ?_
            refine WC.cond rfl (fun h4 => ?_) (fun h4 => ?_)
            ·
             refine W336 ?_
             exact Fin.ret1 xI (_) (by (try simp only []); unfold chk; (try simp only [fineP] at *); repeat (split); all_goals omega) Tryz.results97 (.tmp rfl) xT (by simp)
            ·
             refine W274 ?_
             refine W260 ?_
             exact Fin.ret1 xI (_) (by (try simp only []); unfold chk; (try simp only [fineP] at *); repeat (split); all_goals omega) Tryz.results97 (.tmp rfl) xT (by simp)
           ·
            refine W255 ?_
            refine W267 ?_
            refine W2 ?_
            refine W88 ?_
            refine W281 ?_
            refine W311 ?_
            exact Fin.ret1 xI (_) (by (try simp only []); unfold chk; (try simp only [fineP] at *); repeat (split); all_goals omega) Tryz.results97 (.tmp rfl) xT (by simp)
         ·
          refine W243 ?_
          refine W6 ?_
          refine W57 ?_
          refine W13 ?_
          refine W243 ?_
          refine W57 ?_
          refine W285 ?_
          refine W125 ?_
          refine W281 ?_
          refine W269 ?_
          refine W244 ?_
          refine WL.split (t := 65) rfl (fun g65 => ?_) (fun g65 => ?_)
          ·
           refine W112 ?_
           refine W28 ?_
           refine W137 ?_
           refine W13 ?_
           refine W87 ?_
           refine W36 ?_
           refine W313 ?_
           refine W88 ?_
           refine W0 ?_
           refine WC.cond rfl (fun h4 => ?_) (fun h4 => ?_)
           ·
            refine W336 ?_
            exact Fin.ret1 xI (_) (by (try simp only []); unfold chk; (try simp only [fineP] at *); repeat (split); all_goals omega) Tryz.results97 (.tmp rfl) xT (by simp)
           ·
            refine W274 ?_
            refine W260 ?_
            exact Fin.ret1 xI (_) (by (try simp only []); unfold chk; (try simp only [fineP] at *); repeat (split); all_goals omega) Tryz.results97 (.tmp rfl) xT (by simp)
          ·
           refine W255 ?_
           refine W267 ?_
           refine W2 ?_
           refine W88 ?_
           refine W281 ?_
           refine W311 ?_
           exact Fin.ret1 xI (_) (by (try simp only []); unfold chk; (try simp only [fineP] at *); repeat (split); all_goals omega) Tryz.results97 (.tmp rfl) xT (by simp)
       ·
        refine W267 ?_
        refine W4 ?_
        refine W345 ?_
        refine WL.split (t := 54) rfl (fun g54 => ?_) (fun g54 => ?_)
        ·
         refine W124 ?_
         refine W28 ?_
         refine W36 ?_
         refine W68 ?_
         refine W13 ?_
         refine WL.split (t := 59) rfl (fun g59 => ?_) (fun g59 => ?_)
         ·
          refine W13 ?_
          refine W62 ?_
          refine W68 ?_
          refine W285 ?_
          refine W125 ?_
          refine W0 ?_
          refine WC.cond rfl (fun h3 => ?_) (fun h3 => ?_)
          ·
           refine W336 ?_
           exact Fin.ret1 xI (_) (by (try simp only []); unfold chk; (try simp only [fineP] at *); repeat (split); all_goals omega) Tryz.results97 (.tmp rfl) xT (by simp)
          ·
           refine W262 ?_
           refine W314 ?_
           refine WL.split (t := 65) rfl (fun g65 => ?_) (fun g65 => ?_)
           ·
            refine W112 ?_
            refine W28 ?_
            refine W137 ?_
            refine W13 ?_
            refine W87 ?_
            refine W36 ?_
            refine W313 ?_
            refine W88 ?_
            refine W0 ?_
            refine WC.cond rfl (fun h4 => ?_) (fun h4 => ?_)
            ·
             refine W336 ?_
             exact Fin.ret1 xI (_) (by (try simp only []); unfold chk; (try simp only [fineP] at *); repeat (split); all_goals omega) Tryz.results97 (.tmp rfl) xT (by simp)
            ·
             refine W274 ?_
             refine W260 ?_
             exact Fin.ret1 xI (_) (by (try simp only []); unfold chk; (try simp only [fineP] at *); repeat (split); all_goals omega) Tryz.results97 (.tmp rfl) xT (by simp)
           ·
            refine W255 ?_
            refine W267 ?_
            refine W2 ?_
            refine W88 ?_
            refine W281 ?_
            refine W311 ?_
            exact Fin.ret1 xI (_) (by (try simp only []); unfold chk; (try simp only [fineP] at *); repeat (split); all_goals omega) Tryz.results97 (.tmp rfl) xT (by simp)
         ·
          refine W243 ?_
          refine W57 ?_
          refine W285 ?_
          refine W125 ?_
          refine W281 ?_
          refine W269 ?_
          refine W244 ?_
          refine WL.split (t := 65) rfl (fun g65 => ?_) (fun g65 => ?_)
          ·
           refine W112 ?_
           refine W28 ?_
           refine W137 ?_
           refine W13 ?_
           refine W87 ?_
           refine W36 ?_
           refine W313 ?_
           refine W88 ?_
           refine W0 ?_
           refine WC.cond rfl (fun h4 => ?_) (fun h4 => ?_)
           ·
            refine W336 ?_
            exact Fin.ret1 xI (_) (by (try simp only []); unfold chk; (try simp only [fineP] at *); repeat (split); all_goals omega) Tryz.results97 (.tmp rfl) xT (by simp)
           ·
            refine W274 ?_
            refine W260 ?_
            exact Fin.ret1 xI (_) (by (try simp only []); unfold chk; (try simp only [fineP] at *); repeat (split); all_goals omega) Tryz.results97 (.tmp rfl) xT (by simp)
          ·
           refine W255 ?_
           refine W267 ?_
           refine W2 ?_
           refine W88 ?_
           refine W281 ?_
           refine W311 ?_
           exact Fin.ret1 xI (_) (by (try simp only []); unfold chk; (try simp only [fineP] at *); repeat (split); all_goals omega) Tryz.results97 (.tmp rfl) xT (by simp)
        ·
         refine W243 ?_
         refine W6 ?_
         refine W57 ?_
         refine W13 ?_
         refine W243 ?_
         refine W57 ?_
         refine W285 ?_
         refine W125 ?_
         refine W281 ?_
         refine W269 ?_
         refine W244 ?_
         refine WL.split (t := 65) rfl (fun g65 => ?_) (fun g65 => ?_)
         ·
          refine W112 ?_
          refine W28 ?_
          refine W137 ?_
          refine W13 ?_
          refine W87 ?_
          refine W36 ?_
          refine W313 ?_
          refine W88 ?_
          refine W0 ?_
          refine WC.cond rfl (fun h4 => ?_) (fun h4 => ?_)
          ·
           refine W336 ?_
           exact Fin.ret1 xI (_) (by (try simp only []); unfold chk; (try simp only [fineP] at *); repeat (split); all_goals omega) Tryz.results97 (.tmp rfl) xT (by simp)
          ·
           refine W274 ?_
           refine W260 ?_
           exact Fin.ret1 xI (_) (by (try simp only []); unfold chk; (try simp only [fineP] at *); repeat (split); all_goals omega) Tryz.results97 (.tmp rfl) xT (by simp)
         ·
          refine W255 ?_
          refine W267 ?_
          refine W2 ?_
          refine W88 ?_
          refine W281 ?_
          refine W311 ?_
          exact Fin.ret1 xI (_) (by (try simp only []); unfold chk; (try simp only [fineP] at *); repeat (split); all_goals omega) Tryz.results97 (.tmp rfl) xT (by simp)
set_option maxHeartbeats 400000 in
set_option maxRecDepth 10000 in
theorem f88_spec (A B : Option Addr) (m c m2 c2 : Nat) (xs bs : List UInt8) :
  Spec Tryz.prog 88 [.slice A m c, .slice B m2 c2] [] [rd (.slice A m c) 1 m (bvs xs), rd (.slice B m2 c2) 1 m2 (bvs bs)] (R := Unit) (fun _ => True) (fun _ => .bool (decide (xs = bs))) (fun _ => []) := by
 refine Spec.intro Tryz.func88 Tryz.ntmps88 rfl (by simp) (by simp) fun w0 => ?_
 refine W283 ?_
 refine W76 ?_
 refine W261 ?_
 refine wlv (op_bytesStr Tryz.underlying30 Tryz.underlying5 Tryz.underlying9 (lt_ rfl) rfl xS) rfl ?_
 refine W4 ?_
 refine wlv (op_bytesStr Tryz.underlying30 Tryz.underlying5 Tryz.underlying9 (lt_ rfl) rfl xS) rfl ?_
 refine wlv (op_eqls (lt_ rfl) rfl rfl) rfl ?_
 refine W241 ?_
 refine W322 ?_
 exact Fin.ret1 xI (()) (trivial) Tryz.results88 (.tmp rfl) xT (by simp)
set_option maxHeartbeats 400000 in
set_option maxRecDepth 10000 in
theorem f91_spec (A : Option Addr) (m c : Nat) (bs : List UInt8) (hm : bs.length = m) (hmx : m ≤ 140737488355328) :
  Spec Tryz.prog 91 [.slice A m c] [] [rd (.slice A m c) 1 m (bvs bs)] (R := Option Addr × Nat) (fun _ => True) (fun r => .slice r.1 m r.2) (fun r => [own (.slice r.1 m r.2) 5 1 m (bvs bs)]) := by
 refine Spec.intro Tryz.func91 Tryz.ntmps91 rfl (by simp) (by simp) fun w0 => ?_
 refine W300 ?_
 refine W282 ?_
 refine wlv (op_eqlsnil Tryz.underlying30 (by decide) rfl rfl) rfl ?_
 refine W2 ?_
 refine W79 ?_
 refine W0 ?_
 refine WC.cond rfl (fun h1 => ?_) (fun h1 => ?_)
 ·
  subst h1
  refine WC.none0 xS (by decide) (fun hm0 => ?_)
  subst hm0
  obtain rfl : bs = [] := List.eq_nil_of_length_eq_zero hm
  refine WC.nilslice 5 1 ?_
  refine W336 ?_
  exact Fin.ret1 xI ((none, 0)) (trivial) Tryz.results91 (.tmp rfl) xT (by simp)
 ·
  refine W274 ?_
  refine wl1 (op_lit0 Tryz.underlying30 ti5 (lt_ rfl)) rfl fun b1 => ?_
  refine W4 ?_
  refine wl2 (op_append0 Tryz.underlying30 ti5 rfl (by decide) (lt_ rfl) rfl rfl xK xS xO (by omega) (by omega)) rfl fun A1 c1 => ?_
  refine W260 ?_
  exact Fin.ret1 xI ((_, _)) (trivial) Tryz.results91 (.tmp rfl) xT (by simp)
set_option maxHeartbeats 400000 in
set_option maxRecDepth 10000 in
theorem f90_spec (A : Option Addr) (m c : Nat) (bs : List UInt8) (hm : bs.length = m) :
  Spec Tryz.prog 90 [.slice A m c] [] [rd (.slice A m c) 1 m (bvs bs)] (R := Bool) (fun b => b = blank bs) (fun b => .bool b) (fun _ => []) := by
 refine Spec.intro Tryz.func90 Tryz.ntmps90 rfl (by simp) (by simp) fun w0 => ?_
 refine W300 ?_
 refine W282 ?_
 refine W38 ?_
 refine W272 ?_
 refine WX.regs (L' := [(5, _), (6, _), (7, _)]) ?_
 refine W294 ?_
 refine WC.loop (X := Nat) (fun i => m - i) (fun i => i ≤ m ∧ blank (bs.take i) = true) (fun i => [(5, .slice A m c), (6, .int .i64 (m : Int)), (7, .int .i64 (i : Int))]) (fun i => [rd (.slice A m c) 1 m (bvs bs), frameC w0 (MutF [])]) (0) (⟨by omega, rfl⟩) (fun a w hs => hs.sub xY xT) ?_
 rintro i ⟨hi, hb⟩
 try dsimp only
 refine W312 ?_
 refine WX.regs (L' := [(5, _), (6, _), (7, _), (8, _)]) ?_
 refine W327 ?_
 refine WC.cond rfl (fun h1 => ?_) (fun h1 => ?_)
 ·
  refine W298 ?_
  refine W318 ?_
  refine W241 ?_
  refine W99 ?_
  refine W261 ?_
  refine wlv (op_neq8 (b := 0) (lt_ rfl) rfl rfl) rfl ?_
  refine W2 ?_
  refine WX.regs (L' := [(5, _), (6, _), (7, _), (12, _)]) ?_
  refine W0 ?_
  refine WC.cond rfl (fun h2 => ?_) (fun h2 => ?_)
  ·
   refine W304 ?_
   refine W315 ?_
   exact Fin.ret1 xI (_) ((blank_not bs i (by omega) h2).symm) Tryz.results90 (.tmp rfl) xT (by simp)
  ·
   refine W291 ?_
   refine W0 ?_
   refine W3 ?_
   refine WL.capm xS (fun hcm => ?_)
   refine W16 ?_
   refine W272 ?_
   refine WX.regs (L' := [(5, _), (6, _), (7, _)]) ?_
   refine WX.meet (i + 1) ⟨⟨by omega, blank_step bs i (by omega) hb (by simpa using h2)⟩, by omega⟩ (fun a w hs => hs.sub xY xT)
 ·
  refine W284 ?_
  refine W260 ?_
  exact Fin.ret1 xI (_) (by rw [← hb, show bs.take i = bs by rw [List.take_of_length_le (by omega)]]) Tryz.results90 (.tmp rfl) xT (by simp)
end Go.Proofs.YtkjlbedebmffgaaGreat.Sx
namespace Go.Proofs.YtkjlbedebmffgaaGreat.Sx
open Go.RowKit Go.Proofs.YtkjlbedebmffgaaGreat.Ty
attribute [local irreducible] blk own rd rx frameC
theorem ag160 : Agg Tryz.prog 160 2 := Agg.mk' Tryz.underlying160 rfl (by kernel_rfl)
def hdr (k g n i c m : Nat) : List UInt8 := be g 4 ++ (be n 4 ++ (be k 2 ++ (be i 2 ++ (be c 2 ++ be m 2))))
theorem hdr_length (k g n i c m : Nat) : (hdr k g n i c m).length = 16 := by simp [hdr]
def enc (k g n i c : Nat) (bs : List UInt8) : List UInt8 := sealB (hdr k g n i c bs.length ++ bs)
theorem enc_length (k g n i c : Nat) (bs : List UInt8) : (enc k g n i c bs).length = 256 := sealB_length _
def encP (k g n i c : Int) (bs : List UInt8) : List UInt8 := if chk k g n i c bs.length = 0 then enc k.toNat g.toNat n.toNat i.toNat c.toNat bs else []
def fil (pre : List UInt8) : List UInt8 := pre ++ List.replicate (256 - pre.length) 0
theorem fil_length (pre : List UInt8) (h : pre.length ≤ 256) : (fil pre).length = 256 := by simp [fil]; omega
theorem pset_bvs (cur ys : List UInt8) (m : Nat) : pset (bvs cur) m (bvs ys) = bvs (cur.take m ++ ys ++ cur.drop (m + ys.length)) := by
 simp [pset, bvs]
theorem fil_app (pre ys : List UInt8) (m : Nat) (hm : pre.length = m) (h : m + ys.length ≤ 256) : pset (bvs (fil pre)) m (bvs ys) = bvs (fil (pre ++ ys)) := by
 subst hm
 rw [pset_bvs]
 unfold fil
 congr 1
 rw [List.take_left' rfl, List.drop_append, List.drop_eq_nil_of_le (by omega), List.nil_append, List.drop_replicate, List.length_append]
 congr 2
 omega
def fo : Nat → Nat | 0 => 1 | 1 => 2 | 2 => 0 | 3 => 3 | 4 => 4 | _ => 6
def fz : Nat → Nat | 0 => 4 | 1 => 4 | _ => 2
theorem fz_le (j : Nat) : 2 ≤ fz j ∧ fz j ≤ 4 := by
 match j with
 | 0 | 1 => decide
 | j + 2 => simp [fz]
def fv (k g n i c m : Nat) : Nat → Nat | 0 => g | 1 => n | 2 => k | 3 => i | 4 => c | _ => m
def hp (k g n i c m : Nat) : Nat → List UInt8
 | 0 => []
 | j + 1 => hp k g n i c m j ++ be (fv k g n i c m j) (fz j)
theorem hp_end (k g n i c m : Nat) : hp k g n i c m 6 = hdr k g n i c m := by simp [hp, hdr, fv, fz]
theorem hp_len (k g n i c m j : Nat) (h : j ≤ 6) : (hp k g n i c m j).length ≤ 16 := by
 have e : ∀ d, (hp k g n i c m j).length ≤ (hp k g n i c m (j + d)).length := by
  intro d
  induction d with
  | zero => exact Nat.le_refl _
  | succ d ih => exact Nat.le_trans ih (by rw [← Nat.add_assoc]; simp [hp])
 have h2 := e (6 - j)
 rw [Nat.add_sub_cancel' h, hp_end, hdr_length] at h2
 exact h2
def hdc (k g n i c : Int) (v : Value) (m : Int) : List Value := pcells k g n i c v ++ [.int .i64 m]
theorem hdc_at (k g n i c m : Nat) (v : Value) (j : Nat) (h : j < 6) : (hdc k g n i c v m)[fo j]? = some (.int .i64 (fv k g n i c m j : Nat)) := by
 match j, h with
 | 0, _ | 1, _ | 2, _ | 3, _ | 4, _ | 5, _ => rfl
def fcells (b : Nat) : List Value := [.pointer (some ⟨b, 1, none⟩), .int .i64 4, .pointer (some ⟨b, 2, none⟩), .int .i64 4, .pointer (some ⟨b, 0, none⟩), .int .i64 2, .pointer (some ⟨b, 3, none⟩), .int .i64 2, .pointer (some ⟨b, 4, none⟩), .int .i64 2, .pointer (some ⟨b, 6, none⟩), .int .i64 2]
theorem fcells_at (b j : Nat) (h : j < 6) : ((fcells b).drop (j * 2)).take 2 = [.pointer (some ⟨b, fo j, none⟩), .int .i64 ((fz j : Nat) : Int)] := by
 match j, h with
 | 0, _ | 1, _ | 2, _ | 3, _ | 4, _ | 5, _ => rfl
theorem be_take (n s : Nat) : ∀ r, r < s → (be n s).take (r + 1) = (be n s).take r ++ [UInt8.ofNat (n / 256 ^ (s - 1 - r))] := by
 induction s with
 | zero => intro r h; omega
 | succ s ih =>
  intro r h
  cases r with
  | zero => simp [be]
  | succ r =>
   simp only [be, List.take_succ_cons, List.cons_append]
   rw [ih r (by omega)]
   have : s + 1 - 1 - (r + 1) = s - 1 - r := by omega
   rw [this]
set_option maxHeartbeats 400000 in
set_option maxRecDepth 10000 in
theorem f92_spec (k g n i c : Int) (A : Option Addr) (m cap : Nat) :
  Spec Tryz.prog 92 [.agg (pcells k g n i c (.slice A m cap)).toArray] [] [] (R := Int) (fun r => r = chk k g n i c m) (fun r => .int .i64 r) (fun _ => []) := by
 have hw : 1 ≤ c ∧ c ≤ 586 → IntKind.i64.wrap (c - 1) = c - 1 := fun h => wrap_in (by omega)
 refine Spec.intro Tryz.func92 Tryz.ntmps92 rfl (by simp) (by simp) fun w0 => ?_
 refine W240 ?_
 refine wl1 (op_box (lt_ rfl) rfl rfl) rfl fun b1 => ?_
 refine W358 ?_
 refine W249 ?_
 refine wlv (op_fieldAddr fo123_3 (lt_ rfl) rfl) rfl ?_
 refine W21 ?_
 refine wlv (op_fieldAddr fo123_4 (lt_ rfl) rfl) rfl ?_
 refine W21 ?_
 refine wlv (op_subw (by decide) rfl rfl) rfl ?_
 refine W42 ?_
 refine W241 ?_
 refine WX.regs (L' := [(1, _), (3, _)]) ?_
 refine W249 ?_
 refine W126 ?_
 refine W52 ?_
 refine W38 ?_
 refine W241 ?_
 refine WX.regs (L' := [(1, _), (3, _), (4, _)]) ?_
 refine W0 ?_
 refine W254 ?_
 refine W240 ?_
 refine wlv (op_loadAll ag123 (lt_ rfl) rfl xM xL) rfl ?_
 refine wlx (op_call (f103_spec k g n i c (.slice A m cap)) ca103 (lt_ rfl) rfl) rfl ?_
 rintro _ _
 refine wlx (op_call (f70_spec _ _ _) ca70 (lt_ rfl) rfl) rfl ?_
 rintro _ rfl
 refine W86 ?_
 refine W4 ?_
 refine WL.split (t := 19) rfl (fun g19 => ?_) (fun g19 => ?_)
 ·
  refine W302 ?_
  refine W4 ?_
  refine W302 ?_
  refine W4 ?_
  refine W255 ?_
  refine W302 ?_
  refine W241 ?_
  refine WX.regs (L' := [(1, _), (3, _), (4, _), (14, _)]) ?_
  refine W362 ?_
  refine W304 ?_
  exact Fin.ret1 xI (_) (by (try simp only []); unfold chk; (try simp only [fineP] at *); repeat (split); all_goals omega) Tryz.results92 (.tmp rfl) xT (by simp)
 ·
  refine W339 ?_
  refine W98 ?_
  refine W15 ?_
  refine W4 ?_
  refine WL.split (t := 24) rfl (fun g24 => ?_) (fun g24 => ?_)
  ·
   refine W302 ?_
   refine W4 ?_
   refine W255 ?_
   refine W302 ?_
   refine W241 ?_
   refine WX.regs (L' := [(1, _), (3, _), (4, _), (14, _)]) ?_
   refine W362 ?_
   refine W304 ?_
   exact Fin.ret1 xI (_) (by (try simp only []); unfold chk; (try simp only [fineP] at *); repeat (split); all_goals omega) Tryz.results92 (.tmp rfl) xT (by simp)
  ·
   refine W339 ?_
   refine W36 ?_
   refine W15 ?_
   refine W4 ?_
   refine WL.split (t := 29) rfl (fun g29 => ?_) (fun g29 => ?_)
   ·
    refine W255 ?_
    refine W302 ?_
    refine W241 ?_
    refine WX.regs (L' := [(1, _), (3, _), (4, _), (14, _)]) ?_
    refine W362 ?_
    refine W304 ?_
    exact Fin.ret1 xI (_) (by (try simp only []); unfold chk; (try simp only [fineP] at *); repeat (split); all_goals omega) Tryz.results92 (.tmp rfl) xT (by simp)
   ·
    refine W127 ?_
    refine W28 ?_
    refine W339 ?_
    refine wlgv (op_sub (lt_ rfl) rfl rfl (by omega)) rfl rfl rfl ?_
    refine wlgx (op_call (f93_spec _ _) ca93 (lt_ rfl) rfl) rfl rfl rfl ?_
    rintro _ rfl
    refine wlgv (op_notp (lt_ rfl) rfl) rfl rfl rfl ?_
    refine W15 ?_
    refine W241 ?_
    refine WX.regs (L' := [(1, _), (3, _), (4, _), (14, _)]) ?_
    refine W0 ?_
    refine WC.cond rfl (fun h1 => ?_) (fun h1 => ?_)
    ·
     refine W304 ?_
     exact Fin.ret1 xI (_) (by (try simp only []); unfold chk; (try simp only [fineP] at *); repeat (split); all_goals omega) Tryz.results92 (.tmp rfl) xT (by simp)
    ·
     refine W351 ?_
     refine W56 ?_
     refine W241 ?_
     refine WX.regs (L' := [(1, _), (3, _), (4, _), (38, _)]) ?_
     refine W0 ?_
     refine WC.cond rfl (fun h2 => ?_) (fun h2 => ?_)
     ·
      refine W304 ?_
      exact Fin.ret1 xI (_) (by (try simp only []); unfold chk; (try simp only [fineP] at *); repeat (split); all_goals omega) Tryz.results92 (.tmp rfl) xT (by simp)
     ·
      refine W351 ?_
      refine W25 ?_
      refine W4 ?_
      refine WL.split (t := 44) rfl (fun g44 => ?_) (fun g44 => ?_)
      ·
       refine W13 ?_
       refine wlgv (op_notp (lt_ rfl) rfl) rfl rfl rfl ?_
       refine W17 ?_
       refine W4 ?_
       refine WL.split (t := 48) rfl (fun g48 => ?_) (fun g48 => ?_)
       ·
        refine W243 ?_
        refine W37 ?_
        refine W37 ?_
        refine W37 ?_
        refine W243 ?_
        refine W37 ?_
        refine W37 ?_
        refine W257 ?_
        refine W241 ?_
        refine W128 ?_
        refine W362 ?_
        refine W304 ?_
        exact Fin.ret1 xI (_) (by (try simp only []); unfold chk; (try simp only [fineP] at *); repeat (split); all_goals omega) Tryz.results92 (.tmp rfl) xT (by simp)
       ·
        refine W345 ?_
        refine WL.split (t := 50) rfl (fun g50 => ?_) (fun g50 => ?_)
        ·
         refine W339 ?_
         refine W36 ?_
         refine W68 ?_
         refine W13 ?_
         refine WL.split (t := 55) rfl (fun g55 => ?_) (fun g55 => ?_)
         ·
          refine W13 ?_
          refine W62 ?_
          refine W68 ?_
          refine W15 ?_
          refine W241 ?_
          refine W128 ?_
          refine W0 ?_
          refine WC.cond rfl (fun h3 => ?_) (fun h3 => ?_)
          ·
           refine W304 ?_
           exact Fin.ret1 xI (_) (by (try simp only []); unfold chk; (try simp only [fineP] at *); repeat (split); all_goals omega) Tryz.results92 (.tmp rfl) xT (by simp)
          ·
           refine W240 ?_
           refine W244 ?_
           refine WL.split (t := 62) rfl (fun g62 => ?_) (fun g62 => ?_)
           ·
            refine W127 ?_
            refine W28 ?_
            refine W138 ?_
            refine W13 ?_
            refine W139 ?_
            refine W36 ?_
            refine W17 ?_
            refine W241 ?_
            refine W89 ?_
            refine W0 ?_
            refine WC.cond rfl (fun h4 => ?_) (fun h4 => ?_)
            ·
             refine W304 ?_
             exact Fin.ret1 xI (_) (by (try simp only []); unfold chk; (try simp only [fineP] at *); repeat (split); all_goals omega) Tryz.results92 (.tmp rfl) xT (by simp)
            ·
             refine W291 ?_
             refine W311 ?_
             exact Fin.ret1 xI (_) (by (try simp only []); unfold chk; (try simp only [fineP] at *); repeat (split); all_goals omega) Tryz.results92 (.tmp rfl) xT (by simp)
           ·
            refine W255 ?_
            refine W267 ?_
            refine W241 ?_
            refine W89 ?_
            refine W281 ?_
            refine W18 ?_
            refine W311 ?_
            exact Fin.ret1 xI (_) (by (try simp only []); unfold chk; (try simp only [fineP] at *); repeat (split); all_goals omega) Tryz.results92 (.tmp rfl) xT (by simp)
         ·
          refine W243 ?_
          refine W57 ?_
          refine W15 ?_
          refine W241 ?_
          refine W128 ?_
          refine W0 ?_
          refine W23 ?_
          refine W240 ?_
          refine W244 ?_
          refine WL.split (t := 62) rfl (fun g62 => ?_) (fun g62 => ?_)
          ·
           refine W127 ?_
           refine W28 ?_
           refine W138 ?_
           refine W13 ?_
           refine W139 ?_
           refine W36 ?_
           refine W17 ?_
           refine W241 ?_
           refine W89 ?_
           refine W0 ?_
           refine WC.cond rfl (fun h4 => ?_) (fun h4 => ?_)
           ·
            refine W304 ?_
            exact Fin.ret1 xI (_) (by (try simp only []); unfold chk; (try simp only [fineP] at *); repeat (split); all_goals omega) Tryz.results92 (.tmp rfl) xT (by simp)
           ·
            refine W291 ?_
            refine W311 ?_
            exact Fin.ret1 xI (_) (by (try simp only []); unfold chk; (try simp only [fineP] at *); repeat (split); all_goals omega) Tryz.results92 (.tmp rfl) xT (by simp)
          ·
           refine W255 ?_
           refine W267 ?_
           refine W241 ?_
           refine W89 ?_
           refine W281 ?_
           refine W18 ?_
           refine W311 ?_
           exact Fin.ret1 xI (_) (by (try simp only []); unfold chk; (try simp only [fineP] at *); repeat (split); all_goals omega) Tryz.results92 (.tmp rfl) xT (by simp)
        ·
         refine W243 ?_
         refine W6 ?_
         refine W57 ?_
         refine W13 ?_
         refine W243 ?_
         refine W57 ?_
         refine W15 ?_
         refine W241 ?_
         refine W128 ?_
         refine W0 ?_
         refine W23 ?_
         refine W240 ?_
         refine W244 ?_
         refine WL.split (t := 62) rfl (fun g62 => ?_) (fun g62 => ?_)
         ·
          refine W127 ?_
          refine W28 ?_
          refine W138 ?_
          refine W13 ?_
          refine W139 ?_
          refine W36 ?_
          refine W17 ?_
          refine W241 ?_
          refine W89 ?_
          refine W0 ?_
          refine WC.cond rfl (fun h4 => ?_) (fun h4 => ?_)
          ·
           refine W304 ?_
           exact Fin.ret1 xI (_) (by (try simp only []); unfold chk; (try simp only [fineP] at *); repeat (split); all_goals omega) Tryz.results92 (.tmp rfl) xT (by simp)
          ·
           refine W291 ?_
           refine W311 ?_
           exact Fin.ret1 xI (_) (by (try simp only []); unfold chk; (try simp only [fineP] at *); repeat (split); all_goals omega) Tryz.results92 (.tmp rfl) xT (by simp)
         ·
          refine W255 ?_
          refine W267 ?_
          refine W241 ?_
          refine W89 ?_
          refine W281 ?_
          refine W18 ?_
          refine W311 ?_
          exact Fin.ret1 xI (_) (by (try simp only []); unfold chk; (try simp only [fineP] at *); repeat (split); all_goals omega) Tryz.results92 (.tmp rfl) xT (by simp)
      ·
       refine W267 ?_
       refine W4 ?_
       refine W345 ?_
       refine WL.split (t := 50) rfl (fun g50 => ?_) (fun g50 => ?_)
       ·
        refine W339 ?_
        refine W36 ?_
        refine W68 ?_
        refine W13 ?_
        refine WL.split (t := 55) rfl (fun g55 => ?_) (fun g55 => ?_)
        ·
         refine W13 ?_
         refine W62 ?_
         refine W68 ?_
         refine W15 ?_
         refine W241 ?_
         refine W128 ?_
         refine W0 ?_
         refine WC.cond rfl (fun h3 => ?_) (fun h3 => ?_)
         ·
          refine W304 ?_
          exact Fin.ret1 xI (_) (by (try simp only []); unfold chk; (try simp only [fineP] at *); repeat (split); all_goals omega) Tryz.results92 (.tmp rfl) xT (by simp)
         ·
          refine W240 ?_
          refine W244 ?_
          refine WL.split (t := 62) rfl (fun g62 => ?_) (fun g62 => ?_)
          ·
           refine W127 ?_
           refine W28 ?_
           refine W138 ?_
           refine W13 ?_
           refine W139 ?_
           refine W36 ?_
           refine W17 ?_
           refine W241 ?_
           refine W89 ?_
           refine W0 ?_
           refine WC.cond rfl (fun h4 => ?_) (fun h4 => ?_)
           ·
            refine W304 ?_
            exact Fin.ret1 xI (_) (by (try simp only []); unfold chk; (try simp only [fineP] at *); repeat (split); all_goals omega) Tryz.results92 (.tmp rfl) xT (by simp)
           ·
            refine W291 ?_
            refine W311 ?_
            exact Fin.ret1 xI (_) (by (try simp only []); unfold chk; (try simp only [fineP] at *); repeat (split); all_goals omega) Tryz.results92 (.tmp rfl) xT (by simp)
          ·
           refine W255 ?_
           refine W267 ?_
           refine W241 ?_
           refine W89 ?_
           refine W281 ?_
           refine W18 ?_
           refine W311 ?_
           exact Fin.ret1 xI (_) (by (try simp only []); unfold chk; (try simp only [fineP] at *); repeat (split); all_goals omega) Tryz.results92 (.tmp rfl) xT (by simp)
        ·
         refine W243 ?_
         refine W57 ?_
         refine W15 ?_
         refine W241 ?_
         refine W128 ?_
         refine W0 ?_
         refine W23 ?_
         refine W240 ?_
         refine W244 ?_
         refine WL.split (t := 62) rfl (fun g62 => ?_) (fun g62 => ?_)
         ·
          refine W127 ?_
          refine W28 ?_
          refine W138 ?_
          refine W13 ?_
          refine W139 ?_
          refine W36 ?_
          refine W17 ?_
          refine W241 ?_
          refine W89 ?_
          refine W0 ?_
          refine WC.cond rfl (fun h4 => ?_) (fun h4 => ?_)
          ·
           refine W304 ?_
           exact Fin.ret1 xI (_) (by (try simp only []); unfold chk; (try simp only [fineP] at *); repeat (split); all_goals omega) Tryz.results92 (.tmp rfl) xT (by simp)
          ·
           refine W291 ?_
           refine W311 ?_
           exact Fin.ret1 xI (_) (by (try simp only []); unfold chk; (try simp only [fineP] at *); repeat (split); all_goals omega) Tryz.results92 (.tmp rfl) xT (by simp)
         ·
          refine W255 ?_
          refine W267 ?_
          refine W241 ?_
          refine W89 ?_
          refine W281 ?_
          refine W18 ?_
          refine W311 ?_
          exact Fin.ret1 xI (_) (by (try simp only []); unfold chk; (try simp only [fineP] at *); repeat (split); all_goals omega) Tryz.results92 (.tmp rfl) xT (by simp)
       ·
        refine W243 ?_
        refine W6 ?_
        refine W57 ?_
        refine W13 ?_
        refine W243 ?_
        refine W57 ?_
        refine W15 ?_
        refine W241 ?_
        refine W128 ?_
        refine W0 ?_
        refine W23 ?_
        refine W240 ?_
        refine W244 ?_
        refine WL.split (t := 62) rfl (fun g62 => ?_) (fun g62 => ?_)
        ·
         refine W127 ?_
         refine W28 ?_
         refine W138 ?_
         refine W13 ?_
         refine W139 ?_
         refine W36 ?_
         refine W17 ?_
         refine W241 ?_
         refine W89 ?_
         refine W0 ?_
         refine WC.cond rfl (fun h4 => ?_) (fun h4 => ?_)
         ·
          refine W304 ?_
          exact Fin.ret1 xI (_) (by (try simp only []); unfold chk; (try simp only [fineP] at *); repeat (split); all_goals omega) Tryz.results92 (.tmp rfl) xT (by simp)
         ·
          refine W291 ?_
          refine W311 ?_
          exact Fin.ret1 xI (_) (by (try simp only []); unfold chk; (try simp only [fineP] at *); repeat (split); all_goals omega) Tryz.results92 (.tmp rfl) xT (by simp)
        ·
         refine W255 ?_
         refine W267 ?_
         refine W241 ?_
         refine W89 ?_
         refine W281 ?_
         refine W18 ?_
         refine W311 ?_
         exact Fin.ret1 xI (_) (by (try simp only []); unfold chk; (try simp only [fineP] at *); repeat (split); all_goals omega) Tryz.results92 (.tmp rfl) xT (by simp)
set_option maxHeartbeats 400000 in
set_option maxRecDepth 10000 in
theorem f99_spec (k g n i c : Nat) (A : Option Addr) (m cap : Nat) (bs : List UInt8) (hm : bs.length = m) (hk : k < 65536) (hg : g < 2147483648) (hn : n < 2147483648) (hi : i < 65536) (hc : c < 65536) (h224 : m ≤ 224) :
  Spec Tryz.prog 99 [.agg (pcells k g n i c (.slice A m cap)).toArray] [] [rd (.slice A m cap) 1 m (bvs bs)] (R := Option Addr × Nat) (fun _ => True) (fun r => .slice r.1 256 r.2) (fun r => [own (.slice r.1 256 r.2) 5 1 256 (bvs (enc k g n i c bs))]) := by
 refine Spec.intro Tryz.func99 Tryz.ntmps99 rfl (by simp) (by simp) fun w0 => ?_
 refine W240 ?_
 refine wl1 (op_box (lt_ rfl) rfl rfl) rfl fun b1 => ?_
 refine W358 ?_
 refine W0 ?_
 refine W301 ?_
 refine WA.take (i := 0) rfl (by kernel_rfl) (fun _ _ _ h => h) rfl (op_fieldAddr fo139_1 (lt_ rfl) rfl) xT ?_
 refine WA.take (i := 1) rfl (by kernel_rfl) (fun _ _ _ h => h) rfl (op_load1 fl3 (lt_ rfl) rfl xM rfl) xT ?_
 refine WA.take (i := 3) rfl (by kernel_rfl) (fun _ _ _ h => h) rfl (op_fieldAddr fo139_2 (lt_ rfl) rfl) xT ?_
 refine W129 ?_
 refine WA.stepx (i := 2) (by kernel_rfl) rfl rfl (op_call (f108_spec g 4 (by omega) (by decide)) ca108 (lt_ rfl) rfl) (fun _ r => xT) ?_
 rintro ⟨D1, e1⟩ _
 refine WA.stepx (i := 5) (by kernel_rfl) rfl rfl (op_call (f108_spec n 4 (by omega) (by decide)) ca108 (lt_ rfl) rfl) (fun _ r => xT) ?_
 rintro ⟨D2, e2⟩ _
 refine WA.step2 (i := 6) (by kernel_rfl) rfl rfl (op_append Tryz.underlying30 ti5 rfl (by decide) (lt_ rfl) rfl rfl xK xS xO (by omega) (by omega)) (fun _ A c => xT) fun A1 c1 => ?_
 refine WA.take (i := 7) rfl (by kernel_rfl) (fun _ _ _ h => h) rfl (op_assign (lt_ rfl) rfl) xT ?_
 refine W19 ?_
 refine WX.regs (L' := [(1, _), (3, _)]) ?_
 refine W327 ?_
 refine WC.drawn (Hs := [blk b1 (pcells k g n i c (.slice A m cap)) 139]) mo 999 ?_
 refine W29 ?_
 refine WA.take (i := 1) rfl (by kernel_rfl) (fun _ _ _ h => h) rfl (op_fieldAddr fo139_0 (lt_ rfl) rfl) xT ?_
 refine W130 ?_
 refine WA.take (i := 5) rfl (by kernel_rfl) (fun _ _ _ h => h) rfl (op_fieldAddr fo139_3 (lt_ rfl) rfl) xT ?_
 refine W167 ?_
 refine WA.stepx (i := 3) (by kernel_rfl) rfl rfl (op_call (f108_spec k 2 (by omega) (by decide)) ca108 (lt_ rfl) rfl) (fun _ r => xT) ?_
 rintro ⟨D3, e3⟩ _
 refine WA.step2 (i := 4) (by kernel_rfl) rfl rfl (op_append Tryz.underlying30 ti5 rfl (by decide) (lt_ rfl) rfl rfl xK xS xO (by omega) (by omega)) (fun _ A c => xT) fun A2 c2 => ?_
 refine WA.stepx (i := 7) (by kernel_rfl) rfl rfl (op_call (f108_spec i 2 (by omega) (by decide)) ca108 (lt_ rfl) rfl) (fun _ r => xT) ?_
 rintro ⟨D4, e4⟩ _
 refine WA.step2 (i := 8) (by kernel_rfl) rfl rfl (op_append Tryz.underlying30 ti5 rfl (by decide) (lt_ rfl) rfl rfl xK xS xO (by omega) (by omega)) (fun _ A c => xT) fun A3 c3 => ?_
 refine WA.take (i := 9) rfl (by kernel_rfl) (fun _ _ _ h => h) rfl (op_assign (lt_ rfl) rfl) xT ?_
 refine W19 ?_
 refine WX.regs (L' := [(1, _), (3, _)]) ?_
 refine W327 ?_
 refine WC.drawn (Hs := [blk b1 (pcells k g n i c (.slice A m cap)) 139]) mo 999 ?_
 refine W29 ?_
 refine WA.take (i := 1) rfl (by kernel_rfl) (fun _ _ _ h => h) rfl (op_fieldAddr fo139_4 (lt_ rfl) rfl) xT ?_
 refine W130 ?_
 refine WA.take (i := 5) rfl (by kernel_rfl) (fun _ _ _ h => h) rfl (op_fieldAddr fo139_5 (lt_ rfl) rfl) xT ?_
 refine WA.take (i := 6) rfl (by kernel_rfl) (fun _ _ _ h => h) rfl (op_load1 fl30 (lt_ rfl) rfl xM rfl) xT ?_
 refine WA.take (i := 7) rfl (by kernel_rfl) (fun _ _ _ h => h) rfl (op_len Tryz.underlying30 (lt_ rfl) rfl) xT ?_
 refine WA.stepx (i := 3) (by kernel_rfl) rfl rfl (op_call (f108_spec c 2 (by omega) (by decide)) ca108 (lt_ rfl) rfl) (fun _ r => xT) ?_
 rintro ⟨D5, e5⟩ _
 refine WA.step2 (i := 4) (by kernel_rfl) rfl rfl (op_append Tryz.underlying30 ti5 rfl (by decide) (lt_ rfl) rfl rfl xK xS xO (by omega) (by omega)) (fun _ A c => xT) fun A4 c4 => ?_
 refine WA.stepx (i := 8) (by kernel_rfl) rfl rfl (op_call (f108_spec m 2 (by omega) (by decide)) ca108 (lt_ rfl) rfl) (fun _ r => xT) ?_
 rintro ⟨D6, e6⟩ _
 refine WA.step2 (i := 9) (by kernel_rfl) rfl rfl (op_append Tryz.underlying30 ti5 rfl (by decide) (lt_ rfl) rfl rfl xK xS xO (by omega) (by omega)) (fun _ A c => xT) fun A5 c5 => ?_
 refine W163 ?_
 refine W19 ?_
 refine WX.regs (L' := [(1, _), (3, _)]) ?_
 refine W261 ?_
 refine wlv (op_fieldAddr fo139_5 (lt_ rfl) rfl) rfl ?_
 refine W52 ?_
 refine wl2 (op_append Tryz.underlying30 ti5 rfl (by decide) (lt_ rfl) rfl rfl xK xS xO (by omega) (by omega)) rfl fun A6 c6 => ?_
 rw [show bvs (be g 4) ++ bvs (be n 4) ++ bvs (be k 2) ++ bvs (be i 2) ++ bvs (be c 2) ++ bvs (be m 2) ++ bvs bs = bvs (be g 4 ++ be n 4 ++ be k 2 ++ be i 2 ++ be c 2 ++ be m 2 ++ bs) by simp only [bvs_append]]
 refine wlx (op_call (f109_spec _ (4 + 4 + 2 + 2 + 2 + 2 + m) _ (be g 4 ++ be n 4 ++ be k 2 ++ be i 2 ++ be c 2 ++ be m 2 ++ bs) (by simp; omega) (by omega)) ca109 (lt_ rfl) rfl) rfl ?_
 rintro ⟨D7, e7⟩ _
 rw [show sealB (be g 4 ++ be n 4 ++ be k 2 ++ be i 2 ++ be c 2 ++ be m 2 ++ bs) = enc k g n i c bs by unfold enc hdr; rw [hm]; simp only [List.append_assoc]]
 refine W260 ?_
 exact Fin.ret1 xI ((D7, e7)) (trivial) Tryz.results99 (.tmp rfl) xT (by simp)
set_option maxHeartbeats 400000 in
set_option maxRecDepth 10000 in
theorem f89_spec (b : Nat) :
  Spec Tryz.prog 89 [.pointer (some ⟨b, 0, none⟩)] [] [] (R := Unit) (fun _ => True) (fun _ => .agg (fcells b).toArray) (fun _ => []) := by
 refine Spec.intro Tryz.func89 Tryz.ntmps89 rfl (by simp) (by simp) fun w0 => ?_
 refine W240 ?_
 refine wl1 (op_alloc ti161 (lt_ rfl)) rfl fun b1 => ?_
 refine W2 ?_
 refine W63 ?_
 refine W327 ?_
 refine WC.drawnH mo 30 ?_
 refine W29 ?_
 refine W69 ?_
 refine WA.take (i := 2) rfl (by kernel_rfl) (fun _ _ _ h => h) rfl (op_fieldAddr fo158_0 (lt_ rfl) rfl) xT ?_
 refine WA.take (i := 3) rfl (by kernel_rfl) (fun _ _ _ h => h) rfl (op_fieldAddr fo123_1 (lt_ rfl) rfl) xT ?_
 refine WA.take (i := 4) rfl (by kernel_rfl) (fun _ _ _ h => h) rfl (op_build (cs := [.pointer (some ⟨b, 1, none⟩), .int .i64 4]) (pv := [(0, _), (1, _)]) (lt_ rfl) rfl (by kernel_rfl)) xT ?_
 refine W67 ?_
 refine W140 ?_
 refine WA.take (i := 7) rfl (by kernel_rfl) (fun _ _ _ h => h) rfl (op_fieldAddr fo158_0 (lt_ rfl) rfl) xT ?_
 refine WA.take (i := 8) rfl (by kernel_rfl) (fun _ _ _ h => h) rfl (op_fieldAddr fo123_2 (lt_ rfl) rfl) xT ?_
 refine WA.take (i := 9) rfl (by kernel_rfl) (fun _ _ _ h => h) rfl (op_build (cs := [.pointer (some ⟨b, 2, none⟩), .int .i64 4]) (pv := [(0, _), (1, _)]) (lt_ rfl) rfl (by kernel_rfl)) xT ?_
 refine W90 ?_
 refine WA.take (i := 11) rfl (by kernel_rfl) (fun _ _ _ h => h) rfl (op_nilCheck (lt_ rfl) rfl) xT ?_
 refine WA.take (i := 12) rfl (by kernel_rfl) (fun _ _ _ h => h) rfl (op_fieldAddr fo158_0 (lt_ rfl) rfl) xT ?_
 refine WA.take (i := 13) rfl (by kernel_rfl) (fun _ _ _ h => h) rfl (op_fieldAddr fo123_0 (lt_ rfl) rfl) xT ?_
 refine WA.take (i := 14) rfl (by kernel_rfl) (fun _ _ _ h => h) rfl (op_build (cs := [.pointer (some ⟨b, 0, none⟩), .int .i64 2]) (pv := [(0, _), (1, _)]) (lt_ rfl) rfl (by kernel_rfl)) xT ?_
 refine WA.take (i := 15) rfl (by kernel_rfl) (fun _ _ _ h => h) rfl (op_move (lt_ rfl) rfl) xT ?_
 refine WA.take (i := 16) rfl (by kernel_rfl) (fun _ _ _ h => h) rfl (op_nilCheck (lt_ rfl) rfl) xT ?_
 refine WA.take (i := 17) rfl (by kernel_rfl) (fun _ _ _ h => h) rfl (op_fieldAddr fo158_0 (lt_ rfl) rfl) xT ?_
 refine WA.take (i := 18) rfl (by kernel_rfl) (fun _ _ _ h => h) rfl (op_fieldAddr fo123_3 (lt_ rfl) rfl) xT ?_
 refine WA.take (i := 19) rfl (by kernel_rfl) (fun _ _ _ h => h) rfl (op_build (cs := [.pointer (some ⟨b, 3, none⟩), .int .i64 2]) (pv := [(0, _), (1, _)]) (lt_ rfl) rfl (by kernel_rfl)) xT ?_
 refine WA.take (i := 20) rfl (by kernel_rfl) (fun _ _ _ h => h) rfl (op_move (lt_ rfl) rfl) xT ?_
 refine WA.take (i := 21) rfl (by kernel_rfl) (fun _ _ _ h => h) rfl (op_nilCheck (lt_ rfl) rfl) xT ?_
 refine WA.take (i := 22) rfl (by kernel_rfl) (fun _ _ _ h => h) rfl (op_fieldAddr fo158_0 (lt_ rfl) rfl) xT ?_
 refine WA.take (i := 23) rfl (by kernel_rfl) (fun _ _ _ h => h) rfl (op_fieldAddr fo123_4 (lt_ rfl) rfl) xT ?_
 refine WA.take (i := 24) rfl (by kernel_rfl) (fun _ _ _ h => h) rfl (op_build (cs := [.pointer (some ⟨b, 4, none⟩), .int .i64 2]) (pv := [(0, _), (1, _)]) (lt_ rfl) rfl (by kernel_rfl)) xT ?_
 refine WA.take (i := 25) rfl (by kernel_rfl) (fun _ _ _ h => h) rfl (op_move (lt_ rfl) rfl) xT ?_
 refine WA.take (i := 26) rfl (by kernel_rfl) (fun _ _ _ h => h) rfl (op_nilCheck (lt_ rfl) rfl) xT ?_
 refine WA.take (i := 27) rfl (by kernel_rfl) (fun _ _ _ h => h) rfl (op_fieldAddr fo158_1 (lt_ rfl) rfl) xT ?_
 refine WA.take (i := 28) rfl (by kernel_rfl) (fun _ _ _ h => h) rfl (op_build (cs := [.pointer (some ⟨b, 6, none⟩), .int .i64 2]) (pv := [(0, _), (1, _)]) (lt_ rfl) rfl (by kernel_rfl)) xT ?_
 refine WA.take (i := 29) rfl (by kernel_rfl) (fun _ _ _ h => h) rfl (op_build (cs := (fcells b)) (pv := [(0, _), (1, _), (2, _), (3, _), (4, _), (5, _)]) (lt_ rfl) rfl (by kernel_rfl)) xT ?_
 refine WA.stepo (G := []) (i := 30) (by kernel_rfl) rfl rfl (op_storeAll sz161 rfl rfl xK xL xO xL) (fun h => absurd rfl h) ?_
 refine W19 ?_
 refine W250 ?_
 exact Fin.ret1 xI (()) (trivial) Tryz.results89 (.cellN rfl ag161 xM xL) xT (by simp)
end Go.Proofs.YtkjlbedebmffgaaGreat.Sx
namespace Go.Proofs.YtkjlbedebmffgaaGreat.Sx
open Go.RowKit Go.Proofs.YtkjlbedebmffgaaGreat.Ty
attribute [local irreducible] blk own rd rx frameC
def z16 : List UInt8 := List.replicate 16 0
theorem z16_length : z16.length = 16 := rfl
theorem chk_ok {k g n i c : Int} {m : Nat} (h : chk k g n i c m = 0) : fineP k g n ∧ 1 ≤ c ∧ c ≤ 586 ∧ 0 ≤ i ∧ i < c ∧ m ≤ 224 := by
 unfold chk at h
 split at h
 ·omega
 ·split at h
  ·omega
  ·rename_i h1 h2
   simp only [fineP] at *
   omega
theorem fv_lt (k g n i c m : Nat) (j : Nat) (hk : k < 65536) (hg : g < 2147483648) (hn : n < 2147483648) (hi : i < 65536) (hc : c < 65536) (hm : m < 65536) : fv k g n i c m j < 2147483648 := by
 unfold fv
 split <;> omega
theorem fil_step (k g n i c m j r : Nat) (h : r < fz j) (hj : j < 6) :
  pset (bvs (fil (z16 ++ hp k g n i c m j ++ (be (fv k g n i c m j) (fz j)).take r))) (16 + (hp k g n i c m j).length + r) (bvs [UInt8.ofNat (((fv k g n i c m j : Nat) : Int) / ((2 ^ (8 * (((fz j : Nat) : Int) - 1 - (r : Int))).toNat : Nat) : Int)).toNat])
   = bvs (fil (z16 ++ hp k g n i c m j ++ (be (fv k g n i c m j) (fz j)).take (r + 1))) := by
 have hl := hp_len k g n i c m j (by omega)
 have hz := fz_le j
 have e1 : (8 * (((fz j : Nat) : Int) - 1 - (r : Int))).toNat = 8 * (fz j - 1 - r) := by omega
 have e2 : (2 : Nat) ^ (8 * (fz j - 1 - r)) = 256 ^ (fz j - 1 - r) := by rw [Nat.pow_mul]
 have e3 : (((fv k g n i c m j : Nat) : Int) / ((256 ^ (fz j - 1 - r) : Nat) : Int)).toNat = fv k g n i c m j / 256 ^ (fz j - 1 - r) := by rw [← Int.natCast_ediv]; exact Int.toNat_natCast _
 rw [e1, e2, e3, be_take _ _ _ h, ← List.append_assoc]
 refine fil_app _ [_] _ ?_ ?_
 ·simp only [List.length_append, z16_length, List.length_take, be_length]; omega
 ·simp only [List.length_singleton]; omega
theorem fil_drop (x : List UInt8) (h : x.length ≤ 240) : (fil (z16 ++ x)).drop 16 = sealR x := by
 unfold fil sealR
 have e : ∀ l : List UInt8, (z16 ++ l).drop 16 = l := fun l => rfl
 rw [List.append_assoc, e, List.take_of_length_le (by simp; omega), List.length_append, z16_length]
 congr 2
 omega
theorem fil_seal (x : List UInt8) (h : x.length ≤ 240) : pset (bvs (fil (z16 ++ x))) 0 (bvs ((sha (sealR x)).take 16)) = bvs (sealB x) := by
 rw [pset_bvs]
 have : 0 + ((sha (sealR x)).take 16).length = 16 := by simp [sha_length]
 rw [this, fil_drop x h]
 rfl
set_option maxHeartbeats 400000 in
set_option maxRecDepth 10000 in
theorem f72_spec (k g n i c : Int) (A : Option Addr) (m cap : Nat) (bs : List UInt8) (hm : bs.length = m) :
  Spec Tryz.prog 72 [.agg (pcells k g n i c (.slice A m cap)).toArray] [] [rd (.slice A m cap) 1 m (bvs bs)] (R := Option Addr × Nat × List UInt8 × Int × Nat)
   (fun q => q.2.2.1 = encP k g n i c bs ∧ q.2.2.2.1 = chk k g n i c m ∧ q.2.2.2.2 = q.2.2.1.length) (fun q => .tuple #[.slice q.1 q.2.2.2.2 q.2.1, .int .i64 q.2.2.2.1]) (fun q => [own (.slice q.1 q.2.2.2.2 q.2.1) 5 1 q.2.2.2.2 (bvs q.2.2.1)]) := by
 refine Spec.intro Tryz.func72 Tryz.ntmps72 rfl (by simp) (by simp) fun w0 => ?_
 refine W240 ?_
 refine wl1 (op_box (lt_ rfl) rfl rfl) rfl fun b1 => ?_
 refine W251 ?_
 refine WX.regs (L' := [(1, _)]) ?_
 refine W269 ?_
 refine wlv (op_loadAll ag123 (lt_ rfl) rfl xM xL) rfl ?_
 refine wlx (op_call (f92_spec k g n i c A m cap) ca92 (lt_ rfl) rfl) rfl ?_
 rintro _ rfl
 refine W241 ?_
 refine WX.regs (L' := [(1, _), (4, _)]) ?_
 refine W359 ?_
 refine WX.regs (L' := [(1, _), (4, _), (14, _)]) ?_
 refine W0 ?_
 refine WC.cond rfl (fun h1 => ?_) (fun h1 => ?_)
 ·
  refine W351 ?_
  refine W251 ?_
  refine W34 ?_
  refine W33 ?_
  refine W263 ?_
  exact Fin.ret2 xI ((none, 0, [], chk k g n i c m, 0)) (⟨by unfold encP; rw [if_neg (by rw [hm]; exact h1)], rfl, rfl⟩) Tryz.results72 rfl (.tmp rfl) (.tmp rfl) xT (by simp)
 ·
  have h0 : chk k g n i c m = 0 := by omega
  obtain ⟨hf, hc1, hc2, hi1, hi2, h224⟩ := chk_ok h0
  simp only [fineP] at hf
  obtain ⟨k, rfl⟩ := Int.eq_ofNat_of_zero_le hf.1
  obtain ⟨g, rfl⟩ := Int.eq_ofNat_of_zero_le hf.2.2.1
  obtain ⟨n, rfl⟩ := Int.eq_ofNat_of_zero_le hf.2.2.2.2.1
  obtain ⟨i, rfl⟩ := Int.eq_ofNat_of_zero_le hi1
  obtain ⟨c, rfl⟩ := Int.eq_ofNat_of_zero_le (by omega : 0 ≤ c)
  refine W274 ?_
  refine wlv (op_loadAll ag123 (lt_ rfl) rfl xM xL) rfl ?_
  refine W126 ?_
  refine W52 ?_
  refine W38 ?_
  refine wlv (op_build (cs := (hdc k g n i c (.slice A m cap) m)) (pv := [(0, _), (1, _)]) (lt_ rfl) rfl (by kernel_rfl)) rfl ?_
  refine wl1 (op_alloc ti158 (lt_ rfl)) rfl fun b2 => ?_
  refine wl (op_storeAll sz158 rfl rfl xK xL xO xL) rfl ?_
  refine W252 ?_
  refine WX.regs (L' := [(1, _), (5, _)]) ?_
  refine W249 ?_
  refine wl1 (op_make (z1 := (.int .u8 0)) (sz := 1) (zero := []) Tryz.underlying30 ti5 (lt_ rfl) rfl rfl (by omega) (by omega) (by omega) (by omega)) rfl fun b3 => ?_
  refine WL.blkEq (b := b3) (bvs (fil (z16 ++ hp k g n i c m 0))) xK (by rfl) ?_
  refine W241 ?_
  refine WX.regs (L' := [(1, _), (5, _), (6, _)]) ?_
  refine W269 ?_
  refine wlx (op_call (f89_spec b2) ca89 (lt_ rfl) rfl) rfl ?_
  rintro _ _
  refine W272 ?_
  refine WX.regs (L' := [(1, _), (6, _), (22, _), (23, _)]) ?_
  refine W294 ?_
  refine WC.loop (X := Nat) (fun j => 6 - j) (fun j => j ≤ 6) (fun j => [(1, .pointer (some ⟨b1, 0, none⟩)), (6, .slice (some ⟨b3, 0, none⟩) (16 + (hp k g n i c m j).length) 256), (22, .agg (fcells b2).toArray), (23, .int .i64 (j : Int))]) (fun j => [blk b3 (bvs (fil (z16 ++ hp k g n i c m j))) 5, blk b2 (hdc k g n i c (.slice A m cap) m) 158, blk b1 (pcells k g n i c (.slice A m cap)) 123, rd (.slice A m cap) 1 m (bvs bs), frameC w0 (MutF [])]) (0) (by omega) (fun a w hs => hs.sub xY xT) ?_
  rintro j hj
  try dsimp only
  have hlj := hp_len k g n i c m j hj
  have hz := fz_le j
  have hfv := fv_lt k g n i c m j (by omega) (by omega) (by omega) (by omega) (by omega) (by omega)
  refine W312 ?_
  refine WX.regs (L' := [(1, _), (6, _), (22, _), (23, _), (24, _)]) ?_
  refine W327 ?_
  refine WC.cond rfl (fun h2 => ?_) (fun h2 => ?_)
  ·
   refine W298 ?_
   refine wlv (op_indexVN Tryz.underlying161 sz160 ag160 (by decide) rfl rfl (by omega) (by omega) (fcells_at b2 j (by omega)) (by simp [fcells]; omega)) rfl ?_
   refine wl1 (op_alloc ti160 (lt_ rfl)) rfl fun b4 => ?_
   refine wl (op_storeAll sz160 rfl rfl xK xL xO xL) rfl ?_
   refine W252 ?_
   refine WX.regs (L' := [(1, _), (6, _), (8, _), (22, _), (23, _)]) ?_
   refine W249 ?_
   refine wlv (op_fieldAddr fo160_1 (lt_ rfl) rfl) rfl ?_
   refine W21 ?_
   refine W94 ?_
   refine W241 ?_
   refine WX.regs (L' := [(1, _), (6, _), (8, _), (9, _), (22, _), (23, _)]) ?_
   refine W294 ?_
   rw [show z16 ++ hp k g n i c m j = z16 ++ hp k g n i c m j ++ (be (fv k g n i c m j) (fz j)).take 0 by simp]
   refine WC.loop (X := Nat) (fun r => fz j - r) (fun r => r ≤ fz j) (fun r => [(1, .pointer (some ⟨b1, 0, none⟩)), (6, .slice (some ⟨b3, 0, none⟩) (16 + (hp k g n i c m j).length + r) 256), (8, .pointer (some ⟨b4, 0, none⟩)), (9, .int .i64 (((fz j : Nat) : Int) - 1 - (r : Int))), (22, .agg (fcells b2).toArray), (23, .int .i64 (j : Int))]) (fun r => [blk b3 (bvs (fil (z16 ++ hp k g n i c m j ++ (be (fv k g n i c m j) (fz j)).take r))) 5, blk b4 [.pointer (some ⟨b2, fo j, none⟩), .int .i64 ((fz j : Nat) : Int)] 160, blk b2 (hdc k g n i c (.slice A m cap) m) 158, blk b1 (pcells k g n i c (.slice A m cap)) 123, rd (.slice A m cap) 1 m (bvs bs), frameC w0 (MutF [])]) (0) (by omega) (fun a w hs => hs.sub xY xT) ?_
   rintro r hr
   try dsimp only
   refine W328 ?_
   refine W66 ?_
   refine W2 ?_
   refine WX.regs (L' := [(1, _), (6, _), (8, _), (9, _), (22, _), (23, _), (30, _)]) ?_
   refine W0 ?_
   refine WC.cond rfl (fun h3 => ?_) (fun h3 => ?_)
   ·
    refine W270 ?_
    refine W309 ?_
    refine wlv (op_fieldAddr fo160_0 (lt_ rfl) rfl) rfl ?_
    refine wlv (op_load1 fl159 (lt_ rfl) rfl xM rfl) rfl ?_
    refine W27 ?_
    refine wlv (op_load1 fl3 (lt_ rfl) rfl xM (hdc_at k g n i c m _ j (by omega))) rfl ?_
    refine W4 ?_
    refine W73 ?_
    refine wlv (op_shri (lt_ rfl) rfl rfl (by omega)) rfl ?_
    refine W221 ?_
    refine wl1 (op_lit1 Tryz.underlying30 ti5 rfl (by decide) (lt_ rfl) rfl rfl) rfl fun b5 => ?_
    refine wl (op_appendBlk Tryz.underlying30 ti5 (by decide) rfl rfl xK xS (bvs_one [_]) (by omega) (by rw [bvs_length, fil_length _ (by simp [z16_length]; omega)])) rfl ?_
    refine W271 ?_
    refine WX.blkEq (b := b3) _ xK (fil_step k g n i c m j r (by omega) (by omega)) ?_
    refine WX.regs (L' := [(1, _), (6, _), (8, _), (9, _), (22, _), (23, _)]) ?_
    refine W308 ?_
    refine W309 ?_
    refine W94 ?_
    refine W241 ?_
    refine WX.regs (L' := [(1, _), (6, _), (8, _), (9, _), (22, _), (23, _)]) ?_
    refine WX.meet (r + 1) ⟨by omega, by omega⟩ (fun a w hs => hs.sub xY xT)
   ·
    refine W264 ?_
    refine W330 ?_
    refine WX.regs (L' := [(1, _), (6, _), (22, _), (23, _)]) ?_
    obtain rfl : r = fz j := by omega
    rw [show z16 ++ hp k g n i c m j ++ (be (fv k g n i c m j) (fz j)).take (fz j) = z16 ++ hp k g n i c m (j + 1) by rw [List.take_of_length_le (by simp)]; simp [hp], show 16 + (hp k g n i c m j).length + fz j = 16 + (hp k g n i c m (j + 1)).length by simp [hp]; omega]
    refine WX.meet (j + 1) ⟨by omega, by omega⟩ (fun a w hs => hs.sub xY xT)
  ·
   refine W284 ?_
   obtain rfl : j = 6 := by omega
   rw [hp_end, hdr_length]
   refine W4 ?_
   refine W126 ?_
   refine W52 ?_
   refine wl (op_appendBlk Tryz.underlying30 ti5 (by decide) rfl rfl xK xS (bvs_one _) (by omega) (by rw [bvs_length, fil_length _ (by simp [z16_length, hdr_length])])) rfl ?_
   refine W10 ?_
   rw [fil_app _ bs 32 (by simp [z16_length, hdr_length]) (by omega), List.append_assoc]
   refine W333 ?_
   refine W261 ?_
   refine wlv (op_slice_h Tryz.underlying30 sz5 (lt_ rfl) rfl rfl (by omega) (by omega)) rfl ?_
   refine W333 ?_
   refine W261 ?_
   refine wlx (op_call (f87_spec (some ⟨b3, 0, none⟩) 256 256 (fil (z16 ++ (hdr k g n i c m ++ bs))) (fil_length _ (by simp [z16_length, hdr_length]; omega)) (by decide) (by decide)) ca87 (lt_ rfl) rfl (by apply Give.mk; (exact Takes.nil); exact Reads.cons (c := blk b3 (bvs (fil (z16 ++ (hdr k g n i c m ++ bs)))) 5) xM (by simp) (blk_whole_rd (by rw [bvs_length, fil_length _ (by simp [z16_length, hdr_length]; omega)]) (by decide)) Reads.nil)) rfl ?_
   rintro _ _
   refine wl1 (op_alloc ti154 (lt_ rfl)) rfl fun b6 => ?_
   refine wl (op_storeAll sz154 rfl rfl xK xL xO xL) rfl ?_
   refine W252 ?_
   refine WX.regs (L' := [(6, _), (10, _)]) ?_
   refine W261 ?_
   refine wlv (op_sliceArr Tryz.underlying154 sz5 (lt_ rfl) rfl) rfl ?_
   refine WL.turn (c := blk b6 (bvs ((sha ((fil (z16 ++ (hdr k g n i c m ++ bs))).drop 16)).take 16)) 154) (d := rd (.slice (some ⟨b6, 0, none⟩) 16 16) 1 16 (bvs ((sha ((fil (z16 ++ (hdr k g n i c m ++ bs))).drop 16)).take 16))) xK (blk_whole_rd (by simp [sha_length]) (by decide)) ?_
   refine wl (op_copyBlk Tryz.underlying30 sz5 (by decide) rfl rfl xK xS (bvs_one _) (by decide) (by decide) (by rw [bvs_length, fil_length _ (by simp [z16_length, hdr_length]; omega)]; decide)) rfl ?_
   refine W252 ?_
   refine W46 ?_
   refine W249 ?_
   rw [fil_drop _ (by simp [hdr_length]; omega), fil_seal _ (by simp [hdr_length]; omega), show sealB (hdr k g n i c m ++ bs) = enc k g n i c bs by unfold enc; rw [hm]]
   refine WL.turn (c := blk b3 (bvs (enc k g n i c bs)) 5) (d := own (.slice (some ⟨b3, 0, none⟩) 256 256) 5 1 256 (bvs (enc k g n i c bs))) xK (own_le_blk (by rw [bvs_length, enc_length]) (by decide)) ?_
   refine W4 ?_
   refine W251 ?_
   refine W33 ?_
   refine W242 ?_
   exact Fin.ret2 xI ((some ⟨b3, 0, none⟩, 256, enc k g n i c bs, 0, 256)) (⟨by unfold encP; rw [if_pos (by rw [hm]; exact h0)]; rfl, h0.symm, (enc_length _ _ _ _ _ _).symm⟩) Tryz.results72 rfl (.tmp rfl) (.tmp rfl) xT (by simp)
end Go.Proofs.YtkjlbedebmffgaaGreat.Sx
