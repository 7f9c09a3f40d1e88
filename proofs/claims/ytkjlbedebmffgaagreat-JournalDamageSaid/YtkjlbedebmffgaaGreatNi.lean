import Derived.Test.YtkjlbedebmffgaaGreatNh
import Derived.Defers
set_option linter.unusedVariables false
set_option linter.unusedSimpArgs false
namespace Go.Proofs.YtkjlbedebmffgaaGreat.Sx
open Go.RowKit Go.Proofs.YtkjlbedebmffgaaGreat.Ty
attribute [local irreducible] blk own rd rx frameC
theorem vl_take_lt (bs : List UInt8) (o l : Nat) : vl ((bs.drop o).take l) < 256 ^ l := Nat.lt_of_lt_of_le (vl_lt _) (Nat.pow_le_pow_right (by decide) (by rw [List.length_take]; omega))
theorem dec_g (bs : List UInt8) : 0 ≤ (dec bs).1.g ∧ (dec bs).1.g < 4294967296 := by
 have h := vl_take_lt bs 16 4
 unfold dec
 repeat (split; · exact ⟨Int.le_refl _, by decide⟩)
 simp only [decP, fld]
 omega
def nstep (n g : Int) (b : List UInt8) : Int := if (dec b).2 = 0 ∧ g ≤ (dec b).1.g then (dec b).1.g + 1 + ((dec b).1.g + 1 + n) % 2 else g
def nextF (n : Int) (ss : List (List UInt8)) : Int := ss.foldl (nstep n) n
def nextM (n : Int) (ss : List (List UInt8)) : Int × Int := if nextF n ss > 2147483647 then (0, 9) else (nextF n ss, 0)
theorem nextF_snoc (n : Int) (ss : List (List UInt8)) (s : List UInt8) : nextF n (ss ++ [s]) = nstep n (nextF n ss) s := by simp [nextF]
theorem take_snoc {α : Type} {l : List α} {i : Nat} {x : α} (h : l[i]? = some x) : l.take (i + 1) = l.take i ++ [x] := by
 obtain ⟨hi, rfl⟩ := List.getElem?_eq_some_iff.1 h
 exact List.take_succ_eq_append_getElem hi
set_option maxHeartbeats 400000 in
set_option maxRecDepth 10000 in
theorem f38_spec (bd bm : Nat) (A : Option Addr) (c : Nat) (D : Dk) (fi se n : Int) (hn01 : 0 ≤ n ∧ n ≤ 1) (hdn : D.down = false) (hfs : 0 ≤ fi ∧ 0 ≤ se ∧ fi + se ≤ D.n) (hn : D.n ≤ 1000000) (hmx : D.pend.length ≤ 1000000) :
  Spec Tryz.prog 38 [.agg #[.pointer (some ⟨bd, 0, none⟩), .int .i64 fi, .int .i64 se], .int .i64 n] [blk bd (dcells D bm A c) 77, mapC bm (dmap D.dur), own (.slice A D.pend.length c) 80 257 D.pend.length (D.pend.flatMap wcs)] [] (R := Int × Int) (fun q => q = nextM n (D.seen fi se.toNat)) (fun q => .tuple #[.int .i64 q.1, .int .i64 q.2]) (fun _ => [blk bd (dcells D bm A c) 77, mapC bm (dmap D.dur), own (.slice A D.pend.length c) 80 257 D.pend.length (D.pend.flatMap wcs)]) := by
 obtain ⟨k, rfl⟩ := Int.eq_ofNat_of_zero_le hfs.2.1
 rw [Int.toNat_natCast]
 refine Spec.intro Tryz.func38 Tryz.ntmps38 rfl (by simp) (by simp) fun w0 => ?_
 refine W240 ?_
 refine wl1 (op_box (lt_ rfl) rfl rfl) rfl fun b1 => ?_
 refine W251 ?_
 refine W80 ?_
 refine W249 ?_
 refine W93 ?_
 refine wlv (op_fieldAddr fo88_2 (lt_ rfl) rfl) rfl ?_
 refine W21 ?_
 refine wlx (op_call (f62_spec bd bm A c D fi (k : Int) 0 k (by omega) hdn (by omega) hn hmx) ca62 (lt_ rfl) rfl) rfl ?_
 rintro ⟨A2, c2, rs⟩ hrs
 dsimp only at hrs
 rw [Int.add_zero] at hrs
 have hk2 : rs.length = k := by have := congrArg List.length hrs; simpa [Dk.seen] using this
 dsimp only
 refine W341 ?_
 refine WX.turn (c := rowsC true rs) (d := rowsC false rs) xK (rowsC_read fun _ h => h) ?_
 refine WX.regs (L' := [(1, _), (6, _), (7, _)]) ?_
 refine W332 ?_
 refine WX.regs (L' := [(1, _), (6, _), (7, _), (21, _)]) ?_
 refine W0 ?_
 refine WC.cond rfl (fun h1 => ?_) (fun h1 => ?_)
 ·
  exact absurd rfl h1
 ·
  refine W8 ?_
  refine W261 ?_
  refine W241 ?_
  refine WX.regs (L' := [(1, _), (6, _), (8, _)]) ?_
  refine W282 ?_
  refine W40 ?_
  refine W272 ?_
  refine W144 ?_
  refine W294 ?_
  refine WC.loop (X := Nat × Int) (fun q => rs.length - q.1) (fun q => q.1 ≤ rs.length ∧ q.2 = nextF n ((rs.map Bs.s).take q.1) ∧ 0 ≤ q.2 ∧ q.2 ≤ 4294967298) (fun q => [(1, .int .i64 n), (8, .int .i64 q.2), (24, .slice A2 rs.length c2), (25, .int .i64 (rs.length : Int)), (26, .int .i64 (q.1 : Int))]) (fun q => [own (.slice A2 rs.length c2) 30 1 rs.length (rs.map Bs.v), rowsC false rs, blk bd (dcells D bm A c) 77, mapC bm (dmap D.dur), own (.slice A D.pend.length c) 80 257 D.pend.length (D.pend.flatMap wcs), frameC w0 (MutF [blk bd (dcells D bm A c) 77, mapC bm (dmap D.dur), own (.slice A D.pend.length c) 80 257 D.pend.length (D.pend.flatMap wcs)])]) ((0, n)) (⟨Nat.zero_le _, rfl, by simp only []; omega, by simp only []; omega⟩) (fun a w hs => hs.sub xY xT) ?_
  rintro ⟨i, g⟩ ⟨hi, hg, hg0, hg1⟩
  try dsimp only at hi hg hg0 hg1 ⊢
  refine W312 ?_
  refine WX.regs (L' := [(1, _), (8, _), (24, _), (25, _), (26, _), (27, _)]) ?_
  refine W327 ?_
  refine WC.cond rfl (fun h2 => ?_) (fun h2 => ?_)
  ·
   obtain ⟨ri, hri⟩ : ∃ r, rs[i]? = some r := ⟨rs[i]'(by omega), List.getElem?_eq_getElem _⟩
   have hmi : ri ∈ rs := List.mem_of_getElem? hri
   have hgs : ∀ x, x = nstep n g ri.s → x = nextF n ((rs.map Bs.s).take (i + 1)) := by
    intro x hx
    rw [take_snoc (x := ri.s) (by simp [hri]), nextF_snoc, ← hg, hx]
   refine WC.dup (c := rowsC false rs) (d := rd (.slice ri.A ri.s.length ri.c) 1 ri.s.length (bvs ri.s)) xM rfl (by simp) (rowsC_get (r := ri) hmi) ?_
   refine W298 ?_
   refine W95 ?_
   refine W141 ?_
   refine W241 ?_
   refine WX.regs (L' := [(1, _), (8, _), (10, _), (24, _), (25, _), (26, _)]) ?_
   refine W261 ?_
   refine wlx (op_call (f63_spec ri.A ri.s.length ri.c ri.s rfl) ca63 (lt_ rfl) rfl) rfl ?_
   rintro ⟨A3, c3, m3, p, e⟩ hpe
   dsimp only at hpe
   obtain ⟨hpe, rfl⟩ := hpe
   have hpg := dec_g ri.s
   rw [← hpe] at hpg
   dsimp only at hpg
   have hdc := hpe.symm
   dsimp only
   refine W296 ?_
   refine wl1 (op_alloc ti123 (lt_ rfl)) rfl fun b2 => ?_
   refine W91 ?_
   refine W271 ?_
   refine WX.regs (L' := [(1, _), (8, _), (11, _), (12, _), (24, _), (25, _), (26, _)]) ?_
   refine W261 ?_
   refine W42 ?_
   refine W4 ?_
   refine WL.split (t := 37) rfl (fun g37 => ?_) (fun g37 => ?_)
   ·
    refine wlgv (op_fieldAddr fo123_1 (lt_ rfl) rfl) rfl rfl rfl ?_
    refine W28 ?_
    refine W13 ?_
    refine wlgv (op_geq (lt_ rfl) rfl rfl) rfl rfl rfl ?_
    refine W313 ?_
    refine WX.regs (L' := [(1, _), (8, _), (11, _), (24, _), (25, _), (26, _), (42, _)]) ?_
    refine W0 ?_
    refine WC.cond rfl (fun h3 => ?_) (fun h3 => ?_)
    ·
     refine W240 ?_
     refine W335 ?_
     refine W295 ?_
     refine W144 ?_
     refine W0 ?_
     refine W334 ?_
     refine W4 ?_
     refine W16 ?_
     refine W78 ?_
     refine W295 ?_
     refine W144 ?_
     refine W330 ?_
     refine W144 ?_
     refine WX.meet ((i + 1, p.g + 1 + (p.g + 1 + n) % 2)) ⟨⟨by simp only []; omega, hgs _ (by unfold nstep; rw [hdc]; dsimp only; first | rw [if_pos (by omega)] | rw [if_neg (by omega)]), by simp only []; omega, by simp only []; omega⟩, by simp only []; omega⟩ (fun a w hs => hs.sub xY xT)
    ·
     refine W291 ?_
     refine W0 ?_
     refine W286 ?_
     refine W144 ?_
     refine WX.meet ((i + 1, g)) ⟨⟨by simp only []; omega, hgs _ (by unfold nstep; rw [hdc]; dsimp only; first | rw [if_pos (by omega)] | rw [if_neg (by omega)]), by simp only []; omega, by simp only []; omega⟩, by simp only []; omega⟩ (fun a w hs => hs.sub xY xT)
   ·
    refine W255 ?_
    refine W285 ?_
    refine WX.regs (L' := [(1, _), (8, _), (11, _), (24, _), (25, _), (26, _), (42, _)]) ?_
    refine W281 ?_
    refine W330 ?_
    refine W144 ?_
    refine WX.meet ((i + 1, g)) ⟨⟨by simp only []; omega, hgs _ (by unfold nstep; rw [hdc]; dsimp only; first | rw [if_pos (by omega)] | rw [if_neg (by omega)]), by simp only []; omega, by simp only []; omega⟩, by simp only []; omega⟩ (fun a w hs => hs.sub xY xT)
  ·
   refine W264 ?_
   refine W282 ?_
   refine W56 ?_
   refine W2 ?_
   refine WX.regs (L' := [(8, _), (54, _)]) ?_
   refine W0 ?_
   refine WC.cond rfl (fun h4 => ?_) (fun h4 => ?_)
   ·
    refine W240 ?_
    refine W251 ?_
    refine W48 ?_
    refine W263 ?_
    exact Fin.ret2 xI ((0, 9)) (by unfold nextM; rw [← hrs, show (nextF n (rs.map Bs.s)) = g from by rw [hg, List.take_of_length_le (by rw [List.length_map]; omega)], if_pos (by omega)]) Tryz.results38 rfl (.tmp rfl) (.tmp rfl) xT (by simp)
   ·
    refine W8 ?_
    refine W261 ?_
    refine W251 ?_
    refine W48 ?_
    refine W242 ?_
    exact Fin.ret2 xI ((g, 0)) (by unfold nextM; rw [← hrs, show (nextF n (rs.map Bs.s)) = g from by rw [hg, List.take_of_length_le (by rw [List.length_map]; omega)], if_neg (by omega)]) Tryz.results38 rfl (.tmp rfl) (.tmp rfl) xT (by simp)
end Go.Proofs.YtkjlbedebmffgaaGreat.Sx
namespace Go.Proofs.YtkjlbedebmffgaaGreat.Sx
open Go.RowKit Go.Proofs.YtkjlbedebmffgaaGreat.Ty
attribute [local irreducible] blk own rd rx frameC
def bodies (t : List Rcd) : Nat := ((t.map Rcd.k).takeWhile (· == 2)).length
def areaL (g : Int) : List Rcd → Option (Int × Int × List (List UInt8))
 | [] => none
 | h :: t => if h.k = 1 ∧ h.p.length = 16 ∧ vl (h.p.take 8) ≤ 2147483647 ∧ vl (h.p.drop 8) ≤ 2147483647 ∧ vl (h.p.drop 8) ≤ bodies t then some (g, ((vl (h.p.take 8) : Nat) : Int), (t.take (bodies t)).map Rcd.p) else none
def areaM (n : Int) (ss : List (List UInt8)) : Option (Int × Int × List (List UInt8)) :=
 if (dec (ss.getD 0 [])).2 = 0 ∧ (dec (ss.getD 0 [])).1.g % 2 = n then areaL (dec (ss.getD 0 [])).1.g (scan (dec (ss.getD 0 [])).1.g 0 ss).1 else none
structure Ar where
 ok : Bool
 (g f : Int)
 A : Option Addr
 c : Nat
 es : List Bs
def Ar.cells (a : Ar) : List Value := [.bool a.ok, .int .i64 a.g, .int .i64 a.f, .slice a.A a.es.length a.c]
def Ar.zero : Ar := ⟨false, 0, 0, none, 0, []⟩
def Ar.fits (a : Ar) : Option (Int × Int × List (List UInt8)) → Prop
 | none => a = Ar.zero
 | some (g, f, es) => a.ok = true ∧ a.g = g ∧ a.f = f ∧ a.es.map Bs.s = es
theorem areaM_none {n : Int} {ss : List (List UInt8)} (h : ¬ ((dec (ss.getD 0 [])).2 = 0 ∧ (dec (ss.getD 0 [])).1.g % 2 = n)) : areaM n ss = none := by unfold areaM; rw [if_neg h]
theorem areaM_scan {n : Int} {ss : List (List UInt8)} (h : (dec (ss.getD 0 [])).2 = 0 ∧ (dec (ss.getD 0 [])).1.g % 2 = n) : areaM n ss = areaL (dec (ss.getD 0 [])).1.g (scan (dec (ss.getD 0 [])).1.g 0 ss).1 := by unfold areaM; rw [if_pos h]
theorem areaL_none {g : Int} {h : Rs} {t : List Rs} (hn : ¬ (h.k = 1 ∧ h.b.s.length = 16 ∧ vl (h.b.s.take 8) ≤ 2147483647 ∧ vl (h.b.s.drop 8) ≤ 2147483647 ∧ vl (h.b.s.drop 8) ≤ ((t.map Rs.k).takeWhile (· == 2)).length)) : areaL g ((h :: t).map Rs.r) = none := by
 have e : bodies (t.map Rs.r) = ((t.map Rs.k).takeWhile (· == 2)).length := by unfold bodies; rw [List.map_map]; rfl
 simp only [List.map_cons, areaL, e]
 exact if_neg hn
theorem areaL_some {g : Int} {h : Rs} {t : List Rs} (hn : h.k = 1 ∧ h.b.s.length = 16 ∧ vl (h.b.s.take 8) ≤ 2147483647 ∧ vl (h.b.s.drop 8) ≤ 2147483647 ∧ vl (h.b.s.drop 8) ≤ ((t.map Rs.k).takeWhile (· == 2)).length) :
  areaL g ((h :: t).map Rs.r) = some (g, ((vl (h.b.s.take 8) : Nat) : Int), ((t.take ((t.map Rs.k).takeWhile (· == 2)).length).map Rs.b).map Bs.s) := by
 have e : bodies (t.map Rs.r) = ((t.map Rs.k).takeWhile (· == 2)).length := by unfold bodies; rw [List.map_map]; rfl
 simp only [List.map_cons, areaL, e]
 refine (if_pos hn).trans ?_
 simp only [← List.map_take, List.map_map]
 rfl
theorem scanF_len {ss : List (List UInt8)} {g n : Int} : ∀ (fuel pos : Nat) (acc : List Rcd), acc.length ≤ pos → pos ≤ ss.length → (scanF ss g n fuel pos acc).1.length ≤ ss.length := by
 intro fuel
 induction fuel with
 | zero => intro pos acc h1 h2; exact Nat.le_trans h1 h2
 | succ f ih =>
  intro pos acc h1 h2
  unfold scanF
  split
  ·exact Nat.le_trans h1 h2
  ·split
   ·exact Nat.le_trans h1 h2
   ·split
    ·exact Nat.le_trans h1 h2
    ·rename_i h3 h4 h5
     obtain ⟨q1, q2⟩ := join_ok (q := (join (ss.drop pos)).1) (c := (join (ss.drop pos)).2.1) (ss := ss.drop pos) (by rw [← Decidable.not_not.1 h4])
     rw [List.length_drop] at q2
     exact ih _ _ (by simp only [List.length_append, List.length_singleton]; omega) (by omega)
theorem scan_len (g n : Int) (ss : List (List UInt8)) : (scan g n ss).1.length ≤ ss.length := by
 unfold scan
 split
 ·exact Nat.zero_le _
 ·exact scanF_len _ _ _ (Nat.le_refl _) (Nat.zero_le _)
theorem cells_drop1 (h : Rs) (t : List Rs) : ((h :: t).flatMap Rs.cells).drop (1 * 4) = t.flatMap Rs.cells := rfl
theorem cells_take : ∀ (t : List Rs) (e : Nat), (t.flatMap Rs.cells).take (e * 4) = (t.take e).flatMap Rs.cells := by
 intro t
 induction t with
 | nil => intro e; simp
 | cons r t ih =>
  intro e
  cases e with
  | zero => simp
  | succ e =>
   rw [List.take_succ_cons, List.flatMap_cons, List.flatMap_cons, ← ih e, show (e + 1) * 4 = e * 4 + 4 by omega]
   rfl
theorem rd_tailA {A : Option Addr} {c : Nat} {h : Rs} {t : List Rs} : (rd (sliced A 1 (t.length + 1) c 4) 4 t.length (t.flatMap Rs.cells)).Le (rd (.slice A (h :: t).length c) 4 (h :: t).length ((h :: t).flatMap Rs.cells)) := by
 have k := rd_sub (A := A) (c := c) (m := t.length + 1) (sz := 4) (l := 1) (h := t.length + 1) (xs := (h :: t).flatMap Rs.cells) (by omega) (Nat.le_refl _)
 rwa [cells_drop1, Nat.add_sub_cancel, cells_take, List.take_of_length_le (Nat.le_refl _)] at k
theorem ch16 (r : Bs) (h : r.s.length = 16) : (rd (sliced r.A 8 16 r.c 1) 1 8 (bvs (r.s.drop 8))).Le r.ch := by
 have k := rd_dropB (A := r.A) (c := r.c) (m := 16) (l := 8) h (by decide)
 unfold Bs.ch Bs.v
 rw [h]
 exact k
theorem rd_tailC {A : Option Addr} {c e : Nat} {h : Rs} {t : List Rs} (he : e ≤ t.length) : (rd (sliced A 1 (1 + e) c 4) 4 (1 + e - 1) ((t.take e).flatMap Rs.cells)).Le (rd (.slice A (t.length + 1) c) 4 (t.length + 1) ((h :: t).flatMap Rs.cells)) := by
 have k := rd_sub (A := A) (c := c) (m := t.length + 1) (sz := 4) (l := 1) (h := 1 + e) (xs := (h :: t).flatMap Rs.cells) (by omega) (by omega)
 have e1 : 1 + e - 1 = e := by omega
 rw [cells_drop1, e1, cells_take] at k
 rw [e1]
 exact k
set_option maxHeartbeats 400000 in
set_option maxRecDepth 10000 in
theorem f40_spec (bd bm : Nat) (A : Option Addr) (c : Nat) (D : Dk) (fi n : Int) (k : Nat) (hn01 : 0 ≤ n ∧ n ≤ 1) (hdn : D.down = false) (hfs : 0 ≤ fi ∧ 8 ≤ k ∧ fi + k ≤ D.n) (hn : D.n ≤ 1000000) (hmx : D.pend.length ≤ 1000000) :
  Spec Tryz.prog 40 [.agg #[.pointer (some ⟨bd, 0, none⟩), .int .i64 fi, .int .i64 (k : Int)], .int .i64 n] [blk bd (dcells D bm A c) 77, mapC bm (dmap D.dur), own (.slice A D.pend.length c) 80 257 D.pend.length (D.pend.flatMap wcs)] [] (R := Ar) (fun a => a.fits (areaM n (D.seen (fi + n * ((k / 2 : Nat) : Int)) (k / 2)))) (fun a => .tuple #[.agg a.cells.toArray, .int .i64 0]) (fun a => [blk bd (dcells D bm A c) 77, mapC bm (dmap D.dur), own (.slice A D.pend.length c) 80 257 D.pend.length (D.pend.flatMap wcs), own (.slice a.A a.es.length a.c) 30 1 a.es.length (a.es.map Bs.v), rowsC true a.es]) := by
 have hnh : 0 ≤ n * ((k / 2 : Nat) : Int) ∧ n * ((k / 2 : Nat) : Int) ≤ ((k / 2 : Nat) : Int) := by
  rcases (show n = 0 ∨ n = 1 by omega) with rfl | rfl
  ·rw [Int.zero_mul]; omega
  ·rw [Int.one_mul]; omega
 refine Spec.intro Tryz.func40 Tryz.ntmps40 rfl (by simp) (by simp) fun w0 => ?_
 refine W240 ?_
 refine wl1 (op_box (lt_ rfl) rfl rfl) rfl fun b1 => ?_
 refine wl1 (op_alloc ti92 (lt_ rfl)) rfl fun b2 => ?_
 refine W241 ?_
 refine WX.regs (L' := [(1, _), (2, _), (4, _)]) ?_
 refine W0 ?_
 refine W301 ?_
 refine WA.take (i := 0) rfl (by kernel_rfl) (fun _ _ _ h => h) rfl (op_loadAll ag88 (lt_ rfl) rfl xM xL) xT ?_
 refine W39 ?_
 refine WA.take (i := 2) rfl (by kernel_rfl) (fun _ _ _ h => h) rfl (op_loadAll ag88 (lt_ rfl) rfl xM xL) xT ?_
 refine WA.take (i := 5) rfl (by kernel_rfl) (fun _ _ _ h => h) rfl (op_loadAll ag88 (lt_ rfl) rfl xM xL) xT ?_
 refine WA.stepx (i := 3) (by kernel_rfl) rfl rfl (op_call (f43_spec bd fi (k : Int) (by omega) (by omega)) ca43 (lt_ rfl) rfl) (fun _ r => xT) ?_
 rintro _ _
 rw [show ((k : Int)) / 2 = ((k / 2 : Nat) : Int) by omega]
 refine WA.take (i := 4) rfl (by kernel_rfl) (fun _ _ _ h => h) rfl (op_mul (lt_ rfl) rfl rfl (by omega)) xT ?_
 refine WA.stepx (i := 6) (by kernel_rfl) rfl rfl (op_call (f43_spec bd fi (k : Int) (by omega) (by omega)) ca43 (lt_ rfl) rfl) (fun _ r => xT) ?_
 rintro _ _
 rw [show ((k : Int)) / 2 = ((k / 2 : Nat) : Int) by omega]
 refine WA.stepx (i := 7) (by kernel_rfl) rfl rfl (op_call (f62_spec bd bm A c D fi (k : Int) (n * ((k / 2 : Nat) : Int)) (k / 2) (by omega) hdn (by omega) hn hmx) ca62 (lt_ rfl) rfl) (fun _ r => xT) ?_
 rintro ⟨As, cs, rs⟩ hrs
 dsimp only at hrs
 have hk2 : rs.length = k / 2 := by have := congrArg List.length hrs; simpa [Dk.seen] using this
 rw [← hrs]
 dsimp only
 refine W71 ?_
 refine WA.take (i := 9) rfl (by kernel_rfl) (fun _ _ _ h => h) rfl (op_extract (lt_ rfl) rfl rfl) xT ?_
 refine W64 ?_
 refine W183 ?_
 refine WA.take (i := 12) rfl (by kernel_rfl) (fun _ _ _ h => h) rfl (op_assign (lt_ rfl) rfl) xT ?_
 refine W19 ?_
 refine WX.turn (c := rowsC true rs) (d := rowsC false rs) xK (rowsC_read fun _ h => h) ?_
 refine WX.regs (L' := [(1, _), (4, _), (6, _), (7, _)]) ?_
 refine W332 ?_
 refine WX.regs (L' := [(1, _), (4, _), (6, _), (7, _), (32, _)]) ?_
 refine W0 ?_
 refine WC.cond rfl (fun h1 => ?_) (fun h1 => ?_)
 ·
  exact absurd rfl h1
 ·
  obtain ⟨r0, hr0⟩ : ∃ r, rs[0]? = some r := ⟨rs[0]'(by omega), List.getElem?_eq_getElem _⟩
  have hm0 : r0 ∈ rs := List.mem_of_getElem? hr0
  refine WC.dup (c := rowsC false rs) (d := rd (.slice r0.A r0.s.length r0.c) 1 r0.s.length (bvs r0.s)) xM rfl (by simp) (rowsC_get (r := r0) hm0) ?_
  refine W8 ?_
  refine W261 ?_
  refine W95 ?_
  refine wlv (op_loadS fl30 (lt_ rfl) rfl xS (rows_at' hr0 rfl)) rfl ?_
  refine wlx (op_call (f63_spec r0.A r0.s.length r0.c r0.s rfl) ca63 (lt_ rfl) rfl) rfl ?_
  rintro ⟨A3, c3, m3, p, e⟩ hpe
  dsimp only at hpe
  obtain ⟨hpe, rfl⟩ := hpe
  have hpg := dec_g r0.s
  rw [← hpe] at hpg
  dsimp only at hpg
  have hdc := hpe.symm
  have hg0 : (rs.map Bs.s).getD 0 [] = r0.s := by simp [List.getD_eq_getElem?_getD, hr0]
  dsimp only
  refine W296 ?_
  refine wl1 (op_alloc ti123 (lt_ rfl)) rfl fun b3 => ?_
  refine W91 ?_
  refine W271 ?_
  refine WX.regs (L' := [(1, _), (4, _), (6, _), (7, _), (8, _)]) ?_
  refine W269 ?_
  refine W256 ?_
  refine W4 ?_
  refine WL.split (t := 44) rfl (fun g44 => ?_) (fun g44 => ?_)
  ·
   refine W320 ?_
   refine W2 ?_
   refine WX.regs (L' := [(4, _), (6, _), (8, _), (50, _)]) ?_
   refine W353 ?_
   refine W96 ?_
   refine W49 ?_
   refine W271 ?_
   refine W48 ?_
   refine W263 ?_
   have hnone : areaM n (rs.map Bs.s) = none := areaM_none (by rw [hg0, hdc]; show ¬ (e = 0 ∧ p.g % 2 = n); omega)
   refine W258 ?_
   exact Fin.ret2 xI (Ar.zero) (by rw [hnone]; rfl) Tryz.results40 rfl (.cellN rfl ag92 xM xL) (.tmp rfl) xT (by simp)
  ·
   refine wlgv (op_fieldAddr fo123_1 (lt_ rfl) rfl) rfl rfl rfl ?_
   refine W28 ?_
   refine wlgv (op_rem (lt_ rfl) rfl rfl (by omega) (by omega)) rfl rfl rfl ?_
   refine W13 ?_
   refine W44 ?_
   refine W285 ?_
   refine WX.regs (L' := [(4, _), (6, _), (8, _), (50, _)]) ?_
   refine W0 ?_
   refine WC.cond rfl (fun h2 => ?_) (fun h2 => ?_)
   ·
    refine W240 ?_
    refine W96 ?_
    refine W49 ?_
    refine W271 ?_
    refine W48 ?_
    refine W263 ?_
    have hnone : areaM n (rs.map Bs.s) = none := areaM_none (by rw [hg0, hdc]; show ¬ (e = 0 ∧ p.g % 2 = n); omega)
    refine W258 ?_
    exact Fin.ret2 xI (Ar.zero) (by rw [hnone]; rfl) Tryz.results40 rfl (.cellN rfl ag92 xM xL) (.tmp rfl) xT (by simp)
   ·
    refine W274 ?_
    refine W335 ?_
    refine W4 ?_
    refine wlx (op_call (f65_spec p.g 0 As rs.length cs rs rfl (by omega)) ca65 (lt_ rfl) rfl) rfl ?_
    rintro ⟨Al, cl, l, cnt, es⟩ hsc
    dsimp only at hsc
    have hsl := congrArg Prod.fst hsc
    dsimp only at hsl
    have ham : areaM n (rs.map Bs.s) = areaL p.g (l.map Rs.r) := by rw [areaM_scan (by rw [hg0, hdc]; show e = 0 ∧ p.g % 2 = n; exact ⟨by omega, by omega⟩), hg0, hdc, hsl]
    have hll : l.length ≤ rs.length := by have := scan_len p.g 0 (rs.map Bs.s); rw [← hsl, List.length_map, List.length_map] at this; exact this
    dsimp only
    refine WL.turn (c := own (.slice Al l.length cl) 104 4 l.length (l.flatMap Rs.cells)) (d := rd (.slice Al l.length cl) 4 l.length (l.flatMap Rs.cells)) xK own_le_rd ?_
    refine W296 ?_
    refine W20 ?_
    refine W266 ?_
    refine WX.regs (L' := [(4, _), (8, _), (9, _)]) ?_
    refine W282 ?_
    refine wlv (op_len Tryz.underlying127 (lt_ rfl) rfl) rfl ?_
    refine W42 ?_
    refine W4 ?_
    refine WL.split (t := 63) rfl (fun g63 => ?_) (fun g63 => ?_)
    ·
     refine W320 ?_
     refine W4 ?_
     refine W255 ?_
     refine W243 ?_
     refine W313 ?_
     refine WX.regs (L' := [(4, _), (8, _), (9, _), (77, _)]) ?_
     refine W353 ?_
     refine W96 ?_
     refine W49 ?_
     refine W271 ?_
     refine W48 ?_
     refine W263 ?_
     have hnone : areaM n (rs.map Bs.s) = none := by rw [ham]; first | exact areaL_none (by omega) | (obtain rfl : l = [] := List.eq_nil_of_length_eq_zero (by omega); rfl)
     refine W258 ?_
     exact Fin.ret2 xI (Ar.zero) (by rw [hnone]; rfl) Tryz.results40 rfl (.cellN rfl ag92 xM xL) (.tmp rfl) xT (by simp)
    ·
     obtain ⟨h, t, rfl⟩ : ∃ h t, l = h :: t := by
      cases l with
      | nil => exact absurd rfl (by omega)
      | cons h t => exact ⟨h, t, rfl⟩
     have htl2 : t.length + 1 ≤ rs.length := hll
     have htl := tw_le (t.map Rs.k)
     rw [List.length_map] at htl
     refine W13 ?_
     refine wlgv (op_index Tryz.underlying127 sz104 (lt_ rfl) rfl rfl (by omega) (by omega) (by decide) xS) rfl rfl rfl ?_
     refine wlgv (op_fieldAddrS fo104_0 (lt_ rfl) rfl xS (by simp [Rs.cells])) rfl rfl rfl ?_
     refine wlgv (op_loadS fl3 (lt_ rfl) rfl xS rfl) rfl rfl rfl ?_
     refine W44 ?_
     refine W15 ?_
     refine W4 ?_
     refine WL.split (t := 70) rfl (fun g70 => ?_) (fun g70 => ?_)
     ·
      refine W255 ?_
      refine W243 ?_
      refine W313 ?_
      refine WX.regs (L' := [(4, _), (8, _), (9, _), (77, _)]) ?_
      refine W353 ?_
      refine W96 ?_
      refine W49 ?_
      refine W271 ?_
      refine W48 ?_
      refine W263 ?_
      have hnone : areaM n (rs.map Bs.s) = none := by rw [ham]; first | exact areaL_none (by omega) | (obtain rfl : l = [] := List.eq_nil_of_length_eq_zero (by omega); rfl)
      refine W258 ?_
      exact Fin.ret2 xI (Ar.zero) (by rw [hnone]; rfl) Tryz.results40 rfl (.cellN rfl ag92 xM xL) (.tmp rfl) xT (by simp)
     ·
      refine W13 ?_
      refine wlgv (op_index Tryz.underlying127 sz104 (lt_ rfl) rfl rfl (by omega) (by omega) (by decide) xS) rfl rfl rfl ?_
      refine wlgv (op_fieldAddrS fo104_3 (lt_ rfl) rfl xS (by simp [Rs.cells])) rfl rfl rfl ?_
      refine wlgv (op_loadS fl30 (lt_ rfl) rfl xS rfl) rfl rfl rfl ?_
      refine wlgv (op_len Tryz.underlying30 (lt_ rfl) rfl) rfl rfl rfl ?_
      refine W44 ?_
      refine W285 ?_
      refine WX.regs (L' := [(4, _), (8, _), (9, _), (77, _)]) ?_
      refine W0 ?_
      refine WC.cond rfl (fun h3 => ?_) (fun h3 => ?_)
      ·
       refine W240 ?_
       refine W96 ?_
       refine W49 ?_
       refine W271 ?_
       refine W48 ?_
       refine W263 ?_
       have hnone : areaM n (rs.map Bs.s) = none := by rw [ham]; first | exact areaL_none (by omega) | (obtain rfl : l = [] := List.eq_nil_of_length_eq_zero (by omega); rfl)
       refine W258 ?_
       exact Fin.ret2 xI (Ar.zero) (by rw [hnone]; rfl) Tryz.results40 rfl (.cellN rfl ag92 xM xL) (.tmp rfl) xT (by simp)
      ·
       refine W274 ?_
       refine WL.capx (A := h.b.A) (m := h.b.s.length) (c := h.b.c) (sz := 1) (xs := bvs h.b.s) ⟨rowsC true ((h :: t).map Rs.b), xM, rowsC_get (r := h.b) (by simp)⟩ (fun hcap => ?_)
       refine W4 ?_
       refine W143 ?_
       refine wlv (op_fieldAddrS fo104_3 (lt_ rfl) rfl xS (by simp [Rs.cells])) rfl ?_
       refine wlv (op_loadS fl30 (lt_ rfl) rfl xS rfl) rfl ?_
       refine wlv (op_slice_h Tryz.underlying30 sz5 (lt_ rfl) rfl rfl (by omega) (by omega)) rfl ?_
       refine wlx (op_call (f66_spec _ _ (h.b.s.take 8) (by rw [List.length_take]; omega)) ca66 (lt_ rfl) rfl (by apply Give.mk; (focus (repeat (first | exact Takes.nil | exact Take.here | apply Takes.cons | apply Take.there))); exact Reads.cons (c := rowsC true ((h :: t).map Rs.b)) xM (by simp) (Ch.Le.trans (rd_subB (l := 0) (h := 8) (by omega) (by omega)) (rowsC_get (r := h.b) (by simp))) Reads.nil)) rfl ?_
       rintro _ _
       refine W341 ?_
       refine WX.regs (L' := [(4, _), (8, _), (9, _), (12, _), (13, _)]) ?_
       refine W261 ?_
       refine W143 ?_
       refine wlv (op_fieldAddrS fo104_3 (lt_ rfl) rfl xS (by simp [Rs.cells])) rfl ?_
       refine wlv (op_loadS fl30 (lt_ rfl) rfl xS rfl) rfl ?_
       have h16 : h.b.s.length = 16 := by omega
       rw [show h.b.v = .slice h.b.A 16 h.b.c from by unfold Bs.v; rw [h16]]
       refine W184 ?_
       refine wlx (op_call (f66_spec _ _ (h.b.s.drop 8) (by rw [List.length_drop]; omega)) ca66 (lt_ rfl) rfl (by apply Give.mk; (focus (repeat (first | exact Takes.nil | exact Take.here | apply Takes.cons | apply Take.there))); exact Reads.cons (c := rowsC true ((h :: t).map Rs.b)) xM (by simp) (Ch.Le.trans (ch16 h.b h16) (rowsC_get (r := h.b) (by simp))) Reads.nil)) rfl ?_
       rintro _ _
       refine W341 ?_
       refine WX.regs (L' := [(4, _), (8, _), (9, _), (12, _), (13, _), (14, _), (15, _)]) ?_
       refine W261 ?_
       refine wlv (op_slice_l Tryz.underlying127 sz104 (lt_ rfl) rfl rfl (by omega) (by omega)) rfl ?_
       refine WL.dup (c := rd (.slice Al (h :: t).length cl) 4 (h :: t).length ((h :: t).flatMap Rs.cells)) (d := rd (sliced Al 1 (t.length + 1) cl 4) 4 t.length (t.flatMap Rs.cells)) xM (by simp) (by simp) rd_tailA ?_
       refine wlx (op_call (f67_spec _ t.length _ t rfl (by omega)) ca67 (lt_ rfl) rfl) rfl ?_
       rintro _ _
       refine W241 ?_
       refine WX.regs (L' := [(4, _), (8, _), (9, _), (12, _), (13, _), (14, _), (15, _), (16, _)]) ?_
       refine W282 ?_
       refine W265 ?_
       refine WX.regs (L' := [(4, _), (8, _), (9, _), (12, _), (13, _), (14, _), (15, _), (16, _), (101, _)]) ?_
       refine W0 ?_
       refine WC.cond rfl (fun h4 => ?_) (fun h4 => ?_)
       ·
        have htw : ((t.map Rs.k).takeWhile (· == 2)).length = t.length := by split at h4; assumption; omega
        refine W309 ?_
        refine wlv (op_len Tryz.underlying127 (lt_ rfl) rfl) rfl ?_
        refine W94 ?_
        rw [show (((h :: t).length : Nat) : Int) - 1 = ((((t.map Rs.k).takeWhile (· == 2)).length : Nat) : Int) by rw [htw, List.length_cons]; omega]
        refine W241 ?_
        refine WX.regs (L' := [(4, _), (8, _), (9, _), (12, _), (13, _), (14, _), (15, _), (16, _)]) ?_
        refine W282 ?_
        refine W86 ?_
        refine W4 ?_
        refine WL.split (t := 107) rfl (fun g107 => ?_) (fun g107 => ?_)
        ·
         refine W243 ?_
         refine W17 ?_
         refine W4 ?_
         refine W302 ?_
         refine W2 ?_
         refine W145 ?_
         refine W353 ?_
         refine W96 ?_
         refine W49 ?_
         refine W271 ?_
         refine W48 ?_
         refine W263 ?_
         have hnone : areaM n (rs.map Bs.s) = none := by rw [ham]; exact areaL_none (by omega)
         refine W258 ?_
         exact Fin.ret2 xI (Ar.zero) (by rw [hnone]; rfl) Tryz.results40 rfl (.cellN rfl ag92 xM xL) (.tmp rfl) xT (by simp)
        ·
         refine W13 ?_
         refine wlgv (op_notp (lt_ rfl) rfl) rfl rfl rfl ?_
         refine W15 ?_
         refine W4 ?_
         refine WL.split (t := 111) rfl (fun g111 => ?_) (fun g111 => ?_)
         ·
          refine W302 ?_
          refine W2 ?_
          refine W145 ?_
          refine W353 ?_
          refine W96 ?_
          refine W49 ?_
          refine W271 ?_
          refine W48 ?_
          refine W263 ?_
          have hnone : areaM n (rs.map Bs.s) = none := by rw [ham]; exact areaL_none (by omega)
          refine W258 ?_
          exact Fin.ret2 xI (Ar.zero) (by rw [hnone]; rfl) Tryz.results40 rfl (.cellN rfl ag92 xM xL) (.tmp rfl) xT (by simp)
         ·
          refine W345 ?_
          refine W98 ?_
          refine W285 ?_
          refine W145 ?_
          refine W0 ?_
          refine WC.cond rfl (fun h5 => ?_) (fun h5 => ?_)
          ·
           refine W240 ?_
           refine W96 ?_
           refine W49 ?_
           refine W271 ?_
           refine W48 ?_
           refine W263 ?_
           have hnone : areaM n (rs.map Bs.s) = none := by rw [ham]; exact areaL_none (by omega)
           refine W258 ?_
           exact Fin.ret2 xI (Ar.zero) (by rw [hnone]; rfl) Tryz.results40 rfl (.cellN rfl ag92 xM xL) (.tmp rfl) xT (by simp)
          ·
           refine W274 ?_
           refine WL.capx (A := Al) (m := (h :: t).length) (c := cl) (sz := 4) (xs := (h :: t).flatMap Rs.cells) (Src.rd xM) (fun hclp => ?_)
           have hcl2 : t.length + 1 ≤ cl := hclp
           rw [show min (vl (h.b.s.take 8)) 2147483647 = vl (h.b.s.take 8) from Nat.min_eq_left (by omega)]
           refine W335 ?_
           refine W4 ?_
           refine wlv (op_build (cs := [.bool true, .int .i64 p.g, .int .i64 ((vl (h.b.s.take 8) : Nat) : Int), .slice none 0 0]) (pv := [(0, _), (1, _), (2, _)]) (lt_ rfl) rfl (by kernel_rfl)) rfl ?_
           refine wl1 (op_alloc ti92 (lt_ rfl)) rfl fun b4 => ?_
           refine W49 ?_
           refine W252 ?_
           refine WX.regs (L' := [(4, _), (9, _), (16, _), (17, _)]) ?_
           refine W269 ?_
           refine W244 ?_
           refine W16 ?_
           refine wlv (op_slice_lh Tryz.underlying127 sz104 (lt_ rfl) rfl rfl rfl (by omega) (by omega) (by omega)) rfl ?_
           rw [show ((1 : Int) + ((((t.map Rs.k).takeWhile (· == 2)).length : Nat) : Int)).toNat = 1 + ((t.map Rs.k).takeWhile (· == 2)).length by omega]
           refine wlv (op_len Tryz.underlying127 (lt_ rfl) rfl) rfl ?_
           refine W272 ?_
           refine W146 ?_
           refine W294 ?_
           refine W231 ?_
           refine WC.nilslice 30 1 ?_
           refine WC.loop (X := Nat × Option Addr × Nat) (fun q => ((t.map Rs.k).takeWhile (· == 2)).length - q.1) (fun q => q.1 ≤ ((t.map Rs.k).takeWhile (· == 2)).length) (fun q => [(4, .pointer (some ⟨b2, 0, none⟩)), (17, .pointer (some ⟨b4, 0, none⟩)), (124, sliced Al 1 (1 + ((t.map Rs.k).takeWhile (· == 2)).length) cl 4), (125, .int .i64 ((((t.map Rs.k).takeWhile (· == 2)).length : Nat) : Int)), (126, .int .i64 (q.1 : Int))]) (fun q => [own (.slice q.2.1 q.1 q.2.2) 30 1 q.1 ((((t.take ((t.map Rs.k).takeWhile (· == 2)).length).map Rs.b).take q.1).map Bs.v), blk b4 [.bool true, .int .i64 p.g, .int .i64 ((vl (h.b.s.take 8) : Nat) : Int), .slice q.2.1 q.1 q.2.2] 92, rd (sliced Al 1 (1 + ((t.map Rs.k).takeWhile (· == 2)).length) cl 4) 4 (1 + ((t.map Rs.k).takeWhile (· == 2)).length - 1) ((t.take ((t.map Rs.k).takeWhile (· == 2)).length).flatMap Rs.cells), rowsC true ((h :: t).map Rs.b), blk b2 [.bool false, .int .i64 0, .int .i64 0, .slice none 0 0] 92, blk bd (dcells D bm A c) 77, mapC bm (dmap D.dur), own (.slice A D.pend.length c) 80 257 D.pend.length (D.pend.flatMap wcs), frameC w0 (MutF [blk bd (dcells D bm A c) 77, mapC bm (dmap D.dur), own (.slice A D.pend.length c) 80 257 D.pend.length (D.pend.flatMap wcs)])]) ((0, none, 0)) (Nat.zero_le _) (fun a w hs => hs.sub xY xT) ?_
           rintro ⟨i, Ao, co⟩ hi
           try dsimp only at hi ⊢
           refine W312 ?_
           refine WX.regs (L' := [(4, _), (17, _), (124, _), (125, _), (126, _), (127, _)]) ?_
           refine W327 ?_
           refine WC.cond rfl (fun h6 => ?_) (fun h6 => ?_)
           ·
            refine W298 ?_
            obtain ⟨ri, hri⟩ : ∃ r, (t.take ((t.map Rs.k).takeWhile (· == 2)).length)[i]? = some r := ⟨_, List.getElem?_eq_getElem (by rw [List.length_take]; omega)⟩
            have hx : ∀ j, j = i * 4 → (((t.take ((t.map Rs.k).takeWhile (· == 2)).length).flatMap Rs.cells).drop j).take 4 = ri.cells := fun j hj => by rw [hj]; exact flat_at (f := Rs.cells) (sz := 4) (fun _ => rfl) _ i ri hri
            refine W143 ?_
            refine W197 ?_
            rw [hx _ (by omega)]
            refine wl1 (op_alloc ti104 (lt_ rfl)) rfl fun b5 => ?_
            refine W81 ?_
            refine W252 ?_
            refine WX.regs (L' := [(4, _), (17, _), (19, _), (124, _), (125, _), (126, _)]) ?_
            refine W0 ?_
            refine W3 ?_
            refine W133 ?_
            refine W65 ?_
            refine W114 ?_
            refine W52 ?_
            refine wl1 (op_lit1 Tryz.underlying36 ti30 rfl (by decide) (lt_ rfl) rfl rfl) rfl fun b6 => ?_
            refine wl2 (op_append Tryz.underlying36 ti30 rfl (by decide) (lt_ rfl) rfl rfl xK xS xO (by omega) (by omega)) rfl fun A1 c1 => ?_
            refine W133 ?_
            refine W134 ?_
            refine W252 ?_
            refine W146 ?_
            refine W330 ?_
            refine W146 ?_
            refine WX.ownEq (v := .slice A1 (i + 1) c1) ((((t.take ((t.map Rs.k).takeWhile (· == 2)).length).map Rs.b).take (i + 1)).map Bs.v) xK (by rw [take_snoc (x := ri.b) (by rw [List.getElem?_map, hri]; rfl), ← map_push]; rfl) ?_
            refine WX.meet ((i + 1, A1, c1)) ⟨by simp only []; omega, by simp only []; omega⟩ (fun a w hs => hs.sub xY xT)
           ·
            refine W284 ?_
            refine W116 ?_
            refine W49 ?_
            refine W271 ?_
            refine W48 ?_
            refine W242 ?_
            have hsome := areaL_some (g := p.g) (h := h) (t := t) (by omega)
            rw [← ham] at hsome
            have hie : i = ((t.map Rs.k).takeWhile (· == 2)).length := by omega
            subst hie
            have hel : ((t.take ((t.map Rs.k).takeWhile (· == 2)).length).map Rs.b).length = ((t.map Rs.k).takeWhile (· == 2)).length := by rw [List.length_map, List.length_take]; omega
            have hek : ((t.take ((t.map Rs.k).takeWhile (· == 2)).length).map Rs.b).take ((t.map Rs.k).takeWhile (· == 2)).length = ((t.take ((t.map Rs.k).takeWhile (· == 2)).length).map Rs.b) := List.take_of_length_le (by rw [hel]; exact Nat.le_refl _)
            refine W232 ?_
            refine WX.chEq (c := blk b2 _ 92) (blk b2 (Ar.cells ⟨true, p.g, ((vl (h.b.s.take 8) : Nat) : Int), Ao, co, ((t.take ((t.map Rs.k).takeWhile (· == 2)).length).map Rs.b)⟩) 92) xK (by unfold Ar.cells; rw [hel]; rfl) ?_
            refine W233 ?_
            exact Fin.ret2 xI (⟨true, p.g, _, Ao, co, ((t.take ((t.map Rs.k).takeWhile (· == 2)).length).map Rs.b)⟩) (by rw [hsome]; exact ⟨rfl, rfl, rfl, rfl⟩) Tryz.results40 rfl (.cellN rfl ag92 xM xL) (.tmp rfl) xT (by simp)
       ·
        have htw : ¬ ((t.map Rs.k).takeWhile (· == 2)).length = t.length := by intro htw; rw [if_pos htw] at h4; omega
        rw [if_neg htw]
        refine W262 ?_
        refine W328 ?_
        refine W86 ?_
        refine W4 ?_
        refine WL.split (t := 107) rfl (fun g107 => ?_) (fun g107 => ?_)
        ·
         refine W243 ?_
         refine W17 ?_
         refine W4 ?_
         refine W302 ?_
         refine W2 ?_
         refine W145 ?_
         refine W353 ?_
         refine W96 ?_
         refine W49 ?_
         refine W271 ?_
         refine W48 ?_
         refine W263 ?_
         have hnone : areaM n (rs.map Bs.s) = none := by rw [ham]; exact areaL_none (by omega)
         refine W258 ?_
         exact Fin.ret2 xI (Ar.zero) (by rw [hnone]; rfl) Tryz.results40 rfl (.cellN rfl ag92 xM xL) (.tmp rfl) xT (by simp)
        ·
         refine W13 ?_
         refine wlgv (op_notp (lt_ rfl) rfl) rfl rfl rfl ?_
         refine W15 ?_
         refine W4 ?_
         refine WL.split (t := 111) rfl (fun g111 => ?_) (fun g111 => ?_)
         ·
          refine W302 ?_
          refine W2 ?_
          refine W145 ?_
          refine W353 ?_
          refine W96 ?_
          refine W49 ?_
          refine W271 ?_
          refine W48 ?_
          refine W263 ?_
          have hnone : areaM n (rs.map Bs.s) = none := by rw [ham]; exact areaL_none (by omega)
          refine W258 ?_
          exact Fin.ret2 xI (Ar.zero) (by rw [hnone]; rfl) Tryz.results40 rfl (.cellN rfl ag92 xM xL) (.tmp rfl) xT (by simp)
         ·
          refine W345 ?_
          refine W98 ?_
          refine W285 ?_
          refine W145 ?_
          refine W0 ?_
          refine WC.cond rfl (fun h7 => ?_) (fun h7 => ?_)
          ·
           refine W240 ?_
           refine W96 ?_
           refine W49 ?_
           refine W271 ?_
           refine W48 ?_
           refine W263 ?_
           have hnone : areaM n (rs.map Bs.s) = none := by rw [ham]; exact areaL_none (by omega)
           refine W258 ?_
           exact Fin.ret2 xI (Ar.zero) (by rw [hnone]; rfl) Tryz.results40 rfl (.cellN rfl ag92 xM xL) (.tmp rfl) xT (by simp)
          ·
           refine W274 ?_
           refine WL.capx (A := Al) (m := (h :: t).length) (c := cl) (sz := 4) (xs := (h :: t).flatMap Rs.cells) (Src.rd xM) (fun hclp => ?_)
           have hcl2 : t.length + 1 ≤ cl := hclp
           rw [show min (vl (h.b.s.take 8)) 2147483647 = vl (h.b.s.take 8) from Nat.min_eq_left (by omega)]
           refine W335 ?_
           refine W4 ?_
           refine wlv (op_build (cs := [.bool true, .int .i64 p.g, .int .i64 ((vl (h.b.s.take 8) : Nat) : Int), .slice none 0 0]) (pv := [(0, _), (1, _), (2, _)]) (lt_ rfl) rfl (by kernel_rfl)) rfl ?_
           refine wl1 (op_alloc ti92 (lt_ rfl)) rfl fun b7 => ?_
           refine W49 ?_
           refine W252 ?_
           refine WX.regs (L' := [(4, _), (9, _), (16, _), (17, _)]) ?_
           refine W269 ?_
           refine W244 ?_
           refine W16 ?_
           refine wlv (op_slice_lh Tryz.underlying127 sz104 (lt_ rfl) rfl rfl rfl (by omega) (by omega) (by omega)) rfl ?_
           rw [show ((1 : Int) + ((((t.map Rs.k).takeWhile (· == 2)).length : Nat) : Int)).toNat = 1 + ((t.map Rs.k).takeWhile (· == 2)).length by omega]
           refine wlv (op_len Tryz.underlying127 (lt_ rfl) rfl) rfl ?_
           refine W272 ?_
           refine W146 ?_
           refine W294 ?_
           refine W231 ?_
           refine WC.nilslice 30 1 ?_
           refine WC.loop (X := Nat × Option Addr × Nat) (fun q => ((t.map Rs.k).takeWhile (· == 2)).length - q.1) (fun q => q.1 ≤ ((t.map Rs.k).takeWhile (· == 2)).length) (fun q => [(4, .pointer (some ⟨b2, 0, none⟩)), (17, .pointer (some ⟨b7, 0, none⟩)), (124, sliced Al 1 (1 + ((t.map Rs.k).takeWhile (· == 2)).length) cl 4), (125, .int .i64 ((((t.map Rs.k).takeWhile (· == 2)).length : Nat) : Int)), (126, .int .i64 (q.1 : Int))]) (fun q => [own (.slice q.2.1 q.1 q.2.2) 30 1 q.1 ((((t.take ((t.map Rs.k).takeWhile (· == 2)).length).map Rs.b).take q.1).map Bs.v), blk b7 [.bool true, .int .i64 p.g, .int .i64 ((vl (h.b.s.take 8) : Nat) : Int), .slice q.2.1 q.1 q.2.2] 92, rd (sliced Al 1 (1 + ((t.map Rs.k).takeWhile (· == 2)).length) cl 4) 4 (1 + ((t.map Rs.k).takeWhile (· == 2)).length - 1) ((t.take ((t.map Rs.k).takeWhile (· == 2)).length).flatMap Rs.cells), rowsC true ((h :: t).map Rs.b), blk b2 [.bool false, .int .i64 0, .int .i64 0, .slice none 0 0] 92, blk bd (dcells D bm A c) 77, mapC bm (dmap D.dur), own (.slice A D.pend.length c) 80 257 D.pend.length (D.pend.flatMap wcs), frameC w0 (MutF [blk bd (dcells D bm A c) 77, mapC bm (dmap D.dur), own (.slice A D.pend.length c) 80 257 D.pend.length (D.pend.flatMap wcs)])]) ((0, none, 0)) (Nat.zero_le _) (fun a w hs => hs.sub xY xT) ?_
           rintro ⟨i, Ao, co⟩ hi
           try dsimp only at hi ⊢
           refine W312 ?_
           refine WX.regs (L' := [(4, _), (17, _), (124, _), (125, _), (126, _), (127, _)]) ?_
           refine W327 ?_
           refine WC.cond rfl (fun h8 => ?_) (fun h8 => ?_)
           ·
            refine W298 ?_
            obtain ⟨ri, hri⟩ : ∃ r, (t.take ((t.map Rs.k).takeWhile (· == 2)).length)[i]? = some r := ⟨_, List.getElem?_eq_getElem (by rw [List.length_take]; omega)⟩
            have hx : ∀ j, j = i * 4 → (((t.take ((t.map Rs.k).takeWhile (· == 2)).length).flatMap Rs.cells).drop j).take 4 = ri.cells := fun j hj => by rw [hj]; exact flat_at (f := Rs.cells) (sz := 4) (fun _ => rfl) _ i ri hri
            refine W143 ?_
            refine W197 ?_
            rw [hx _ (by omega)]
            refine wl1 (op_alloc ti104 (lt_ rfl)) rfl fun b8 => ?_
            refine W81 ?_
            refine W252 ?_
            refine WX.regs (L' := [(4, _), (17, _), (19, _), (124, _), (125, _), (126, _)]) ?_
            refine W0 ?_
            refine W3 ?_
            refine W133 ?_
            refine W65 ?_
            refine W114 ?_
            refine W52 ?_
            refine wl1 (op_lit1 Tryz.underlying36 ti30 rfl (by decide) (lt_ rfl) rfl rfl) rfl fun b9 => ?_
            refine wl2 (op_append Tryz.underlying36 ti30 rfl (by decide) (lt_ rfl) rfl rfl xK xS xO (by omega) (by omega)) rfl fun A2 c2 => ?_
            refine W133 ?_
            refine W134 ?_
            refine W252 ?_
            refine W146 ?_
            refine W330 ?_
            refine W146 ?_
            refine WX.ownEq (v := .slice A2 (i + 1) c2) ((((t.take ((t.map Rs.k).takeWhile (· == 2)).length).map Rs.b).take (i + 1)).map Bs.v) xK (by rw [take_snoc (x := ri.b) (by rw [List.getElem?_map, hri]; rfl), ← map_push]; rfl) ?_
            refine WX.meet ((i + 1, A2, c2)) ⟨by simp only []; omega, by simp only []; omega⟩ (fun a w hs => hs.sub xY xT)
           ·
            refine W284 ?_
            refine W116 ?_
            refine W49 ?_
            refine W271 ?_
            refine W48 ?_
            refine W242 ?_
            have hsome := areaL_some (g := p.g) (h := h) (t := t) (by omega)
            rw [← ham] at hsome
            have hie : i = ((t.map Rs.k).takeWhile (· == 2)).length := by omega
            subst hie
            have hel : ((t.take ((t.map Rs.k).takeWhile (· == 2)).length).map Rs.b).length = ((t.map Rs.k).takeWhile (· == 2)).length := by rw [List.length_map, List.length_take]; omega
            have hek : ((t.take ((t.map Rs.k).takeWhile (· == 2)).length).map Rs.b).take ((t.map Rs.k).takeWhile (· == 2)).length = ((t.take ((t.map Rs.k).takeWhile (· == 2)).length).map Rs.b) := List.take_of_length_le (by rw [hel]; exact Nat.le_refl _)
            refine W232 ?_
            refine WX.chEq (c := blk b2 _ 92) (blk b2 (Ar.cells ⟨true, p.g, ((vl (h.b.s.take 8) : Nat) : Int), Ao, co, ((t.take ((t.map Rs.k).takeWhile (· == 2)).length).map Rs.b)⟩) 92) xK (by unfold Ar.cells; rw [hel]; rfl) ?_
            refine W233 ?_
            exact Fin.ret2 xI (⟨true, p.g, _, Ao, co, ((t.take ((t.map Rs.k).takeWhile (· == 2)).length).map Rs.b)⟩) (by rw [hsome]; exact ⟨rfl, rfl, rfl, rfl⟩) Tryz.results40 rfl (.cellN rfl ag92 xM xL) (.tmp rfl) xT (by simp)
end Go.Proofs.YtkjlbedebmffgaaGreat.Sx
namespace Go.Proofs.YtkjlbedebmffgaaGreat.Sx
open Go.RowKit Go.Proofs.YtkjlbedebmffgaaGreat.Ty
attribute [local irreducible] blk own rd rx frameC
theorem split_ok {k g n : Int} {p : List UInt8} (hf : fineP k g n) (hp : p.length ≤ 131072) : split k g n p = (sects k g n p, 0) := by
 unfold split; rw [if_neg (fun h => h hf), if_neg (by omega)]
def headP (first : Int) (c : Nat) : List UInt8 := be first.toNat 8 ++ be c 8
def areaS (g first : Int) (es : List (List UInt8)) : List (List UInt8) := sects 1 g 0 (headP first es.length) ++ recs 2 g 1 es
def writeM (D : Dk) (base g first : Int) (es : List (List UInt8)) : Dk × Int × Int :=
 if (putM D base (areaS g first es)).2 = 0 then ((putM D base (areaS g first es)).1.flush.1, ((areaS g first es).length : Int), (putM D base (areaS g first es)).1.flush.2)
 else ((putM D base (areaS g first es)).1, 0, (putM D base (areaS g first es)).2)
def bodyRs (g : Int) : Int → List Bs → List Rs
 | _, [] => []
 | n, r :: rs => ⟨2, g, n, r⟩ :: bodyRs g (n + 1) rs
def recSs (l : List Rs) : List (List UInt8) := l.flatMap fun r => sects r.k r.g r.n r.b.s
theorem bodyRs_snoc (g : Int) (rs : List Bs) (r : Bs) : ∀ n, bodyRs g n (rs ++ [r]) = bodyRs g n rs ++ [⟨2, g, n + rs.length, r⟩] := by
 induction rs with
 | nil => intro n; simp [bodyRs]
 | cons x rs ih =>
  intro n
  simp only [List.cons_append, bodyRs, ih, List.length_cons]
  congr 4
  omega
theorem bodyRs_length (g : Int) (rs : List Bs) : ∀ n, (bodyRs g n rs).length = rs.length := by
 induction rs with
 | nil => intro n; rfl
 | cons x rs ih => intro n; simp [bodyRs, ih]
theorem bodyRs_mem {g : Int} {rs : List Bs} : ∀ {n : Int} {r : Rs}, r ∈ bodyRs g n rs → r.k = 2 ∧ r.g = g ∧ n ≤ r.n ∧ r.n < n + rs.length ∧ r.b ∈ rs := by
 induction rs with
 | nil => intro n r h; cases h
 | cons x rs ih =>
  intro n r h
  simp only [bodyRs, List.mem_cons] at h
  rcases h with rfl | h
  ·exact ⟨rfl, rfl, Int.le_refl _, by simp only [List.length_cons]; omega, List.mem_cons_self ..⟩
  ·obtain ⟨h1, h2, h3, h4, h5⟩ := ih h
   exact ⟨h1, h2, by omega, by simp only [List.length_cons]; omega, List.mem_cons_of_mem _ h5⟩
theorem bodyRs_ss (g : Int) (rs : List Bs) : ∀ n, recSs (bodyRs g n rs) = recs 2 g n (rs.map Bs.s) := by
 induction rs with
 | nil => intro n; rfl
 | cons x rs ih =>
  intro n
  have e := ih (n + 1)
  unfold recSs at e ⊢
  simp only [bodyRs, List.flatMap_cons, List.map_cons, recs, e]
theorem recSs_snoc {l : List Rs} {i : Nat} {r : Rs} (h : l[i]? = some r) : recSs (l.take (i + 1)) = recSs (l.take i) ++ sects r.k r.g r.n r.b.s := by
 rw [take_snoc h]; simp [recSs]
theorem recSs_split (l : List Rs) (i : Nat) : recSs l = recSs (l.take i) ++ recSs (l.drop i) := by
 unfold recSs
 rw [← List.flatMap_append, List.take_append_drop]
def rlOf (g : Int) (hb : Bs) (rs : List Bs) : List Rs := ⟨1, g, 0, hb⟩ :: bodyRs g 1 rs
theorem rlOf_length (g : Int) (hb : Bs) (rs : List Bs) : (rlOf g hb rs).length = rs.length + 1 := by simp [rlOf, bodyRs_length]
theorem rlOf_bs (g : Int) (hb : Bs) (rs : List Bs) : ∀ r ∈ rlOf g hb rs, r.b ∈ hb :: rs := by
 intro r hr
 rcases List.mem_cons.1 hr with rfl | hr
 ·exact List.mem_cons_self ..
 ·exact List.mem_cons_of_mem _ (bodyRs_mem hr).2.2.2.2
theorem headP_length (f : Int) (c : Nat) : (headP f c).length = 16 := by simp [headP]
theorem areaS_eq {g f : Int} {hb : Bs} {rs : List Bs} (h : hb.s = headP f rs.length) : recSs (rlOf g hb rs) = areaS g f (rs.map Bs.s) := by
 have e := bodyRs_ss g rs 1
 unfold recSs at e ⊢
 simp only [rlOf, List.flatMap_cons, e, h, areaS, List.length_map]
theorem rlOf_fine {g : Int} {hb : Bs} {rs : List Bs} (hg : 0 ≤ g ∧ g ≤ 2147483647) (hl : rs.length ≤ 1000000) (hb16 : hb.s.length = 16) (hrs : ∀ r ∈ rs, r.s.length ≤ 131072) : ∀ r ∈ rlOf g hb rs, (r.k = 1 ∨ r.k = 2) ∧ (0 ≤ r.g ∧ r.g ≤ 2147483647) ∧ (0 ≤ r.n ∧ r.n ≤ 2147483647) ∧ r.g = g ∧ r.b.s.length ≤ 131072 := by
 intro r hr
 rcases List.mem_cons.1 hr with rfl | hr
 ·exact ⟨.inl rfl, hg, ⟨Int.le_refl _, by simp only []; omega⟩, rfl, by simp only []; omega⟩
 ·obtain ⟨h1, h2, h3, h4, h5⟩ := bodyRs_mem hr
  exact ⟨.inr h1, by omega, by omega, h2, hrs _ h5⟩
theorem rl_snoc (g : Int) (hb : Bs) {rs : List Bs} {i : Nat} {r : Bs} (h : rs[i]? = some r) : (rlOf g hb (rs.take i)).flatMap Rs.cells ++ [.int .i64 2, .int .i64 g, .int .i64 ((i : Int) + 1), r.v] = (rlOf g hb (rs.take (i + 1))).flatMap Rs.cells := by
 have hlt := (List.getElem?_eq_some_iff.1 h).1
 have hln : (1 : Int) + ((rs.take i).length : Nat) = (i : Int) + 1 := by rw [List.length_take]; omega
 rw [take_snoc h]
 unfold rlOf
 rw [bodyRs_snoc, hln, ← List.cons_append, List.flatMap_append]
 rfl
theorem fine_of {k g n : Int} (hk : k = 1 ∨ k = 2) (hg : 0 ≤ g ∧ g ≤ 2147483647) (hn : 0 ≤ n ∧ n ≤ 2147483647) : fineP k g n := by simp only [fineP]; omega
set_option maxHeartbeats 400000 in
set_option maxRecDepth 10000 in
theorem f39_spec (bd bm : Nat) (A : Option Addr) (c : Nat) (D : Dk) (fi n g first : Int) (k : Nat) (base : Int) (hbase : base = fi + n * ((k / 2 : Nat) : Int)) (AR : Option Addr) (M cR : Nat) (rs : List Bs) (hM : rs.length = M) (hn01 : 0 ≤ n ∧ n ≤ 1) (hfs : 0 ≤ fi ∧ 8 ≤ k ∧ fi + k ≤ 1000000) (hg : 0 ≤ g ∧ g ≤ 2147483647) (hf0 : 0 ≤ first ∧ first ≤ 1000000000000)
  (hrs : ∀ r ∈ rs, r.s.length ≤ 131072) (hMx : M ≤ 1000000) (hmx : D.pend.length + (areaS g first (rs.map Bs.s)).length ≤ 1000000) :
  Spec Tryz.prog 39 [.agg #[.pointer (some ⟨bd, 0, none⟩), .int .i64 fi, .int .i64 (k : Int)], .int .i64 n, .int .i64 g, .int .i64 first, .slice AR M cR] [blk bd (dcells D bm A c) 77, mapC bm (dmap D.dur), own (.slice A D.pend.length c) 80 257 D.pend.length (D.pend.flatMap wcs)] [rd (.slice AR M cR) 1 M (rs.map Bs.v), rowsC false rs] (R := Option Addr × Nat) (fun _ => True) (fun _ => .tuple #[.int .i64 (writeM D base g first (rs.map Bs.s)).2.1, .int .i64 (writeM D base g first (rs.map Bs.s)).2.2])
   (fun q => [blk bd (dcells (writeM D base g first (rs.map Bs.s)).1 bm q.1 q.2) 77, mapC bm (dmap (writeM D base g first (rs.map Bs.s)).1.dur), own (.slice q.1 (writeM D base g first (rs.map Bs.s)).1.pend.length q.2) 80 257 (writeM D base g first (rs.map Bs.s)).1.pend.length ((writeM D base g first (rs.map Bs.s)).1.pend.flatMap wcs)]) := by
 have hnh : 0 ≤ n * ((k / 2 : Nat) : Int) ∧ n * ((k / 2 : Nat) : Int) ≤ ((k / 2 : Nat) : Int) := by
  rcases (show n = 0 ∨ n = 1 by omega) with rfl | rfl
  ·rw [Int.zero_mul]; omega
  ·rw [Int.one_mul]; omega
 obtain ⟨f, rfl⟩ := Int.eq_ofNat_of_zero_le hf0.1
 refine Spec.intro Tryz.func39 Tryz.ntmps39 rfl (by simp) (by simp) fun w0 => ?_
 refine W240 ?_
 refine wl1 (op_box (lt_ rfl) rfl rfl) rfl fun b1 => ?_
 refine W251 ?_
 refine WX.regs (L' := [(1, _), (2, _), (3, _), (4, _), (5, _)]) ?_
 refine W299 ?_
 refine wlx (op_call (f64_spec f (by omega)) ca64 (lt_ rfl) rfl) rfl ?_
 rintro bw1 _
 refine W4 ?_
 refine W40 ?_
 refine wlx (op_call (f64_spec M (by omega)) ca64 (lt_ rfl) rfl) rfl ?_
 rintro bw2 _
 refine wl2 (op_append Tryz.underlying30 ti5 rfl (by decide) (lt_ rfl) rfl rfl xK xS xO (by omega) (by omega)) rfl fun A1 c1 => ?_
 rw [show bvs (be f 8) ++ bvs (be M 8) = bvs (headP (f : Int) M) by simp [bvs, headP], show (8 + 8 : Nat) = (headP (f : Int) M).length from (headP_length _ _).symm]
 refine wlv (op_build (cs := [.int .i64 1, .int .i64 g, .int .i64 0, .slice A1 (headP (f : Int) M).length c1]) (pv := [(0, _), (1, _), (3, _)]) (lt_ rfl) rfl (by kernel_rfl)) rfl ?_
 refine wl1 (op_lit1 Tryz.underlying127 ti104 rfl (by decide) (lt_ rfl) rfl rfl) rfl fun b2 => ?_
 refine W241 ?_
 refine WX.regs (L' := [(1, _), (2, _), (4, _), (5, _), (12, _)]) ?_
 refine W282 ?_
 refine W40 ?_
 refine W272 ?_
 refine WX.regs (L' := [(1, _), (2, _), (5, _), (12, _), (29, _), (30, _), (31, _)]) ?_
 refine W294 ?_
 refine WC.loop (X := Nat × Option Addr × Nat) (fun q => M - q.1) (fun q => q.1 ≤ M) (fun q => [(1, .int .i64 n), (2, .int .i64 g), (5, .pointer (some ⟨b1, 0, none⟩)), (12, .slice q.2.1 (q.1 + 1) q.2.2), (29, .slice AR M cR), (30, .int .i64 (M : Int)), (31, .int .i64 (q.1 : Int))]) (fun q => [own (.slice q.2.1 (q.1 + 1) q.2.2) 104 4 (q.1 + 1) ((rlOf g ⟨A1, c1, headP (f : Int) M⟩ (rs.take q.1)).flatMap Rs.cells), own (.slice A1 (headP (f : Int) M).length c1) 5 1 (headP (f : Int) M).length (bvs (headP (f : Int) M)), blk b1 [.pointer (some ⟨bd, 0, none⟩), .int .i64 fi, .int .i64 (k : Int)] 88, blk bd (dcells D bm A c) 77, mapC bm (dmap D.dur), own (.slice A D.pend.length c) 80 257 D.pend.length (D.pend.flatMap wcs), rd (.slice AR M cR) 1 M (rs.map Bs.v), rowsC false rs, frameC w0 (MutF [blk bd (dcells D bm A c) 77, mapC bm (dmap D.dur), own (.slice A D.pend.length c) 80 257 D.pend.length (D.pend.flatMap wcs)])]) ((0, some ⟨b2, 0, none⟩, 1)) (Nat.zero_le _) (fun a w hs => hs.sub xY xT) ?_
 rintro ⟨i, Ao, co⟩ hi
 try dsimp only at hi ⊢
 refine W312 ?_
 refine WX.regs (L' := [(1, _), (2, _), (5, _), (12, _), (29, _), (30, _), (31, _), (32, _)]) ?_
 refine W327 ?_
 refine WC.cond rfl (fun h1 => ?_) (fun h1 => ?_)
 ·
  refine W298 ?_
  obtain ⟨ri, hri⟩ : ∃ r, rs[i]? = some r := ⟨rs[i]'(by omega), List.getElem?_eq_getElem _⟩
  refine W4 ?_
  refine W95 ?_
  refine W141 ?_
  refine W251 ?_
  refine WX.regs (L' := [(1, _), (2, _), (5, _), (12, _), (13, _), (14, _), (29, _), (30, _), (31, _)]) ?_
  refine W0 ?_
  refine W334 ?_
  refine W4 ?_
  refine W16 ?_
  refine W4 ?_
  refine wlv (op_build (cs := [.int .i64 2, .int .i64 g, .int .i64 ((i : Int) + 1), ri.v]) (pv := [(0, _), (1, _), (2, _), (3, _)]) (lt_ rfl) rfl (by kernel_rfl)) rfl ?_
  refine wl1 (op_lit1 Tryz.underlying127 ti104 rfl (by decide) (lt_ rfl) rfl rfl) rfl fun b3 => ?_
  refine wl2 (op_append Tryz.underlying127 ti104 rfl (by decide) (lt_ rfl) rfl rfl xK xS xO (by omega) (by omega)) rfl fun A2 c2 => ?_
  refine W241 ?_
  refine WX.regs (L' := [(1, _), (2, _), (5, _), (12, _), (29, _), (30, _), (31, _)]) ?_
  refine W330 ?_
  refine WX.regs (L' := [(1, _), (2, _), (5, _), (12, _), (29, _), (30, _), (31, _)]) ?_
  refine WX.ownEq (v := .slice A2 (i + 1 + 1) c2) ((rlOf g ⟨A1, c1, headP (f : Int) M⟩ (rs.take (i + 1))).flatMap Rs.cells) xK (rl_snoc g ⟨A1, c1, headP (f : Int) M⟩ hri) ?_
  refine WX.meet ((i + 1, A2, c2)) ⟨by simp only []; omega, by simp only []; omega⟩ (fun a w hs => hs.sub xY xT)
 ·
  refine W284 ?_
  refine W241 ?_
  refine WX.regs (L' := [(1, _), (5, _), (12, _), (15, _)]) ?_
  refine W282 ?_
  refine wlv (op_len Tryz.underlying127 (lt_ rfl) rfl) rfl ?_
  refine W272 ?_
  refine WX.regs (L' := [(1, _), (5, _), (15, _), (45, _), (46, _), (47, _)]) ?_
  refine W294 ?_
  obtain rfl : M = i := by omega
  rw [List.take_of_length_le (by omega : rs.length ≤ M)]
  refine WC.nilrows false ?_
  refine WC.merge2 (c1 := rowsC false []) (c2 := own (.slice A1 (headP (f : Int) M).length c1) 5 1 (headP (f : Int) M).length (bvs (headP (f : Int) M))) (d := rowsC false ([] ++ [(⟨A1, c1, headP (f : Int) M⟩ : Bs)])) xK xK (rowsC_snoc (own_le_bs rfl) (fun h => by cases h)) ?_
  refine WC.merge2 (c1 := rowsC false ([] ++ [(⟨A1, c1, headP (f : Int) M⟩ : Bs)])) (c2 := rowsC false rs) (d := rowsC false (⟨A1, c1, headP (f : Int) M⟩ :: rs)) xK xK (rowsC_app (e1 := false) (e2 := false)) ?_
  refine WC.loop (X := Nat × Option Addr × Nat) (fun q => M + 1 - q.1) (fun q => q.1 ≤ M + 1 ∧ (putM D base (recSs ((rlOf g ⟨A1, c1, headP (f : Int) M⟩ rs).take q.1))).2 = 0) (fun q => [(1, .int .i64 n), (5, .pointer (some ⟨b1, 0, none⟩)), (15, .int .i64 ((recSs ((rlOf g ⟨A1, c1, headP (f : Int) M⟩ rs).take q.1)).length : Int)), (45, .slice Ao (M + 1) co), (46, .int .i64 ((M : Int) + 1)), (47, .int .i64 (q.1 : Int))]) (fun q => [own (.slice Ao (M + 1) co) 104 4 (M + 1) ((rlOf g ⟨A1, c1, headP (f : Int) M⟩ rs).flatMap Rs.cells), rowsC false (⟨A1, c1, headP (f : Int) M⟩ :: rs), blk b1 [.pointer (some ⟨bd, 0, none⟩), .int .i64 fi, .int .i64 (k : Int)] 88, blk bd (dcells (putM D base (recSs ((rlOf g ⟨A1, c1, headP (f : Int) M⟩ rs).take q.1))).1 bm q.2.1 q.2.2) 77, mapC bm (dmap (putM D base (recSs ((rlOf g ⟨A1, c1, headP (f : Int) M⟩ rs).take q.1))).1.dur), own (.slice q.2.1 (putM D base (recSs ((rlOf g ⟨A1, c1, headP (f : Int) M⟩ rs).take q.1))).1.pend.length q.2.2) 80 257 (putM D base (recSs ((rlOf g ⟨A1, c1, headP (f : Int) M⟩ rs).take q.1))).1.pend.length ((putM D base (recSs ((rlOf g ⟨A1, c1, headP (f : Int) M⟩ rs).take q.1))).1.pend.flatMap wcs), frameC w0 (MutF [blk bd (dcells D bm A c) 77, mapC bm (dmap D.dur), own (.slice A D.pend.length c) 80 257 D.pend.length (D.pend.flatMap wcs)])]) ((0, A, c)) (⟨Nat.zero_le _, by rfl⟩) (fun a w hs => hs.sub xY xT) ?_
  rintro ⟨j, Ac, cc⟩ ⟨hj, hz⟩
  try dsimp only at hj hz ⊢
  refine W312 ?_
  refine WX.regs (L' := [(1, _), (5, _), (15, _), (45, _), (46, _), (47, _), (48, _)]) ?_
  refine W327 ?_
  refine WC.cond rfl (fun h2 => ?_) (fun h2 => ?_)
  ·
   refine W298 ?_
   obtain ⟨r, hr⟩ : ∃ r, (rlOf g ⟨A1, c1, headP (f : Int) M⟩ rs)[j]? = some r := ⟨_, List.getElem?_eq_getElem (by rw [rlOf_length]; omega)⟩
   have hx : ∀ i, i = j * 4 → (((rlOf g ⟨A1, c1, headP (f : Int) M⟩ rs).flatMap Rs.cells).drop i).take 4 = r.cells := fun i hi => by rw [hi]; exact flat_at (f := Rs.cells) (sz := 4) (fun _ => rfl) _ j r hr
   have hmr : r ∈ (rlOf g ⟨A1, c1, headP (f : Int) M⟩ rs) := List.mem_of_getElem? hr
   have hmb := rlOf_bs _ _ _ r hmr
   have hrp := rlOf_fine hg (by omega) (headP_length (f : Int) M) hrs r hmr
   have hss := recSs_snoc hr
   have hul : (recSs ((rlOf g ⟨A1, c1, headP (f : Int) M⟩ rs).take (j + 1))).length = (recSs ((rlOf g ⟨A1, c1, headP (f : Int) M⟩ rs).take j)).length + (sects r.k r.g r.n r.b.s).length := by rw [hss, List.length_append]
   have hsp := congrArg List.length (recSs_split (rlOf g ⟨A1, c1, headP (f : Int) M⟩ rs) (j + 1))
   rw [List.length_append, areaS_eq (f := (f : Int)) (by rw [hM])] at hsp
   have hpl := putM_len (ss := recSs ((rlOf g ⟨A1, c1, headP (f : Int) M⟩ rs).take j)) D base
   have hstep : (putM D base (recSs ((rlOf g ⟨A1, c1, headP (f : Int) M⟩ rs).take (j + 1)))) = putM (putM D base (recSs ((rlOf g ⟨A1, c1, headP (f : Int) M⟩ rs).take j))).1 (base + ((recSs ((rlOf g ⟨A1, c1, headP (f : Int) M⟩ rs).take j)).length : Int)) (sects r.k r.g r.n r.b.s) := by rw [hss, putM_app, if_pos hz]
   refine W143 ?_
   refine W197 ?_
   rw [hx _ (by omega)]
   refine wl1 (op_alloc ti104 (lt_ rfl)) rfl fun b4 => ?_
   refine W81 ?_
   refine W252 ?_
   refine WX.regs (L' := [(1, _), (5, _), (15, _), (17, _), (45, _), (46, _), (47, _)]) ?_
   refine W249 ?_
   refine WL.dup (c := rowsC false (⟨A1, c1, headP (f : Int) M⟩ :: rs)) (d := rd (.slice r.b.A r.b.s.length r.b.c) 1 r.b.s.length (bvs r.b.s)) xM rfl (by simp) (rowsC_get (r := r.b) hmb) ?_
   refine wlv (op_loadAll ag104 (lt_ rfl) rfl xM xL) rfl ?_
   refine wlx (op_call (f45_spec r.k r.g r.n r.b.A r.b.s.length r.b.c r.b.s rfl) ca45 (lt_ rfl) rfl) rfl ?_
   rintro ⟨Ax, cx, xs, ex⟩ hxs
   dsimp only at hxs
   rw [split_ok (fine_of hrp.1 hrp.2.1 hrp.2.2.1) hrp.2.2.2.2, Prod.mk.injEq] at hxs
   obtain ⟨hxs, rfl⟩ := hxs
   have hxl : xs.length = (sects r.k r.g r.n r.b.s).length := by rw [← hxs, List.length_map]
   dsimp only
   refine W341 ?_
   refine WX.regs (L' := [(1, _), (5, _), (15, _), (18, _), (19, _), (45, _), (46, _), (47, _)]) ?_
   refine W282 ?_
   refine W42 ?_
   refine W2 ?_
   refine WX.regs (L' := [(1, _), (5, _), (15, _), (18, _), (19, _), (45, _), (46, _), (47, _), (57, _)]) ?_
   refine W0 ?_
   refine WC.cond rfl (fun h3 => ?_) (fun h3 => ?_)
   ·
    refine WC.drawn (Hs := [blk b1 [.pointer (some ⟨bd, 0, none⟩), .int .i64 fi, .int .i64 (k : Int)] 88]) mo 999 ?_
    refine WA.take (i := 0) rfl (by kernel_rfl) (fun _ _ _ h => h) rfl (op_loadAll ag88 (lt_ rfl) rfl xM xL) xT ?_
    refine W39 ?_
    refine WA.take (i := 2) rfl (by kernel_rfl) (fun _ _ _ h => h) rfl (op_loadAll ag88 (lt_ rfl) rfl xM xL) xT ?_
    refine W67 ?_
    refine W168 ?_
    refine WA.stepx (i := 3) (by kernel_rfl) rfl rfl (op_call (f43_spec bd fi (k : Int) (by omega) (by omega)) ca43 (lt_ rfl) rfl) (fun _ r => xT) ?_
    rintro _ _
    rw [show ((k : Int)) / 2 = ((k / 2 : Nat) : Int) by omega]
    refine WA.take (i := 4) rfl (by kernel_rfl) (fun _ _ _ h => h) rfl (op_mul (lt_ rfl) rfl rfl (by omega)) xT ?_
    refine WA.take (i := 6) rfl (by kernel_rfl) (fun _ _ _ h => h) rfl (op_add (lt_ rfl) rfl rfl (by omega)) xT ?_
    refine WA.stepx (i := 8) (by kernel_rfl) rfl rfl (op_call (f47_spec bd bm Ac cc (putM D base (recSs ((rlOf g ⟨A1, c1, headP (f : Int) M⟩ rs).take j))).1 fi (k : Int) (n * ((k / 2 : Nat) : Int) + ((recSs ((rlOf g ⟨A1, c1, headP (f : Int) M⟩ rs).take j)).length : Int)) Ax xs.length cx xs rfl (by omega) (by omega)) ca47 (lt_ rfl) rfl) (fun _ r => xT) ?_
    rintro ⟨A9, c9⟩ _
    rw [show fi + (n * ((k / 2 : Nat) : Int) + ((recSs ((rlOf g ⟨A1, c1, headP (f : Int) M⟩ rs).take j)).length : Int)) = base + ((recSs ((rlOf g ⟨A1, c1, headP (f : Int) M⟩ rs).take j)).length : Int) by omega, hxs, ← hstep]
    refine WA.take (i := 9) rfl (by kernel_rfl) (fun _ _ _ h => h) rfl (op_assign (lt_ rfl) rfl) xT ?_
    refine W19 ?_
    refine WX.regs (L' := [(1, _), (5, _), (15, _), (18, _), (19, _), (45, _), (46, _), (47, _)]) ?_
    refine W332 ?_
    refine WX.regs (L' := [(1, _), (5, _), (15, _), (18, _), (19, _), (45, _), (46, _), (47, _), (68, _)]) ?_
    refine W0 ?_
    refine WC.cond rfl (fun h4 => ?_) (fun h4 => ?_)
    ·
     refine W351 ?_
     refine W251 ?_
     refine WX.regs (L' := [(10, _), (11, _)]) ?_
     refine W263 ?_
     refine W246 ?_
     refine W315 ?_
     have hw : putM D base (areaS g (f : Int) (rs.map Bs.s)) = (putM D base (recSs ((rlOf g ⟨A1, c1, headP (f : Int) M⟩ rs).take (j + 1)))) := by rw [← areaS_eq (hb := ⟨A1, c1, headP (f : Int) M⟩) (f := (f : Int)) (by rw [hM]), recSs_split _ (j + 1), putM_app, if_neg (by omega)]
     unfold writeM
     rw [if_neg (by rw [hw]; omega), hw]
     exact Fin.ret2 xI ((A9, c9)) (trivial) Tryz.results39 rfl (.tmp rfl) (.tmp rfl) xT (by simp)
    ·
     refine W262 ?_
     refine W334 ?_
     refine W40 ?_
     refine W295 ?_
     refine WX.regs (L' := [(1, _), (5, _), (15, _), (45, _), (46, _), (47, _)]) ?_
     refine W330 ?_
     refine WX.regs (L' := [(1, _), (5, _), (15, _), (45, _), (46, _), (47, _)]) ?_
     rw [show ((recSs ((rlOf g ⟨A1, c1, headP (f : Int) M⟩ rs).take j)).length : Int) + (xs.length : Int) = ((recSs ((rlOf g ⟨A1, c1, headP (f : Int) M⟩ rs).take (j + 1))).length : Int) by omega]
     refine WX.meet ((j + 1, A9, c9)) ⟨⟨by simp only []; omega, by simp only []; omega⟩, by simp only []; omega⟩ (fun a w hs => hs.sub xY xT)
   ·
    exact absurd rfl h3
  ·
   refine W284 ?_
   have hall : recSs ((rlOf g ⟨A1, c1, headP (f : Int) M⟩ rs).take j) = (areaS g (f : Int) (rs.map Bs.s)) := by rw [List.take_of_length_le (by rw [rlOf_length]; omega)]; exact areaS_eq (by rw [hM])
   rw [hall] at hz
   rw [hall]
   refine W4 ?_
   refine W316 ?_
   refine wlx (op_call (f56_spec bd bm Ac cc (putM D base (areaS g (f : Int) (rs.map Bs.s))).1 (by have := putM_len (ss := (areaS g (f : Int) (rs.map Bs.s))) D base; omega)) ca56 (lt_ rfl) rfl) rfl ?_
   rintro ⟨A9, c9⟩ _
   refine W251 ?_
   refine WX.regs (L' := [(10, _), (11, _)]) ?_
   refine W242 ?_
   unfold writeM
   rw [if_pos hz]
   exact Fin.ret2 xI ((A9, c9)) (trivial) Tryz.results39 rfl (.tmp rfl) (.tmp rfl) xT (by simp)
end Go.Proofs.YtkjlbedebmffgaaGreat.Sx
namespace Go.Proofs.YtkjlbedebmffgaaGreat.Sx
open Go.RowKit
section
variable {P : Program} {Q : Exit → Act → World → Prop} {n : Fr} {L : List (Nat × Value)} {H F : List Ch} {ops : Array Oper} {rest : List Oper} {c : Code}
def SpecD (P : Program) (f : FuncId) (args : List Value) (T D : List Ch) {R : Type} (φ : R → Prop) (ret : R → Value) (B : R → List Ch) : Prop :=
 ∀ w, Sat w (T ++ D) → CallsD P f args.toArray .returning w fun e u' w' => u' = .returning ∧ ∃ r, e = .returned (ret r) ∧ φ r ∧ Sat w' (B r) ∧ Chg (MutF T) w w' ∧ ∀ c ∈ B r, ∀ b, c.foot b → w.heap.size ≤ b ∨ MutF T b
theorem SpecD.intro {f : FuncId} {fn : Func} {args : List Value} {T D : List Ch} {R : Type} {φ : R → Prop} {ret : R → Value} {B : R → List Ch} (hf : P.funcs[f]? = some fn) {m : Nat} (hm : fn.ntmps = m) (hb : fn.body = some c)
  (hsz : args.length ≤ m) (hD : ∀ d ∈ D, d.ex = false) (h : ∀ w0, WC P c (Fin P fn w0 T φ ret B) ⟨m, []⟩ (argL 0 args) (T ++ D ++ [frameC w0 (MutF T)])) : SpecD P f args T D φ ret B := by
 intro w hs
 refine (callsD_of_wp hf hb (h w _ w ⟨⟨?_, rfl, ?_⟩, hs.withFrame hD⟩)).mono fun e u' w' k => k
 ·simp [hm]; omega
 ·intro d v hv
  obtain ⟨_, h2⟩ := argL_get args 0 d v hv
  simp only [Nat.sub_zero] at h2
  have hlt := (List.getElem?_eq_some_iff.1 h2).1
  rw [Array.getElem?_append_left (by simpa using hlt)]
  simpa using h2
def FinD (P : Program) (fn : Func) (w0 : World) (T : List Ch) {R : Type} (φ : R → Prop) (ret : R → Value) (B : R → List Ch) : Exit → Act → World → Prop
 | .normal, a, w => Leaves P fn a.tmps (fun e w' => ∃ r, e = .returned (ret r) ∧ φ r ∧ Sat w' (B r) ∧ Chg (MutF T) w0 w' ∧ ∀ c ∈ B r, ∀ b, c.foot b → w0.heap.size ≤ b ∨ MutF T b) a.defers .returning w
 | .ret, a, w => Leaves P fn a.tmps (fun e w' => ∃ r, e = .returned (ret r) ∧ φ r ∧ Sat w' (B r) ∧ Chg (MutF T) w0 w' ∧ ∀ c ∈ B r, ∀ b, c.foot b → w0.heap.size ≤ b ∨ MutF T b) a.defers .returning w
 | _, _, _ => False
theorem FinD.body {fn : Func} {w0 : World} {T : List Ch} {R : Type} {φ : R → Prop} {ret : R → Value} {B : R → List Ch} {e : Exit} {a : Act} {w : World} (h : FinD P fn w0 T φ ret B e a w) :
  bodyPostD P fn (fun e w' => ∃ r, e = .returned (ret r) ∧ φ r ∧ Sat w' (B r) ∧ Chg (MutF T) w0 w' ∧ ∀ c ∈ B r, ∀ b, c.foot b → w0.heap.size ≤ b ∨ MutF T b) e a w := by
 cases e <;> first | exact h | exact h.elim
theorem Spec.introD {f : FuncId} {fn : Func} {args : List Value} {T D : List Ch} {R : Type} {φ : R → Prop} {ret : R → Value} {B : R → List Ch} (hf : P.funcs[f]? = some fn) {m : Nat} (hm : fn.ntmps = m) (hb : fn.body = some c)
  (hsz : args.length ≤ m) (hD : ∀ d ∈ D, d.ex = false) (h : ∀ w0, WC P c (FinD P fn w0 T φ ret B) ⟨m, []⟩ (argL 0 args) (T ++ D ++ [frameC w0 (MutF T)])) : Spec P f args T D φ ret B := by
 intro w hs
 refine calls_of_wp_defers hf hb (wp_mono (h w _ w ⟨⟨?_, rfl, ?_⟩, hs.withFrame hD⟩) fun _ _ _ h => h.body)
 ·simp [hm]; omega
 ·intro d v hv
  obtain ⟨_, h2⟩ := argL_get args 0 d v hv
  simp only [Nat.sub_zero] at h2
  have hlt := (List.getElem?_eq_some_iff.1 h2).1
  rw [Array.getElem?_append_left (by simpa using hlt)]
  simpa using h2
theorem FinD.go {m : Nat} {fn : Func} {w0 : World} {T : List Ch} {R : Type} {φ : R → Prop} {ret : R → Value} {B : R → List Ch} {e : Exit} (he : e = .ret ∨ e = .normal) (r : R) (hφ : φ r)
  (hres : ∀ a w, St ⟨m, []⟩ L H a w → (results fn a.tmps).run P w = .ok (ret r) w) (hB : Takes H (frameC w0 (MutF T) :: B r) F) (hex : ∀ c ∈ B r, c.ex = true) : WX (FinD P fn w0 T φ ret B) e ⟨m, []⟩ L H := by
 intro a w hs
 have hsat := (hs.sat.takes hB).app_left
 have hchg : Chg (MutF T) w0 w := hsat.head
 have hap := (List.pairwise_cons.1 hsat.apart).1
 have hfin : Leaves P fn a.tmps (fun e w' => ∃ r, e = .returned (ret r) ∧ φ r ∧ Sat w' (B r) ∧ Chg (MutF T) w0 w' ∧ ∀ c ∈ B r, ∀ b, c.foot b → w0.heap.size ≤ b ∨ MutF T b) a.defers .returning w := by
  rw [hs.regs.defers]
  refine ⟨_, hres a w hs, r, rfl, hφ, hsat.tail, hchg, fun c hc b hb => ?_⟩
  by_cases hlt : b < w0.heap.size
  ·right
   by_cases hm : MutF T b
   ·exact hm
   ·exact absurd hb (hap c hc (.inr (hex c hc)) b ⟨hlt, hm⟩)
  ·left; omega
 rcases he with rfl | rfl <;> exact hfin
theorem FinD.ret1 {m : Nat} {fn : Func} {w0 : World} {T : List Ch} {R : Type} {φ : R → Prop} {ret : R → Value} {B : R → List Ch} {e : Exit} (he : e = .ret ∨ e = .normal) (r : R) (hφ : φ r) {r1 : ResultVar}
  (hr : fn.results = #[r1]) (h1 : Res P ⟨m, []⟩ L H r1 (ret r)) (hB : Takes H (frameC w0 (MutF T) :: B r) F) (hex : ∀ c ∈ B r, c.ex = true) : WX (FinD P fn w0 T φ ret B) e ⟨m, []⟩ L H :=
 FinD.go he r hφ (fun a w hs => by rw [results_eq, hr]; simp [h1.run a w hs]) hB hex
theorem FinD.ret2 {m : Nat} {fn : Func} {w0 : World} {T : List Ch} {R : Type} {φ : R → Prop} {ret : R → Value} {B : R → List Ch} {e : Exit} (he : e = .ret ∨ e = .normal) (r : R) (hφ : φ r) {r1 r2 : ResultVar} {v1 v2 : Value}
  (hr : fn.results = #[r1, r2]) (hv : ret r = .tuple #[v1, v2]) (h1 : Res P ⟨m, []⟩ L H r1 v1) (h2 : Res P ⟨m, []⟩ L H r2 v2) (hB : Takes H (frameC w0 (MutF T) :: B r) F) (hex : ∀ c ∈ B r, c.ex = true) : WX (FinD P fn w0 T φ ret B) e ⟨m, []⟩ L H :=
 FinD.go he r hφ (fun a w hs => by rw [results_eq, hr, hv]; simp [h1.run a w hs, h2.run a w hs]) hB hex
theorem FinD.one {m : Nat} {fn : Func} {w0 : World} {T : List Ch} {R : Type} {φ : R → Prop} {ret : R → Value} {B : R → List Ch} {e : Exit} (he : e = .ret ∨ e = .normal) {f : FuncId} {vs : List Value} {T1 D1 : List Ch} {R1 : Type} {φ1 : R1 → Prop} {ret1 : R1 → Value} {B1 : R1 → List Ch} {ds : List Deferred}
  (hsp : SpecD P f vs T1 D1 φ1 ret1 B1) (hc : Callable P f) (hG : Give H T1 D1 F) (hk : ∀ r, φ1 r → WX (FinD P fn w0 T φ ret B) .ret ⟨m, ds⟩ L (B1 r ++ F)) :
  WX (FinD P fn w0 T φ ret B) e ⟨m, ⟨.fn (.func f) #[], vs.toArray⟩ :: ds⟩ L H := by
 intro a w hs
 have h1 := hs.sat.takes hG.t
 have hfin : Leaves P fn a.tmps (fun e w' => ∃ r, e = .returned (ret r) ∧ φ r ∧ Sat w' (B r) ∧ Chg (MutF T) w0 w' ∧ ∀ c ∈ B r, ∀ b, c.foot b → w0.heap.size ≤ b ∨ MutF T b) a.defers .returning w := by
  rw [hs.regs.defers]
  refine leaves_cons (by simp) (f := f) (args := vs.toArray) (by simp [invoke, hc.run]) ((hsp w (h1.ros hG.d.all)).mono ?_)
  rintro e' u' w' ⟨rfl, r, rfl, hφ, hB, hchg, hnew⟩
  have h2 := hk r hφ { a with defers := ds } w' ⟨⟨hs.regs.size, rfl, hs.regs.get⟩, h1.frame hB hchg hnew⟩
  exact h2
 rcases he with rfl | rfl <;> exact hfin
section
variable {ty : TypeId} {pos : String} {af : Array Edge} {g : Option (Nat × Bool)} {f : FuncId}
theorem op_defer {xs : List Operand} {vs : List Value} {ats : Array TypeId} (hargs : xs.map (evr L) = vs.map some) :
  Opn P Q ⟨none, .defer { callee := .value (.func f), args := xs.toArray, argTypes := ats }, ty, pos, af, g⟩ n L H (fun a w => St ⟨n.n, ⟨.fn (.func f) #[], vs.toArray⟩ :: n.ds⟩ L H a w) := by
 intro a w hs K hK
 unfold Oper.wp
 have e1 : xs.toArray.map a.eval = vs.toArray := by rw [List.map_toArray, evals hs xs vs hargs]
 have e2 : a.eval (.func f) = .func (.func f) #[] #[] := rfl
 have h : (execOp a.eval ⟨none, .defer { callee := .value (.func f), args := xs.toArray, argTypes := ats }, ty, pos, af, g⟩).run P w = .ok (.defer ⟨.fn (.func f) #[], vs.toArray⟩) w := by
  simp only [execOp, resolve, Deferred.ofValue, e1, e2, Sem.run_bind, Sem.run_pure, Result.andThen_ok]
  simp
 rw [h, Oper.upon_defer]
 exact hK _ _ ⟨⟨hs.regs.size, by simp [Act.put, hs.regs.defers], hs.regs.get⟩, hs.sat⟩
end
end
end Go.Proofs.YtkjlbedebmffgaaGreat.Sx
namespace Go.Proofs.YtkjlbedebmffgaaGreat.Sx
open Go.RowKit Go.Proofs.YtkjlbedebmffgaaGreat.Ty
attribute [local irreducible] blk own rd rx frameC
def changeM (D : Dk) (J : Jn) (first : Int) (es : List (List UInt8)) : Dk × Jn × Int :=
 if ¬ (nextM (1 - J.cur) (D.seen J.fi J.se.toNat)).2 = 0 then (D, J, (nextM (1 - J.cur) (D.seen J.fi J.se.toNat)).2)
 else if ¬ (writeM D (J.fi + (1 - J.cur) * ((J.se.toNat / 2 : Nat) : Int)) (nextM (1 - J.cur) (D.seen J.fi J.se.toNat)).1 first es).2.2 = 0 then
  ((writeM D (J.fi + (1 - J.cur) * ((J.se.toNat / 2 : Nat) : Int)) (nextM (1 - J.cur) (D.seen J.fi J.se.toNat)).1 first es).1, J, (writeM D (J.fi + (1 - J.cur) * ((J.se.toNat / 2 : Nat) : Int)) (nextM (1 - J.cur) (D.seen J.fi J.se.toNat)).1 first es).2.2)
 else ((writeM D (J.fi + (1 - J.cur) * ((J.se.toNat / 2 : Nat) : Int)) (nextM (1 - J.cur) (D.seen J.fi J.se.toNat)).1 first es).1,
  { J with cur := 1 - J.cur, gen := (nextM (1 - J.cur) (D.seen J.fi J.se.toNat)).1, first := first, used := (writeM D (J.fi + (1 - J.cur) * ((J.se.toNat / 2 : Nat) : Int)) (nextM (1 - J.cur) (D.seen J.fi J.se.toNat)).1 first es).2.1, synced := first + es.length }, 0)
theorem changeM_next {D : Dk} {J : Jn} {first : Int} {es : List (List UInt8)} {g e : Int} (hg : (g, e) = nextM (1 - J.cur) (D.seen J.fi J.se.toNat)) (he : ¬ e = 0) : changeM D J first es = (D, J, e) := by
 unfold changeM; rw [← hg, if_pos he]
theorem changeM_write {D : Dk} {J : Jn} {first base : Int} {es : List (List UInt8)} {g : Int} (hg : (g, 0) = nextM (1 - J.cur) (D.seen J.fi J.se.toNat)) (hb : base = J.fi + (1 - J.cur) * ((J.se.toNat / 2 : Nat) : Int)) (he : ¬ (writeM D base g first es).2.2 = 0) : changeM D J first es = ((writeM D base g first es).1, J, (writeM D base g first es).2.2) := by
 unfold changeM; rw [← hg, ← hb, if_neg (fun h => h rfl), if_pos he]
theorem changeM_ok {D : Dk} {J : Jn} {first base : Int} {es : List (List UInt8)} {g : Int} (hg : (g, 0) = nextM (1 - J.cur) (D.seen J.fi J.se.toNat)) (hb : base = J.fi + (1 - J.cur) * ((J.se.toNat / 2 : Nat) : Int)) (he : (writeM D base g first es).2.2 = 0) :
  changeM D J first es = ((writeM D base g first es).1, { J with cur := 1 - J.cur, gen := g, first := first, used := (writeM D base g first es).2.1, synced := first + es.length }, 0) := by
 unfold changeM; rw [← hg, ← hb, if_neg (fun h => h rfl), if_neg (fun h => h he)]
theorem nextF_pos {n : Int} (hn : 0 ≤ n) : ∀ (ss : List (List UInt8)) (g : Int), 0 ≤ g → 0 ≤ ss.foldl (nstep n) g := by
 intro ss
 induction ss with
 | nil => intro g h; exact h
 | cons s ss ih =>
  intro g h
  refine ih _ ?_
  have := dec_g s
  unfold nstep
  split <;> omega
theorem nextM_ok {n g : Int} {ss : List (List UInt8)} (hn : 0 ≤ n) (h : (g, 0) = nextM n ss) : 0 ≤ g ∧ g ≤ 2147483647 := by
 unfold nextM at h
 split at h
 ·cases h
 ·simp only [Prod.mk.injEq] at h
  have := nextF_pos hn ss n hn
  unfold nextF at *
  omega
theorem areaS_length (g f : Int) (es : List (List UInt8)) : (areaS g f es).length = 1 + needs es := by
 unfold areaS
 rw [List.length_append, sects_length, headP_length, recs_length]
 rfl
def formatM (D : Dk) (fi se : Int) : Dk × Int :=
 if ¬ D.check fi se = 0 then (D, D.check fi se)
 else if ¬ (nextM 0 (D.seen fi se.toNat)).2 = 0 then (D, (nextM 0 (D.seen fi se.toNat)).2)
 else ((writeM D fi (nextM 0 (D.seen fi se.toNat)).1 0 []).1, (writeM D fi (nextM 0 (D.seen fi se.toNat)).1 0 []).2.2)
theorem check_ok {D : Dk} {fi se : Int} (h : D.check fi se = 0) : 0 ≤ fi ∧ 8 ≤ se ∧ se ≤ D.n ∧ fi + se ≤ D.n ∧ D.down = false := by
 unfold Dk.check at h
 split at h
 ·cases h
 ·split at h
  ·cases h
  ·rename_i h1 h2
   refine ⟨by omega, by omega, by omega, by omega, by simpa using h2⟩
set_option maxHeartbeats 400000 in
set_option maxRecDepth 10000 in
theorem f41_spec (bd bm : Nat) (A : Option Addr) (c : Nat) (D : Dk) (bj : Nat) (J : Jn) (Aj A0 AE : Option Addr) (mj cj m0 c0 M cE : Nat) (first : Int) (olds rs : List Bs) (hle : (rd (.slice AE M cE) 1 M (rs.map Bs.v)).Le (own (.slice A0 m0 c0) 30 1 m0 (olds.map Bs.v))) (hsub : ∀ r ∈ rs, r ∈ olds) (hm0 : olds.length = m0) (hM : rs.length = M)
  (hdn : D.down = false) (hfs : 0 ≤ J.fi ∧ 8 ≤ J.se ∧ J.fi + J.se ≤ D.n) (hcur : 0 ≤ J.cur ∧ J.cur ≤ 1) (hn : D.n ≤ 1000000) (hf0 : 0 ≤ first ∧ first ≤ 1000000000000) (hrs : ∀ r ∈ rs, r.s.length ≤ 131072) (hMx : M ≤ 1000000) (hmx : D.pend.length + (1 + needs (rs.map Bs.s)) ≤ 1000000) :
  Spec Tryz.prog 41 [.pointer (some ⟨bj, 0, none⟩), .int .i64 first, .slice AE M cE] [blk bj (jcells J bd Aj mj cj) 96, blk bd (dcells D bm A c) 77, mapC bm (dmap D.dur), own (.slice A D.pend.length c) 80 257 D.pend.length (D.pend.flatMap wcs), own (.slice A0 m0 c0) 30 1 m0 (olds.map Bs.v), rowsC true olds] [] (R := (Option Addr × Nat) × (Option Addr × Nat × Nat) × Option Addr × Nat × List Bs × List Bs)
   (fun q => (changeM D J first (rs.map Bs.s)).2.2 = 0 ∧ q.2.2.2.2 = (rs, rs) ∧ q.2.1 = (q.2.2.1, rs.length, q.2.2.2.1) ∨ ¬ (changeM D J first (rs.map Bs.s)).2.2 = 0 ∧ q.2.1 = (Aj, mj, cj) ∧ q.2.2.2.2 = ([], olds)) (fun _ => .int .i64 (changeM D J first (rs.map Bs.s)).2.2)
   (fun q => [blk bj (jcells (changeM D J first (rs.map Bs.s)).2.1 bd q.2.1.1 q.2.1.2.1 q.2.1.2.2) 96, blk bd (dcells (changeM D J first (rs.map Bs.s)).1 bm q.1.1 q.1.2) 77, mapC bm (dmap (changeM D J first (rs.map Bs.s)).1.dur), own (.slice q.1.1 (changeM D J first (rs.map Bs.s)).1.pend.length q.1.2) 80 257 (changeM D J first (rs.map Bs.s)).1.pend.length ((changeM D J first (rs.map Bs.s)).1.pend.flatMap wcs), own (.slice A0 m0 c0) 30 1 m0 (olds.map Bs.v), own (.slice q.2.2.1 q.2.2.2.2.1.length q.2.2.2.1) 30 1 q.2.2.2.2.1.length (q.2.2.2.2.1.map Bs.v), rowsC true q.2.2.2.2.2]) := by
 obtain ⟨fi, se, cur, gen, fst, used, synced, failed⟩ := J
 dsimp only at hfs hcur
 obtain ⟨k, rfl⟩ := Int.eq_ofNat_of_zero_le (show 0 ≤ se by omega)
 have hal := areaS_length
 refine Spec.intro Tryz.func41 Tryz.ntmps41 rfl (by simp) (by simp) fun w0 => ?_
 refine W283 ?_
 refine W111 ?_
 refine W323 ?_
 refine wlv (op_fieldAddr fo96_1 (lt_ rfl) rfl) rfl ?_
 refine W21 ?_
 refine wlv (op_sub (lt_ rfl) rfl rfl (by simp only []; omega)) rfl ?_
 refine W241 ?_
 refine WX.regs (L' := [(0, _), (1, _), (2, _), (7, _)]) ?_
 refine W323 ?_
 refine wlv (op_fieldAddr fo96_0 (lt_ rfl) rfl) rfl ?_
 refine wlv (op_loadN ag88 (lt_ rfl) rfl xM rfl) rfl ?_
 refine W4 ?_
 refine wlx (op_call (f38_spec bd bm A c D fi (k : Int) (1 - cur) (by omega) hdn (by omega) hn (by omega)) ca38 (lt_ rfl) rfl) rfl ?_
 rintro ⟨g, e⟩ hg
 dsimp only
 refine W341 ?_
 refine WX.regs (L' := [(0, _), (1, _), (2, _), (7, _), (8, _), (9, _)]) ?_
 refine W332 ?_
 refine WX.regs (L' := [(0, _), (1, _), (2, _), (7, _), (8, _), (9, _), (26, _)]) ?_
 refine W0 ?_
 refine WC.cond rfl (fun h1 => ?_) (fun h1 => ?_)
 ·
  refine W351 ?_
  refine W333 ?_
  refine W263 ?_
  refine WX.nilown 30 1 ?_
  rw [changeM_next (D := D) (J := ⟨fi, (k : Int), cur, gen, fst, used, synced, failed⟩) (first := first) (es := rs.map Bs.s) hg h1]
  dsimp only
  exact Fin.ret1 xI (((A, c), (Aj, mj, cj), none, 0, [], olds)) (.inr ⟨h1, rfl, rfl⟩) Tryz.results41 (.tmp rfl) xT (by simp)
 ·
  obtain rfl : e = 0 := by omega
  refine W8 ?_
  refine W323 ?_
  refine wlv (op_fieldAddr fo96_0 (lt_ rfl) rfl) rfl ?_
  refine wlv (op_loadN ag88 (lt_ rfl) rfl xM rfl) rfl ?_
  refine W244 ?_
  refine W244 ?_
  refine wlx (op_call (f39_spec bd bm A c D fi (1 - cur) g first k _ rfl AE M cE rs hM (by omega) (by omega) (nextM_ok (by omega) hg) hf0 hrs hMx (by rw [hal]; omega)) ca39 (lt_ rfl) rfl (by apply Give.mk; (focus (repeat (first | exact Takes.nil | exact Take.here | apply Takes.cons | apply Take.there))); exact Reads.cons (c := own (.slice A0 m0 c0) 30 1 m0 (olds.map Bs.v)) xM (by simp) hle (Reads.cons (c := rowsC true olds) xM (by simp) (rowsC_read hsub) Reads.nil))) rfl ?_
  rintro ⟨A9, c9⟩ _
  refine W341 ?_
  refine WX.regs (L' := [(0, _), (1, _), (2, _), (7, _), (8, _), (9, _), (10, _)]) ?_
  refine W332 ?_
  refine WX.regs (L' := [(0, _), (1, _), (2, _), (7, _), (8, _), (9, _), (10, _), (41, _)]) ?_
  refine W0 ?_
  refine WC.cond rfl (fun h2 => ?_) (fun h2 => ?_)
  ·
   refine W351 ?_
   refine W333 ?_
   refine W263 ?_
   refine WX.nilown 30 1 ?_
   rw [changeM_write (D := D) (J := ⟨fi, (k : Int), cur, gen, fst, used, synced, failed⟩) (first := first) (es := rs.map Bs.s) hg rfl h2]
   dsimp only
   exact Fin.ret1 xI (((A9, c9), (Aj, mj, cj), none, 0, [], olds)) (.inr ⟨h2, rfl, rfl⟩) Tryz.results41 (.tmp rfl) xT (by simp)
  ·
   refine W274 ?_
   refine W244 ?_
   refine W244 ?_
   refine W244 ?_
   refine W244 ?_
   refine W4 ?_
   refine wlx (op_call (f69_spec AE M cE rs hM hMx) ca69 (lt_ rfl) rfl (by apply Give.mk; (focus (repeat (first | exact Takes.nil | exact Take.here | apply Takes.cons | apply Take.there))); exact Reads.cons (c := own (.slice A0 m0 c0) 30 1 m0 (olds.map Bs.v)) xM (by simp) hle Reads.nil)) rfl ?_
   rintro ⟨A2, c2⟩ _
   refine W4 ?_
   refine W27 ?_
   refine wlv (op_fieldAddr fo96_1 (lt_ rfl) rfl) rfl ?_
   refine W61 ?_
   refine W10 ?_
   refine W27 ?_
   refine wlv (op_fieldAddr fo96_2 (lt_ rfl) rfl) rfl ?_
   refine W61 ?_
   refine W10 ?_
   refine W27 ?_
   refine wlv (op_fieldAddr fo96_3 (lt_ rfl) rfl) rfl ?_
   refine W61 ?_
   refine W10 ?_
   refine W27 ?_
   refine wlv (op_fieldAddr fo96_4 (lt_ rfl) rfl) rfl ?_
   refine W134 ?_
   refine W10 ?_
   refine W27 ?_
   refine wlv (op_fieldAddr fo96_5 (lt_ rfl) rfl) rfl ?_
   refine W61 ?_
   refine W252 ?_
   refine WX.blkEq (b := bj) (jcells { (⟨fi, (k : Int), cur, gen, fst, used, synced, failed⟩ : Jn) with cur := 1 - cur, gen := g, first := first, used := (writeM D (fi + (1 - cur) * ((k / 2 : Nat) : Int)) g first (rs.map Bs.s)).2.1 } bd A2 M c2) xK (by simp [jcells, pset, Value.cells]) ?_
   refine W31 ?_
   refine W299 ?_
   refine wlx (op_call (f48_spec bj bd { (⟨fi, (k : Int), cur, gen, fst, used, synced, failed⟩ : Jn) with cur := 1 - cur, gen := g, first := first, used := (writeM D (fi + (1 - cur) * ((k / 2 : Nat) : Int)) g first (rs.map Bs.s)).2.1 } A2 M c2 ⟨by simp only []; omega, by simp only []; omega, hMx⟩) ca48 (lt_ rfl) rfl) rfl ?_
   rintro _ _
   refine W27 ?_
   refine wlv (op_fieldAddr fo96_6 (lt_ rfl) rfl) rfl ?_
   refine W61 ?_
   refine W252 ?_
   refine WX.turn (c := rowsC true olds) (d := rowsC true rs) xK (rowsC_sub hsub) ?_
   refine WX.blkEq (b := bj) (jcells { ({ (⟨fi, (k : Int), cur, gen, fst, used, synced, failed⟩ : Jn) with cur := 1 - cur, gen := g, first := first, used := (writeM D (fi + (1 - cur) * ((k / 2 : Nat) : Int)) g first (rs.map Bs.s)).2.1 } : Jn) with synced := first + ((rs.map Bs.s).length : Int) } bd A2 M c2) xK (by simp [jcells, pset, Value.cells, hM]) ?_
   refine WX.regs (L' := []) ?_
   refine W249 ?_
   refine W333 ?_
   refine W242 ?_
   subst hM
   rw [changeM_ok (D := D) (J := ⟨fi, (k : Int), cur, gen, fst, used, synced, failed⟩) (first := first) (es := rs.map Bs.s) hg rfl (Decidable.not_not.1 h2)]
   dsimp only
   exact Fin.ret1 xI (((A9, c9), (A2, rs.length, c2), A2, c2, rs, rs)) (.inl ⟨rfl, rfl, rfl⟩) Tryz.results41 (.tmp rfl) xT (by simp)
set_option maxHeartbeats 400000 in
set_option maxRecDepth 10000 in
theorem f13_spec (bd bm : Nat) (A : Option Addr) (c : Nat) (D : Dk) (fi se : Int) (hn : D.n ≤ 1000000) (hfs : -1000000000 ≤ fi ∧ fi ≤ 1000000000 ∧ -1000000000 ≤ se ∧ se ≤ 1000000000) (hmx : D.pend.length ≤ 999999) :
  Spec Tryz.prog 13 [.pointer (some ⟨bd, 0, none⟩), .int .i64 fi, .int .i64 se] [blk bd (dcells D bm A c) 77, mapC bm (dmap D.dur), own (.slice A D.pend.length c) 80 257 D.pend.length (D.pend.flatMap wcs)] [] (R := Option Addr × Nat) (fun _ => True) (fun _ => .int .i64 (formatM D fi se).2) (fun q => [blk bd (dcells (formatM D fi se).1 bm q.1 q.2) 77, mapC bm (dmap (formatM D fi se).1.dur), own (.slice q.1 (formatM D fi se).1.pend.length q.2) 80 257 (formatM D fi se).1.pend.length ((formatM D fi se).1.pend.flatMap wcs)]) := by
 have hal := areaS_length
 refine Spec.intro Tryz.func13 Tryz.ntmps13 rfl (by simp) (by simp) fun w0 => ?_
 refine W283 ?_
 refine W111 ?_
 refine W299 ?_
 refine W4 ?_
 refine wlv (op_build (cs := [.pointer (some ⟨bd, 0, none⟩), .int .i64 fi, .int .i64 se]) (pv := [(0, _), (1, _), (2, _)]) (lt_ rfl) rfl (by kernel_rfl)) rfl ?_
 refine wl1 (op_alloc ti88 (lt_ rfl)) rfl fun b1 => ?_
 refine wl (op_storeAll sz88 rfl rfl xK xL xO xL) rfl ?_
 refine W252 ?_
 refine WX.regs (L' := [(7, _)]) ?_
 refine W269 ?_
 refine W93 ?_
 refine wlx (op_call (f37_spec bd bm A c D fi se hn hfs) ca37 (lt_ rfl) rfl) rfl ?_
 rintro _ _
 refine W241 ?_
 refine WX.regs (L' := [(7, _), (8, _)]) ?_
 refine W359 ?_
 refine WX.regs (L' := [(7, _), (8, _), (18, _)]) ?_
 refine W0 ?_
 refine WC.cond rfl (fun h1 => ?_) (fun h1 => ?_)
 ·
  refine W351 ?_
  refine W333 ?_
  refine W263 ?_
  have hfm : formatM D fi se = (D, D.check fi se) := if_pos h1
  rw [hfm]
  dsimp only
  exact Fin.ret1 xI ((A, c)) (trivial) Tryz.results13 (.tmp rfl) xT (by simp)
 ·
  have hck := check_ok (Decidable.not_not.1 h1)
  obtain ⟨k, rfl⟩ := Int.eq_ofNat_of_zero_le (show 0 ≤ se by omega)
  refine W274 ?_
  refine W93 ?_
  refine wlx (op_call (f38_spec bd bm A c D fi (k : Int) 0 (by omega) hck.2.2.2.2 (by omega) hn (by omega)) ca38 (lt_ rfl) rfl) rfl ?_
  rintro ⟨g, e⟩ hg
  dsimp only
  refine W341 ?_
  refine WX.regs (L' := [(7, _), (9, _), (10, _)]) ?_
  refine W332 ?_
  refine WX.regs (L' := [(7, _), (9, _), (10, _), (26, _)]) ?_
  refine W0 ?_
  refine WC.cond rfl (fun h2 => ?_) (fun h2 => ?_)
  ·
   refine W351 ?_
   refine W333 ?_
   refine W263 ?_
   have hfm : formatM D fi (k : Int) = (D, e) := by unfold formatM; rw [if_neg h1, ← hg, if_pos h2]
   rw [hfm]
   dsimp only
   exact Fin.ret1 xI ((A, c)) (trivial) Tryz.results13 (.tmp rfl) xT (by simp)
  ·
   obtain rfl : e = 0 := by omega
   refine WC.nilrows false ?_
   refine W274 ?_
   refine WL.nilrd 1 ?_
   refine W93 ?_
   refine W4 ?_
   refine wlx (op_call (f39_spec bd bm A c D fi 0 g 0 k fi (by rw [Int.zero_mul, Int.add_zero]) none 0 0 [] rfl (by omega) (by omega) (nextM_ok (by omega) hg) (by omega) (fun r hr => by cases hr) (by omega) (by rw [hal]; simp only [List.map_nil, needs]; omega)) ca39 (lt_ rfl) rfl) rfl ?_
   rintro ⟨A9, c9⟩ _
   refine W296 ?_
   refine W241 ?_
   refine WX.regs (L' := [(10, _)]) ?_
   refine W261 ?_
   refine W333 ?_
   refine W242 ?_
   have hfm : formatM D fi (k : Int) = ((writeM D fi g 0 []).1, (writeM D fi g 0 []).2.2) := by unfold formatM; rw [if_neg h1, ← hg, if_neg (fun h => h rfl)]
   rw [hfm]
   dsimp only
   exact Fin.ret1 xI ((A9, c9)) (trivial) Tryz.results13 (.tmp rfl) xT (by simp)
end Go.Proofs.YtkjlbedebmffgaaGreat.Sx
