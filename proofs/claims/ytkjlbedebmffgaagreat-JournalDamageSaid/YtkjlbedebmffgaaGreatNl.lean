import Derived.Test.YtkjlbedebmffgaaGreatNk
import Derived.Test.YtkjlbedebmffgaaGreatNc
set_option linter.unusedVariables false
set_option linter.unusedSimpArgs false
namespace Go.Proofs.YtkjlbedebmffgaaGreat.Sx
open Go.RowKit Go.Proofs.YtkjlbedebmffgaaGreat.Ty
attribute [local irreducible] blk own rd rx frameC
def seenR (V : Int → List UInt8) (a : Int) (k : Nat) : List (List UInt8) := (List.range k).map fun i : Nat => V (a + i)
theorem seenR_succ (V : Int → List UInt8) (a : Int) (k : Nat) : seenR V a (k + 1) = seenR V a k ++ [V (a + k)] := by simp [seenR, List.range_succ]
theorem seenR_length (V : Int → List UInt8) (a : Int) (k : Nat) : (seenR V a k).length = k := by simp [seenR]
def maxG (ss : List (List UInt8)) : Int := ss.foldl (fun g b => if (dec b).2 = 0 ∧ (dec b).1.g > g then (dec b).1.g else g) (-1)
theorem maxG_snoc (ss : List (List UInt8)) (b : List UInt8) : maxG (ss ++ [b]) = if (dec b).2 = 0 ∧ (dec b).1.g > maxG ss then (dec b).1.g else maxG ss := by
 unfold maxG
 rw [List.foldl_append]
 rfl
theorem next_rel {n : Int} (hn : n = 0 ∨ n = 1) (ss : List (List UInt8)) : ∀ (g m : Int), -1 ≤ m → (g = if (m + 1) % 2 = n then m + 1 else m + 2) →
  -1 ≤ ss.foldl (fun g b => if (dec b).2 = 0 ∧ (dec b).1.g > g then (dec b).1.g else g) m ∧
  (ss.foldl (nstep n) g = if (ss.foldl (fun g b => if (dec b).2 = 0 ∧ (dec b).1.g > g then (dec b).1.g else g) m + 1) % 2 = n then ss.foldl (fun g b => if (dec b).2 = 0 ∧ (dec b).1.g > g then (dec b).1.g else g) m + 1 else ss.foldl (fun g b => if (dec b).2 = 0 ∧ (dec b).1.g > g then (dec b).1.g else g) m + 2) := by
 induction ss with
 | nil => intro g m h1 h2; exact ⟨h1, h2⟩
 | cons b ss ih =>
  intro g m h1 h2
  have hd := dec_g b
  simp only [List.foldl_cons]
  refine ih _ _ ?_ ?_
  ·split <;> omega
  ·subst h2
   unfold nstep
   rcases hn with rfl | rfl <;> (repeat' split) <;> omega
theorem nextR_eq {n : Int} (hn : n = 0 ∨ n = 1) (ss : List (List UInt8)) : -1 ≤ maxG ss ∧ nextF n ss = if (maxG ss + 1) % 2 = n then maxG ss + 1 else maxG ss + 2 :=
 next_rel hn ss n (-1) (by decide) (by rcases hn with rfl | rfl <;> rfl)
theorem maxG_lt (ss : List (List UInt8)) : maxG ss < 4294967296 := by
 have key : ∀ (ss : List (List UInt8)) (m : Int), m < 4294967296 → ss.foldl (fun g b => if (dec b).2 = 0 ∧ (dec b).1.g > g then (dec b).1.g else g) m < 4294967296 := by
  intro ss
  induction ss with
  | nil => intro m h; exact h
  | cons b ss ih =>
   intro m h
   have hd := dec_g b
   simp only [List.foldl_cons]
   refine ih _ ?_
   split
   ·exact hd.2
   ·exact h
 exact key ss (-1) (by decide)
def ovl (V : Int → List UInt8) (a : Int) (ss : List (List UInt8)) (i : Int) : List UInt8 := if a ≤ i ∧ i < a + ss.length then ss.getD (i - a).toNat [] else V i
theorem ovl_nil (V : Int → List UInt8) (a : Int) : ovl V a [] = V := by
 funext i
 unfold ovl
 rw [if_neg (by simp only [List.length_nil]; omega)]
theorem ovl_snoc {V : Int → List UInt8} {a : Int} {ss : List (List UInt8)} {s : List UInt8} : putV (ovl V a ss) (a + ss.length) s = ovl V a (ss ++ [s]) := by
 funext i
 unfold putV ovl
 simp only [List.length_append, List.length_singleton]
 by_cases h1 : i = a + ss.length
 ·rw [if_pos h1, if_pos (by omega), List.getD_eq_getElem?_getD, List.getElem?_append_right (by omega), show (i - a).toNat - ss.length = 0 by omega]
  rfl
 ·rw [if_neg h1]
  by_cases h2 : a ≤ i ∧ i < a + ss.length
  ·rw [if_pos h2, if_pos (by omega), List.getD_eq_getElem?_getD, List.getD_eq_getElem?_getD, List.getElem?_append_left (by omega)]
  ·rw [if_neg h2, if_neg (by omega)]
theorem ovl_app {V : Int → List UInt8} {a : Int} {ss ts : List (List UInt8)} : ovl (ovl V a ss) (a + ss.length) ts = ovl V a (ss ++ ts) := by
 funext i
 unfold ovl
 simp only [List.length_append]
 by_cases h1 : a + ss.length ≤ i ∧ i < a + ss.length + ts.length
 ·rw [if_pos h1, if_pos (by omega), List.getD_eq_getElem?_getD, List.getD_eq_getElem?_getD, List.getElem?_append_right (by omega), show (i - a).toNat - ss.length = (i - (a + ss.length)).toNat by omega]
 ·rw [if_neg h1]
  by_cases h2 : a ≤ i ∧ i < a + ss.length
  ·rw [if_pos h2, if_pos (by omega), List.getD_eq_getElem?_getD, List.getD_eq_getElem?_getD, List.getElem?_append_left (by omega)]
  ·rw [if_neg h2, if_neg (by omega)]
structure Rd.Put (q r : Rd) (a : Int) (ss : List (List UInt8)) : Prop where
 V : q.V = ovl r.V a ss
 n : q.ds.length = r.ds.length
 m : q.ws.length = r.ws.length + ss.length
 ok : q.Ok
theorem Rd.Put.refl {r : Rd} (h : r.Ok) (a : Int) : r.Put r a [] := ⟨(ovl_nil _ _).symm, rfl, rfl, h⟩
theorem Rd.Put.snoc {q' q r : Rd} {a : Int} {ss : List (List UInt8)} {s : List UInt8} {b : Int} (h : q.Put r a ss) (k : q'.Wrote q b s) (hb : b = a + ss.length) : q'.Put r a (ss ++ [s]) := by
 subst hb
 exact ⟨by rw [k.V, h.V, ovl_snoc], by rw [k.n, h.n], by rw [k.m, h.m, List.length_append]; rfl, k.ok⟩
theorem Rd.Put.app {q' q r : Rd} {a b : Int} {ss ts : List (List UInt8)} (h : q.Put r a ss) (k : q'.Put q b ts) (hb : b = a + ss.length) : q'.Put r a (ss ++ ts) := by
 subst hb
 exact ⟨by rw [k.V, h.V, ovl_app], by rw [k.n, h.n], by rw [k.m, h.m, List.length_append, Nat.add_assoc], k.ok⟩
theorem vl_mono (bs : List UInt8) : ∀ (j i : Nat), i + j = bs.length → vl (bs.take i) ≤ vl bs := by
 intro j
 induction j with
 | zero => intro i h; rw [List.take_of_length_le (by omega)]; exact Nat.le_refl _
 | succ j ih =>
  intro i h
  have h1 := ih (i + 1) (by omega)
  have h2 := vl_step bs i (by omega)
  omega
set_option maxHeartbeats 400000 in
set_option maxRecDepth 10000 in
theorem f50_spec (r : Rd) (a : Int) (k : Nat) (h : 0 ≤ a ∧ 8 ≤ k ∧ a + k ≤ r.ds.length) (hn : r.ds.length ≤ 100000) :
  Spec Tryz.prog 50 [.agg r.cells.toArray, .int .i64 a, .int .i64 (k : Int)] [] [] (R := Unit) (fun _ => True) (fun _ => .int .i64 0) (fun _ => []) := by
 refine Spec.intro Tryz.func50 Tryz.ntmps50 rfl (by simp) (by simp) fun w0 => ?_
 refine W240 ?_
 refine wl1 (op_box (lt_ rfl) rfl rfl) rfl fun b1 => ?_
 refine W241 ?_
 refine WX.regs (L' := [(1, _), (2, _), (3, _)]) ?_
 refine W282 ?_
 refine W25 ?_
 rw [show decide (a < 0) = false from decide_eq_false (by omega)]
 refine W361 ?_
 refine W98 ?_
 rw [show decide ((k : Int) < 8) = false from decide_eq_false (by omega)]
 refine W15 ?_
 refine W361 ?_
 refine wlgv (op_fieldAddr fo39_0 (lt_ rfl) rfl) rfl rfl rfl ?_
 refine W268 ?_
 refine W13 ?_
 refine wlgv (op_sub (lt_ rfl) rfl rfl (by omega)) rfl rfl rfl ?_
 refine W36 ?_
 rw [show decide (a > (r.ds.length : Int) - (k : Int)) = false from decide_eq_false (by omega)]
 refine W285 ?_
 refine WX.regs (L' := [(3, _), (21, _)]) ?_
 refine W281 ?_
 refine W269 ?_
 refine wlv (op_fieldAddr fo39_3 (lt_ rfl) rfl) rfl ?_
 refine W72 ?_
 refine W2 ?_
 refine WX.regs (L' := [(23, _)]) ?_
 refine W281 ?_
 refine W249 ?_
 refine W333 ?_
 refine W242 ?_
 exact Fin.ret1 xI (()) (trivial) Tryz.results50 (.tmp rfl) xT (by simp)
set_option maxHeartbeats 400000 in
set_option maxRecDepth 10000 in
theorem f59_spec (r : Rd) (hr : r.Ok) (a : Int) (k : Nat) (h : 0 ≤ a ∧ a + k ≤ r.ds.length) :
  Spec Tryz.prog 59 [.agg r.cells.toArray, .int .i64 a, .int .i64 (k : Int)] [] [rd (.slice r.A r.ds.length r.c) 1 r.ds.length (r.ds.map Bs.v), rowsC false r.ds, rd (.slice r.Aw r.ws.length r.cw) 2 r.ws.length (r.ws.flatMap Wb.cells), rowsC false (r.ws.map Wb.b)] (R := Option Addr × Nat × List Bs) (fun q => q.2.2.map Bs.s = seenR r.V a k) (fun q => .slice q.1 q.2.2.length q.2.1) (fun q => [own (.slice q.1 q.2.2.length q.2.1) 30 1 q.2.2.length (q.2.2.map Bs.v), rowsC true q.2.2]) := by
 have hrn := hr.n
 refine Spec.intro Tryz.func59 Tryz.ntmps59 rfl (by simp) (by simp) fun w0 => ?_
 refine W240 ?_
 refine wl1 (op_box (lt_ rfl) rfl rfl) rfl fun b1 => ?_
 refine W241 ?_
 refine WX.regs (L' := [(1, _), (2, _), (3, _)]) ?_
 refine W249 ?_
 refine W241 ?_
 refine WX.regs (L' := [(1, _), (2, _), (3, _), (7, _)]) ?_
 refine W310 ?_
 refine WX.regs (L' := [(1, _), (2, _), (3, _), (7, _), (8, _)]) ?_
 refine W294 ?_
 refine W293 ?_
 refine WC.loop (X := Nat × List Bs × Option Addr × Nat) (fun x => k - x.1) (fun x => x.1 ≤ k ∧ x.2.1.map Bs.s = seenR r.V a x.1) (fun x => [(1, .int .i64 a), (2, .int .i64 (k : Int)), (3, .pointer (some ⟨b1, 0, none⟩)), (7, .slice x.2.2.1 x.2.1.length x.2.2.2), (8, .int .i64 (x.1 : Int))]) (fun x => [own (.slice x.2.2.1 x.2.1.length x.2.2.2) 30 1 x.2.1.length (x.2.1.map Bs.v), rowsC true x.2.1, blk b1 r.cells 39, rd (.slice r.A r.ds.length r.c) 1 r.ds.length (r.ds.map Bs.v), rowsC false r.ds, rd (.slice r.Aw r.ws.length r.cw) 2 r.ws.length (r.ws.flatMap Wb.cells), rowsC false (r.ws.map Wb.b), frameC w0 (MutF [])]) ((0, [], none, 0)) (⟨Nat.zero_le _, rfl⟩) (fun a w hs => hs.sub xY xT) ?_
 rintro ⟨i, ds, Ad, cd⟩ ⟨hi, hds⟩
 try dsimp only at hi hds ⊢
 have hdl : ds.length = i := by have := congrArg List.length hds; rw [List.length_map, seenR_length] at this; exact this
 refine W314 ?_
 refine W265 ?_
 refine WX.regs (L' := [(1, _), (2, _), (3, _), (7, _), (8, _), (11, _)]) ?_
 refine W0 ?_
 refine WC.cond rfl (fun h1 => ?_) (fun h1 => ?_)
 ·
  refine W270 ?_
  refine W3 ?_
  have hvl : (r.V (a + (i : Int))).length = 256 := Rd.V_in ⟨by omega, by omega⟩ hr
  refine W4 ?_
  refine W41 ?_
  refine W244 ?_
  refine W16 ?_
  refine wlx (op_call (f83_spec r (a + (i : Int)) ⟨by omega, by omega⟩ hr) ca83 (lt_ rfl) rfl) rfl ?_
  rintro ⟨Av, cv⟩ _
  refine wl1 (op_lit1 Tryz.underlying36 ti30 rfl (by decide) (lt_ rfl) rfl rfl) rfl fun b2 => ?_
  refine wl2 (op_append Tryz.underlying36 ti30 rfl (by decide) (lt_ rfl) rfl rfl xK xS (by rfl) (by omega) (by omega)) rfl fun A1 c1 => ?_
  refine W241 ?_
  refine WX.regs (L' := [(1, _), (2, _), (3, _), (7, _), (8, _)]) ?_
  refine W352 ?_
  refine WX.regs (L' := [(1, _), (2, _), (3, _), (7, _), (8, _)]) ?_
  refine WX.ownEq (v := .slice A1 (ds.length + 1) c1) ((ds ++ [(⟨Av, cv, (r.V (a + (i : Int)))⟩ : Bs)]).map Bs.v) xK (by rw [← map_push]; rfl) ?_
  refine WX.merge2 (c1 := rowsC true ds) (c2 := own (.slice Av (r.V (a + (i : Int))).length cv) 5 1 (r.V (a + (i : Int))).length (bvs (r.V (a + (i : Int))))) (d := rowsC true (ds ++ [⟨Av, cv, (r.V (a + (i : Int)))⟩])) xK xK (rowsC_snoc (own_le_bs rfl) (fun _ => by simp)) ?_
  rw [len_push ds ⟨Av, cv, (r.V (a + (i : Int)))⟩]
  refine WX.meet ((i + 1, ds ++ [⟨Av, cv, r.V (a + (i : Int))⟩], A1, c1)) ⟨⟨by simp only []; omega, by rw [List.map_append, hds, seenR_succ]; rfl⟩, by simp only []; omega⟩ (fun a w hs => hs.sub xY xT)
 ·
  refine W264 ?_
  refine W261 ?_
  refine W333 ?_
  refine W242 ?_
  exact Fin.ret1 xI ((Ad, cd, ds)) (by rw [hds, show i = k by omega]) Tryz.results59 (.tmp rfl) xT (by simp)
set_option maxHeartbeats 400000 in
set_option maxRecDepth 10000 in
theorem f74_spec (n : Nat) (hn : n < 9223372036854775808) :
  Spec Tryz.prog 74 [.int .i64 (n : Int)] [] [] (R := Option Addr × Nat) (fun _ => True) (fun q => .slice q.1 8 q.2) (fun q => [own (.slice q.1 8 q.2) 5 1 8 (bvs (be n 8))]) := by
 refine Spec.intro Tryz.func74 Tryz.ntmps74 rfl (by simp) (by simp) fun w0 => ?_
 refine W300 ?_
 refine W249 ?_
 refine W241 ?_
 refine W84 ?_
 refine W310 ?_
 refine W97 ?_
 refine W294 ?_
 refine WC.nilslice 5 1 ?_
 refine WC.loop (X := Nat × Option Addr × Nat) (fun x => 8 - x.1) (fun x => x.1 ≤ 8) (fun x => [(0, .int .i64 (n : Int)), (3, .slice x.2.1 x.1 x.2.2), (4, .int .i64 (7 - (x.1 : Int)))]) (fun x => [own (.slice x.2.1 x.1 x.2.2) 5 1 x.1 (bvs ((be n 8).take x.1)), frameC w0 (MutF [])]) ((0, none, 0)) (Nat.zero_le _) (fun a w hs => hs.sub xY xT) ?_
 rintro ⟨j, Ab, cb⟩ hj
 try dsimp only at hj ⊢
 refine W328 ?_
 refine W66 ?_
 refine W2 ?_
 refine WX.regs (L' := [(0, _), (3, _), (4, _), (6, _)]) ?_
 refine W0 ?_
 refine WC.cond rfl (fun h1 => ?_) (fun h1 => ?_)
 ·
  refine W270 ?_
  refine W334 ?_
  refine W4 ?_
  refine W73 ?_
  refine wlv (op_shri (lt_ rfl) rfl rfl (by omega)) rfl ?_
  refine W221 ?_
  rw [show UInt8.ofNat (((n : Int)) / ((2 ^ (8 * (7 - (j : Int))).toNat : Nat) : Int)).toNat = UInt8.ofNat (n / 256 ^ (7 - j)) by rw [show (2 : Nat) ^ (8 * (7 - (j : Int))).toNat = 256 ^ (7 - j) by rw [show (8 * (7 - (j : Int))).toNat = 8 * (7 - j) by omega, Nat.pow_mul], ← Int.natCast_ediv, Int.toNat_natCast]]
  refine wl1 (op_lit1 Tryz.underlying30 ti5 rfl (by decide) (lt_ rfl) rfl rfl) rfl fun b1 => ?_
  refine wl2 (op_append Tryz.underlying30 ti5 rfl (by decide) (lt_ rfl) rfl rfl xK xS (by rfl) (by omega) (by omega)) rfl fun A1 c1 => ?_
  refine W241 ?_
  refine W97 ?_
  refine W308 ?_
  refine W309 ?_
  refine W94 ?_
  refine W241 ?_
  refine W97 ?_
  refine WX.ownEq (v := .slice A1 (j + 1) c1) (bvs ((be n 8).take (j + 1))) xK (by rw [be_take n 8 j (by omega)]; simp [bvs]; rfl) ?_
  refine WX.meet ((j + 1, A1, c1)) ⟨by simp only []; omega, by simp only []; omega⟩ (fun a w hs => hs.sub xY xT)
 ·
  refine W264 ?_
  refine W261 ?_
  refine W260 ?_
  obtain rfl : j = 8 := by omega
  rw [show (be n 8).take 8 = be n 8 from List.take_of_length_le (by rw [be_length]; omega)]
  exact Fin.ret1 xI ((Ab, cb)) (trivial) Tryz.results74 (.tmp rfl) xT (by simp)
set_option maxHeartbeats 400000 in
set_option maxRecDepth 10000 in
theorem f85_spec (A : Option Addr) (c : Nat) (bs : List UInt8) (hb : bs.length = 8) :
  Spec Tryz.prog 85 [.slice A 8 c] [] [rd (.slice A 8 c) 1 8 (bvs bs)] (R := Unit) (fun _ => True) (fun _ => .int .i64 (if vl bs ≤ 2147483647 then ((vl bs : Nat) : Int) else -1)) (fun _ => []) := by
 refine Spec.intro Tryz.func85 Tryz.ntmps85 rfl (by simp) (by simp) fun w0 => ?_
 refine W300 ?_
 refine W249 ?_
 refine W241 ?_
 refine W84 ?_
 refine W310 ?_
 refine W97 ?_
 refine W294 ?_
 refine WC.loop (X := Nat) (fun q => 8 - q) (fun q => q ≤ 8 ∧ vl (bs.take q) ≤ 549755813887) (fun q => [(0, .slice A 8 c), (3, .int .i64 ((vl (bs.take q) : Nat) : Int)), (4, .int .i64 (q : Int))]) (fun q => [rd (.slice A 8 c) 1 8 (bvs bs), frameC w0 (MutF [])]) (0) (⟨by omega, by rw [List.take_zero]; decide⟩) (fun a w hs => hs.sub xY xT) ?_
 rintro i ⟨hi, hv⟩
 try dsimp only
 refine W328 ?_
 refine W265 ?_
 refine WX.regs (L' := [(0, _), (3, _), (4, _), (6, _)]) ?_
 refine W0 ?_
 refine WC.cond rfl (fun h1 => ?_) (fun h1 => ?_)
 ·
  refine W270 ?_
  refine W259 ?_
  have hc := (bs.getD i 0).toNat_lt
  have hmo := vl_mono bs (8 - i) i (by omega)
  refine W4 ?_
  refine W56 ?_
  refine W2 ?_
  refine WX.regs (L' := [(0, _), (3, _), (4, _), (10, _)]) ?_
  refine W0 ?_
  refine WC.cond rfl (fun h2 => ?_) (fun h2 => ?_)
  ·
   refine W273 ?_
   refine W315 ?_
   refine W315 ?_
   rw [show (if vl bs ≤ 2147483647 then ((vl bs : Nat) : Int) else -1) = -1 from if_neg (by omega)]
   exact Fin.ret1 xI (()) (trivial) Tryz.results85 (.tmp rfl) xT (by simp)
  ·
   refine W262 ?_
   refine W309 ?_
   refine W73 ?_
   refine W244 ?_
   refine W318 ?_
   refine W166 ?_
   refine W295 ?_
   refine W97 ?_
   refine W352 ?_
   refine W97 ?_
   rw [show ((vl (bs.take i) : Nat) : Int) * 256 + ((bs.getD i 0).toNat : Int) = ((vl (bs.take (i + 1)) : Nat) : Int) by rw [vl_step bs i (by omega)]; omega]
   refine WX.meet (i + 1) ⟨⟨by omega, by rw [vl_step bs i (by omega)]; omega⟩, by omega⟩ (fun a w hs => hs.sub xY xT)
 ·
  refine W264 ?_
  refine W282 ?_
  refine W56 ?_
  refine W2 ?_
  refine WX.regs (L' := [(3, _), (20, _)]) ?_
  refine W0 ?_
  refine WC.cond rfl (fun h3 => ?_) (fun h3 => ?_)
  ·
   refine W336 ?_
   obtain rfl : i = 8 := by omega
   rw [List.take_of_length_le (by omega)] at *
   rw [show (if vl bs ≤ 2147483647 then ((vl bs : Nat) : Int) else -1) = -1 from if_neg (by omega)]
   exact Fin.ret1 xI (()) (trivial) Tryz.results85 (.tmp rfl) xT (by simp)
  ·
   refine W8 ?_
   refine W261 ?_
   refine W260 ?_
   obtain rfl : i = 8 := by omega
   rw [show bs.take 8 = bs from List.take_of_length_le (by omega)] at *
   rw [show (if vl bs ≤ 2147483647 then ((vl bs : Nat) : Int) else -1) = ((vl bs : Nat) : Int) from if_pos (by omega)]
   exact Fin.ret1 xI (()) (trivial) Tryz.results85 (.tmp rfl) xT (by simp)
set_option maxHeartbeats 400000 in
set_option maxRecDepth 10000 in
theorem f52_spec (r : Rd) (hr : r.Ok) (a : Int) (k : Nat) (n : Int) (h : 0 ≤ a ∧ a + k ≤ r.ds.length) (hn : n = 0 ∨ n = 1) :
  Spec Tryz.prog 52 [.agg r.cells.toArray, .int .i64 a, .int .i64 (k : Int), .int .i64 n] [] [rd (.slice r.A r.ds.length r.c) 1 r.ds.length (r.ds.map Bs.v), rowsC false r.ds, rd (.slice r.Aw r.ws.length r.cw) 2 r.ws.length (r.ws.flatMap Wb.cells), rowsC false (r.ws.map Wb.b)] (R := Unit) (fun _ => True) (fun _ => .int .i64 (nextF n (seenR r.V a k))) (fun _ => []) := by
 have hrn := hr.n
 refine Spec.intro Tryz.func52 Tryz.ntmps52 rfl (by simp) (by simp) fun w0 => ?_
 refine W240 ?_
 refine wl1 (op_box (lt_ rfl) rfl rfl) rfl fun b1 => ?_
 refine W241 ?_
 refine W135 ?_
 refine W249 ?_
 refine W241 ?_
 refine WX.regs (L' := [(1, _), (2, _), (3, _), (4, _), (9, _)]) ?_
 refine W249 ?_
 refine W41 ?_
 refine W244 ?_
 refine wlx (op_call (f59_spec r hr a k h) ca59 (lt_ rfl) rfl) rfl ?_
 rintro ⟨A2, c2, rs⟩ hrs
 dsimp only at hrs
 have hk2 : rs.length = k := by have := congrArg List.length hrs; rw [List.length_map, seenR_length] at this; exact this
 dsimp only
 refine W241 ?_
 refine WX.regs (L' := [(3, _), (9, _), (10, _)]) ?_
 refine W310 ?_
 refine WX.regs (L' := [(3, _), (9, _), (10, _), (11, _)]) ?_
 refine W294 ?_
 refine WC.loop (X := Nat × Int) (fun q => rs.length - q.1) (fun q => q.1 ≤ rs.length ∧ q.2 = maxG ((rs.map Bs.s).take q.1)) (fun q => [(3, .int .i64 n), (9, .int .i64 q.2), (10, .slice A2 rs.length c2), (11, .int .i64 (q.1 : Int))]) (fun q => [own (.slice A2 rs.length c2) 30 1 rs.length (rs.map Bs.v), rowsC true rs, frameC w0 (MutF [])]) ((0, -1)) (⟨Nat.zero_le _, rfl⟩) (fun a w hs => hs.sub xY xT) ?_
 rintro ⟨i, g⟩ ⟨hi, hg⟩
 try dsimp only at hi hg ⊢
 refine W314 ?_
 refine W40 ?_
 refine W265 ?_
 refine WX.regs (L' := [(3, _), (9, _), (10, _), (11, _), (21, _)]) ?_
 refine W0 ?_
 refine WC.cond rfl (fun h1 => ?_) (fun h1 => ?_)
 ·
  refine W298 ?_
  obtain ⟨ri, hri⟩ : ∃ r, rs[i]? = some r := ⟨rs[i]'(by omega), List.getElem?_eq_getElem _⟩
  have hgs : ∀ x, x = (if (dec ri.s).2 = 0 ∧ (dec ri.s).1.g > g then (dec ri.s).1.g else g) → x = maxG ((rs.map Bs.s).take (i + 1)) := by
   intro x hx
   rw [take_snoc (x := ri.s) (by simp [hri]), maxG_snoc, ← hg, hx]
  refine W244 ?_
  refine W95 ?_
  refine W141 ?_
  refine wlx (op_call (f75_spec ri.A ri.s.length ri.c ri.s rfl) ca75 (lt_ rfl) rfl (by apply Give.mk; (focus (repeat (first | exact Takes.nil | exact Take.here | apply Takes.cons | apply Take.there))); exact Reads.cons (c := rowsC true rs) xM (by simp) (rowsC_get (r := ri) (List.mem_of_getElem? hri)) Reads.nil)) rfl ?_
  rintro ⟨A3, c3, m3, p, e⟩ hpe
  dsimp only at hpe
  obtain ⟨hpe, rfl⟩ := hpe
  have hpg := dec_g ri.s
  rw [← hpe] at hpg
  dsimp only at hpg
  have hdc := hpe.symm
  dsimp only
  refine W296 ?_
  refine wl1 (op_alloc ti139 (lt_ rfl)) rfl fun b2 => ?_
  refine W75 ?_
  refine W271 ?_
  refine WX.blkEq (b := b2) (pcells p.k p.g p.n p.i p.c (.slice A3 p.b.length c3)) xK (by rfl) ?_
  refine WX.regs (L' := [(3, _), (9, _), (10, _), (11, _), (12, _), (13, _)]) ?_
  refine W261 ?_
  refine W42 ?_
  refine W4 ?_
  refine WL.split (t := 34) rfl (fun g34 => ?_) (fun g34 => ?_)
  ·
   refine wlgv (op_fieldAddr fo139_1 (lt_ rfl) rfl) rfl rfl rfl ?_
   refine W28 ?_
   refine W13 ?_
   refine W36 ?_
   refine W313 ?_
   refine WX.regs (L' := [(3, _), (9, _), (10, _), (11, _), (12, _), (39, _)]) ?_
   refine W0 ?_
   refine WC.cond rfl (fun h2 => ?_) (fun h2 => ?_)
   ·
    refine W3 ?_
    refine W317 ?_
    refine W241 ?_
    refine WX.regs (L' := [(3, _), (9, _), (10, _), (11, _)]) ?_
    refine W352 ?_
    refine WX.regs (L' := [(3, _), (9, _), (10, _), (11, _)]) ?_
    refine WX.meet ((i + 1, p.g)) ⟨⟨by simp only []; omega, hgs _ (by rw [hdc]; dsimp only; first | rw [if_pos (by omega)] | rw [if_neg (by omega)])⟩, by simp only []; omega⟩ (fun a w hs => hs.sub xY xT)
   ·
    refine W291 ?_
    refine W0 ?_
    refine W329 ?_
    refine WX.regs (L' := [(3, _), (9, _), (10, _), (11, _)]) ?_
    refine WX.meet ((i + 1, g)) ⟨⟨by simp only []; omega, hgs _ (by rw [hdc]; dsimp only; first | rw [if_pos (by omega)] | rw [if_neg (by omega)])⟩, by simp only []; omega⟩ (fun a w hs => hs.sub xY xT)
  ·
   refine W255 ?_
   refine W285 ?_
   refine WX.regs (L' := [(3, _), (9, _), (10, _), (11, _), (12, _), (39, _)]) ?_
   refine W281 ?_
   refine W352 ?_
   refine WX.regs (L' := [(3, _), (9, _), (10, _), (11, _)]) ?_
   refine WX.meet ((i + 1, g)) ⟨⟨by simp only []; omega, hgs _ (by rw [hdc]; dsimp only; first | rw [if_pos (by omega)] | rw [if_neg (by omega)])⟩, by simp only []; omega⟩ (fun a w hs => hs.sub xY xT)
 ·
  refine W284 ?_
  obtain ⟨hm1, hm2⟩ := nextR_eq hn (seenR r.V a k)
  have hmx := maxG_lt (seenR r.V a k)
  have hgm : g = maxG (seenR r.V a k) := by rw [hg, ← hrs, List.take_of_length_le (by rw [List.length_map]; omega)]
  refine W4 ?_
  refine W295 ?_
  refine WX.regs (L' := [(3, _), (9, _)]) ?_
  refine W282 ?_
  refine W78 ?_
  refine W297 ?_
  refine WX.regs (L' := [(9, _), (47, _)]) ?_
  refine W0 ?_
  refine WC.cond rfl (fun h3 => ?_) (fun h3 => ?_)
  ·
   refine W329 ?_
   refine WX.regs (L' := [(9, _)]) ?_
   refine W261 ?_
   refine W241 ?_
   refine WX.regs (L' := [(8, _)]) ?_
   refine W242 ?_
   have hnx : nextF n (seenR r.V a k) = g + 1 + 1 := by rw [hm2]; first | (rw [if_pos (by omega)]; omega) | (rw [if_neg (by omega)]; omega)
   rw [hnx]
   exact Fin.ret1 xI (()) (trivial) Tryz.results52 (.tmp rfl) xT (by simp)
  ·
   refine W8 ?_
   refine W261 ?_
   refine W241 ?_
   refine WX.regs (L' := [(8, _)]) ?_
   refine W242 ?_
   have hnx : nextF n (seenR r.V a k) = g + 1 := by rw [hm2]; first | (rw [if_pos (by omega)]; omega) | (rw [if_neg (by omega)]; omega)
   rw [hnx]
   exact Fin.ret1 xI (()) (trivial) Tryz.results52 (.tmp rfl) xT (by simp)
set_option maxHeartbeats 400000 in
set_option maxRecDepth 10000 in
theorem f55_spec (r : Rd) (hr : r.Ok) (a : Int) (k g n : Int) (A : Option Addr) (m c : Nat) (p : List UInt8) (hm : p.length = m) (hf : fineP k g n) (hp : m ≤ 131072) (ha : 0 ≤ a ∧ a + (need m : Nat) ≤ r.ds.length) (hw : r.ws.length + 1000 ≤ 1000000) :
  Spec Tryz.prog 55 [.agg r.cells.toArray, .int .i64 a, .int .i64 k, .int .i64 g, .int .i64 n, .slice A m c] [own (.slice r.A r.ds.length r.c) 30 1 r.ds.length (r.ds.map Bs.v), rowsC true r.ds, own (.slice r.Aw r.ws.length r.cw) 84 2 r.ws.length (r.ws.flatMap Wb.cells), rowsC true (r.ws.map Wb.b)] [rd (.slice A m c) 1 m (bvs p)] (R := Rd) (fun q => q.Put r a (sects k g n p)) (fun q => .tuple #[.agg q.cells.toArray, .int .i64 ((need m : Nat) : Int), .int .i64 0]) (fun q => [own (.slice q.A q.ds.length q.c) 30 1 q.ds.length (q.ds.map Bs.v), rowsC true q.ds, own (.slice q.Aw q.ws.length q.cw) 84 2 q.ws.length (q.ws.flatMap Wb.cells), rowsC true (q.ws.map Wb.b)]) := by
 subst hm
 have hnl := need_le hp
 have hrn := hr.n
 have hsp : split k g n p = (sects k g n p, 0) := by unfold split; rw [if_neg (fun h => h hf), if_neg (by omega)]
 have hsl : (sects k g n p).length = need p.length := sects_length ..
 have h256 := sects_256 hf hp
 refine Spec.intro Tryz.func55 Tryz.ntmps55 rfl (by simp) (by simp) fun w0 => ?_
 refine W240 ?_
 refine wl1 (op_box (lt_ rfl) rfl rfl) rfl fun b1 => ?_
 refine wl1 (op_alloc ti39 (lt_ rfl)) rfl fun b2 => ?_
 refine W251 ?_
 refine WX.regs (L' := [(1, _), (2, _), (3, _), (4, _), (5, _), (6, _), (12, _)]) ?_
 refine W299 ?_
 refine W244 ?_
 refine wlv (op_build (cs := [.int .i64 k, .int .i64 g, .int .i64 n, .slice A p.length c]) (pv := [(0, _), (1, _), (2, _), (3, _)]) (lt_ rfl) rfl (by kernel_rfl)) rfl ?_
 refine wlx (op_call (f79_spec k g n A p.length c p rfl) ca79 (lt_ rfl) rfl) rfl ?_
 rintro ⟨A1, c1, rs, e⟩ hrs
 dsimp only at hrs ⊢
 rw [hsp] at hrs
 obtain ⟨hrs1, rfl⟩ := Prod.mk.inj hrs
 have hrl : rs.length = need p.length := by have := congrArg List.length hrs1; rw [List.length_map, hsl] at this; exact this
 refine W341 ?_
 refine WX.regs (L' := [(1, _), (6, _), (12, _), (15, _)]) ?_
 refine W249 ?_
 refine W241 ?_
 refine WX.regs (L' := [(1, _), (6, _), (12, _), (15, _)]) ?_
 refine W310 ?_
 refine WX.regs (L' := [(1, _), (6, _), (12, _), (15, _), (18, _)]) ?_
 refine W294 ?_
 refine WC.loop (X := Rd × Nat) (fun x => rs.length - x.2) (fun x => x.1.Put r a ((sects k g n p).take x.2) ∧ x.2 ≤ rs.length) (fun x => [(1, .int .i64 a), (6, .pointer (some ⟨b1, 0, none⟩)), (12, .pointer (some ⟨b2, 0, none⟩)), (15, .slice A1 rs.length c1), (18, .int .i64 (x.2 : Int))]) (fun x => [own (.slice x.1.A x.1.ds.length x.1.c) 30 1 x.1.ds.length (x.1.ds.map Bs.v), rowsC true x.1.ds, own (.slice x.1.Aw x.1.ws.length x.1.cw) 84 2 x.1.ws.length (x.1.ws.flatMap Wb.cells), rowsC true (x.1.ws.map Wb.b), blk b1 x.1.cells 39, blk b2 [.slice none 0 0, .slice none 0 0, .int .i64 0, .bool false, .int .i64 0] 39, own (.slice A1 rs.length c1) 30 1 rs.length (rs.map Bs.v), rowsC true rs, frameC w0 (MutF [own (.slice r.A r.ds.length r.c) 30 1 r.ds.length (r.ds.map Bs.v), rowsC true r.ds, own (.slice r.Aw r.ws.length r.cw) 84 2 r.ws.length (r.ws.flatMap Wb.cells), rowsC true (r.ws.map Wb.b)])]) ((r, 0)) (⟨Rd.Put.refl hr a, Nat.zero_le _⟩) (fun a w hs => hs.sub xY xT) ?_
 rintro ⟨q, i⟩ ⟨hq, hi⟩
 try dsimp only at hq hi ⊢
 refine W314 ?_
 refine W40 ?_
 refine W265 ?_
 refine WX.regs (L' := [(1, _), (6, _), (12, _), (15, _), (18, _), (31, _)]) ?_
 refine W0 ?_
 refine WC.cond rfl (fun h1 => ?_) (fun h1 => ?_)
 ·
  refine W270 ?_
  refine W1 ?_
  refine WC.drawn (Hs := [own (.slice A1 rs.length c1) 30 1 rs.length (rs.map Bs.v)]) mo 999 ?_
  obtain ⟨s0, hs0⟩ : ∃ r, rs[i]? = some r := ⟨rs[i]'(by omega), List.getElem?_eq_getElem _⟩
  have hsi : (sects k g n p)[i]? = some s0.s := by rw [← hrs1]; simp [hs0]
  have hs256 : s0.s.length = 256 := h256 _ (List.mem_of_getElem? hsi)
  have hti : ((sects k g n p).take i).length = i := by rw [List.length_take]; omega
  have hqm := hq.m
  have hqn := hq.n
  refine W39 ?_
  refine W60 ?_
  refine WA.take (i := 3) rfl (by kernel_rfl) (fun _ _ _ h => h) rfl (op_add (lt_ rfl) rfl rfl (by omega)) xT ?_
  refine W51 ?_
  refine W67 ?_
  refine WA.take (i := 6) rfl (by kernel_rfl) (fun _ _ _ h => h) rfl (op_index Tryz.underlying36 sz30 (lt_ rfl) rfl rfl (by omega) (by omega) (by decide) xS) xT ?_
  refine WA.take (i := 7) rfl (by kernel_rfl) (fun _ _ _ h => h) rfl (op_loadS fl30 (lt_ rfl) rfl xS (show (rs.map Bs.v)[_]? = some (.slice s0.A 256 s0.c) by rw [← hs256]; exact rows_at' hs0 (by omega))) xT ?_
  refine WA.stepv (i := 0) (by kernel_rfl) rfl rfl (op_loadAll ag39 (lt_ rfl) rfl xM xL) (fun _ => xT) ?_
  refine WA.stepx (i := 8) (by kernel_rfl) rfl rfl (op_call (f80_spec q hq.ok (by omega) (a + (i : Int)) ⟨by omega, by omega⟩ s0.A s0.c s0.s hs256) ca80 (lt_ rfl) rfl (by apply Give.mk; (repeat (first | exact Takes.nil | exact Take.here | apply Takes.cons | apply Take.there)); (repeat (first | exact Reads.nil | (apply Reads.rd; (focus (repeat (first | exact List.Mem.head _ | apply List.Mem.tail)); done)) | (apply Reads.own; (focus (repeat (first | exact List.Mem.head _ | apply List.Mem.tail)); done)) | (apply Reads.rx; (focus (repeat (first | exact List.Mem.head _ | apply List.Mem.tail)); done)) | (apply Reads.rows (e := false); (focus (repeat (first | exact List.Mem.head _ | apply List.Mem.tail)); done)) | (apply Reads.rows (e := true); (focus (repeat (first | exact List.Mem.head _ | apply List.Mem.tail)); done)))); exact Reads.cons (c := rowsC true rs) xM (by simp) (by have h := rowsC_get (e := true) (rs := rs) (r := s0) (List.mem_of_getElem? hs0); unfold Bs.ch Bs.v at h; rw [hs256] at h; exact h) Reads.nil)) (fun _ r => xT) ?_
  rintro q2 hq2
  refine W55 ?_
  refine W64 ?_
  refine W54 ?_
  refine WA.stepo (i := 12) (by kernel_rfl) rfl rfl (op_storeAll sz39 rfl rfl xK xL xO xL) (fun _ => xT) ?_
  refine W173 ?_
  refine W19 ?_
  refine WX.blkEq (b := b1) q2.cells xK (by rfl) ?_
  refine WX.regs (L' := [(1, _), (6, _), (12, _), (15, _), (17, _), (18, _)]) ?_
  refine W359 ?_
  refine WX.regs (L' := [(1, _), (6, _), (12, _), (15, _), (17, _), (18, _), (47, _)]) ?_
  refine W281 ?_
  refine W352 ?_
  refine WX.regs (L' := [(1, _), (6, _), (12, _), (15, _), (18, _)]) ?_
  refine WX.meet ((q2, i + 1)) ⟨⟨by rw [take_snoc hsi]; exact hq.snoc hq2 (by omega), by simp only []; omega⟩, by simp only []; omega⟩ (fun a w hs => hs.sub xY xT)
 ·
  refine W284 ?_
  refine W41 ?_
  refine W4 ?_
  refine W40 ?_
  refine W50 ?_
  refine W305 ?_
  refine WX.regs (L' := [(12, _), (13, _), (14, _)]) ?_
  refine W242 ?_
  rw [hrl]
  exact Fin.ret3 xI (q) (by rw [show i = (sects k g n p).length by omega, List.take_of_length_le (Nat.le_refl _)] at hq; exact hq) Tryz.results55 rfl (.cellN rfl ag39 xM xL) (.tmp rfl) (.tmp rfl) xT (by simp)
end Go.Proofs.YtkjlbedebmffgaaGreat.Sx
namespace Go.Proofs.YtkjlbedebmffgaaGreat.Sx
open Go.RowKit Go.Proofs.YtkjlbedebmffgaaGreat.Ty
attribute [local irreducible] blk own rd rx frameC
theorem Fin.ret4 {P : Program} {L : List (Nat × Value)} {H F : List Ch} {m : Nat} {fn : Func} {w0 : World} {T : List Ch} {R : Type} {φ : R → Prop} {ret : R → Value} {B : R → List Ch} {e : Exit} (he : e = .ret ∨ e = .normal) (r : R) (hφ : φ r) {r1 r2 r3 r4 : ResultVar} {v1 v2 v3 v4 : Value}
  (hr : fn.results = #[r1, r2, r3, r4]) (hv : ret r = .tuple #[v1, v2, v3, v4]) (h1 : Res P ⟨m, []⟩ L H r1 v1) (h2 : Res P ⟨m, []⟩ L H r2 v2) (h3 : Res P ⟨m, []⟩ L H r3 v3) (h4 : Res P ⟨m, []⟩ L H r4 v4) (hB : Takes H (frameC w0 (MutF T) :: B r) F) (hex : ∀ c ∈ B r, c.ex = true) : WX (Fin P fn w0 T φ ret B) e ⟨m, []⟩ L H :=
 Fin.go he r hφ (fun a w hs => by rw [results_eq, hr, hv]; simp [h1.run a w hs, h2.run a w hs, h3.run a w hs, h4.run a w hs]) hB hex
def Ar.fitsR (a : Ar) : Option (Int × Int × List (List UInt8)) → Prop
 | none => a.ok = false
 | some (g, f, es) => a.ok = true ∧ a.g = g ∧ a.f = f ∧ a.es.map Bs.s = es
theorem numR (bs : List UInt8) : ∃ v : Int, v = (if vl bs ≤ 2147483647 then ((vl bs : Nat) : Int) else -1) ∧ (vl bs ≤ 2147483647 ∧ v = (vl bs : Nat) ∨ ¬ vl bs ≤ 2147483647 ∧ v = -1) := by
 refine ⟨_, rfl, ?_⟩
 split
 ·exact .inl ⟨by assumption, rfl⟩
 ·exact .inr ⟨by assumption, rfl⟩
theorem area_fin {n g : Int} {ss : List (List UInt8)} {h : Rs} {t : List Rs} {v1 v2 : Int} {j : Nat} {A : Option Addr} {c : Nat} (ham : areaM n ss = areaL g ((h :: t).map Rs.r)) (hk : h.k = 1) (hl : h.b.s.length = 16)
  (h1 : vl (h.b.s.take 8) ≤ 2147483647 ∧ v1 = (vl (h.b.s.take 8) : Nat)) (h2 : vl (h.b.s.drop 8) ≤ 2147483647 ∧ v2 = (vl (h.b.s.drop 8) : Nat)) (hj : ((t.map Rs.k).takeWhile (· == 2)).length = j) :
  (⟨decide ((j : Int) ≥ v2), g, v1, A, c, (t.map Rs.b).take j⟩ : Ar).fitsR (areaM n ss) := by
 rw [ham]
 by_cases hc : (j : Int) ≥ v2
 ·rw [areaL_some ⟨hk, hl, h1.1, h2.1, by omega⟩]
  refine ⟨decide_eq_true hc, rfl, h1.2, ?_⟩
  rw [hj]
  simp [List.map_take]
 ·rw [areaL_none (fun k => by have := k.2.2.2.2; omega)]
  exact decide_eq_false hc
set_option maxHeartbeats 400000 in
set_option maxRecDepth 10000 in
theorem f58_spec (n : Int) (hn : 0 ≤ n ∧ n ≤ 1) (A : Option Addr) (M c : Nat) (rs : List Bs) (hM : rs.length = M) (hM1 : 1 ≤ M) (hMx : M ≤ 1000000) :
  Spec Tryz.prog 58 [.slice A M c, .int .i64 n] [] [rd (.slice A M c) 1 M (rs.map Bs.v), rowsC false rs] (R := Ar) (fun a => a.fitsR (areaM n (rs.map Bs.s))) (fun a => .tuple #[.int .i64 a.g, .int .i64 a.f, .slice a.A a.es.length a.c, .bool a.ok]) (fun a => [own (.slice a.A a.es.length a.c) 30 1 a.es.length (a.es.map Bs.v), rowsC true a.es]) := by
 subst hM
 obtain ⟨r0, hr0⟩ : ∃ r, rs[0]? = some r := ⟨rs[0]'(by omega), List.getElem?_eq_getElem _⟩
 refine Spec.intro Tryz.func58 Tryz.ntmps58 rfl (by simp) (by simp) fun w0 => ?_
 refine W240 ?_
 refine W5 ?_
 refine W266 ?_
 refine W76 ?_
 refine W261 ?_
 refine W95 ?_
 refine wlv (op_loadS fl30 (lt_ rfl) rfl xS (rows_at' hr0 rfl)) rfl ?_
 refine wlx (op_call (f75_spec r0.A r0.s.length r0.c r0.s rfl) ca75 (lt_ rfl) rfl (by apply Give.mk; (focus (repeat (first | exact Takes.nil | exact Take.here | apply Takes.cons | apply Take.there))); exact Reads.cons (c := rowsC false rs) xM (by simp) (rowsC_get (r := r0) (List.mem_of_getElem? hr0)) Reads.nil)) rfl ?_
 rintro ⟨A3, c3, m3, p, e⟩ hpe
 dsimp only at hpe
 obtain ⟨hpe, rfl⟩ := hpe
 have hpg := dec_g r0.s
 rw [← hpe] at hpg
 dsimp only at hpg
 have hdc := hpe.symm
 have hg0 : (rs.map Bs.s).getD 0 [] = r0.s := by simp [List.getD_eq_getElem?_getD, hr0]
 dsimp only
 refine W296 ?_
 refine wl1 (op_alloc ti139 (lt_ rfl)) rfl fun b1 => ?_
 refine W75 ?_
 refine W271 ?_
 refine WX.blkEq (b := b1) (pcells p.k p.g p.n p.i p.c (.slice A3 p.b.length c3)) xK (by rfl) ?_
 refine WX.regs (L' := [(0, _), (1, _), (8, _), (9, _)]) ?_
 refine W269 ?_
 refine W256 ?_
 refine W4 ?_
 refine WL.split (t := 26) rfl (fun g26 => ?_) (fun g26 => ?_)
 ·
  refine W320 ?_
  refine W2 ?_
  refine WX.regs (L' := [(0, _), (8, _), (32, _)]) ?_
  refine W353 ?_
  refine W5 ?_
  refine W266 ?_
  refine W99 ?_
  refine W263 ?_
  have hnone : areaM n (rs.map Bs.s) = none := areaM_none (by rw [hg0, hdc]; show ¬ (e = 0 ∧ p.g % 2 = n); omega)
  refine W258 ?_
  exact Fin.ret4 xI (Ar.zero) (by rw [hnone]; rfl) Tryz.results58 rfl (.tmp rfl) (.tmp rfl) (.tmp rfl) (.tmp rfl) xT (by simp)
 ·
  refine wlgv (op_fieldAddr fo139_1 (lt_ rfl) rfl) rfl rfl rfl ?_
  refine W28 ?_
  refine wlgv (op_rem (lt_ rfl) rfl rfl (by omega) (by omega)) rfl rfl rfl ?_
  refine W13 ?_
  refine W44 ?_
  refine W285 ?_
  refine WX.regs (L' := [(0, _), (8, _), (32, _)]) ?_
  refine W0 ?_
  refine WC.cond rfl (fun h1 => ?_) (fun h1 => ?_)
  ·
   refine W240 ?_
   refine W5 ?_
   refine W266 ?_
   refine W99 ?_
   refine W263 ?_
   have hnone : areaM n (rs.map Bs.s) = none := areaM_none (by rw [hg0, hdc]; show ¬ (e = 0 ∧ p.g % 2 = n); omega)
   refine W258 ?_
   exact Fin.ret4 xI (Ar.zero) (by rw [hnone]; rfl) Tryz.results58 rfl (.tmp rfl) (.tmp rfl) (.tmp rfl) (.tmp rfl) xT (by simp)
  ·
   refine W274 ?_
   refine W317 ?_
   refine W4 ?_
   refine wlx (op_call (f84_spec p.g 0 A rs.length c rs rfl hMx) ca84 (lt_ rfl) rfl) rfl ?_
   rintro ⟨Al, cl, l, cnt, es⟩ hsc
   dsimp only at hsc
   have hsl := congrArg Prod.fst hsc
   dsimp only at hsl
   have ham : areaM n (rs.map Bs.s) = areaL p.g (l.map Rs.r) := by rw [areaM_scan (by rw [hg0, hdc]; show e = 0 ∧ p.g % 2 = n; exact ⟨by omega, by omega⟩), hg0, hdc, hsl]
   have hll : l.length ≤ rs.length := by have := scan_len p.g 0 (rs.map Bs.s); rw [← hsl, List.length_map, List.length_map] at this; exact this
   dsimp only
   refine WL.turn (c := own (.slice Al l.length cl) 144 4 l.length (l.flatMap Rs.cells)) (d := rd (.slice Al l.length cl) 4 l.length (l.flatMap Rs.cells)) xK own_le_rd ?_
   refine W296 ?_
   refine W20 ?_
   refine W266 ?_
   refine WX.regs (L' := [(8, _), (10, _)]) ?_
   refine W282 ?_
   refine wlv (op_len Tryz.underlying149 (lt_ rfl) rfl) rfl ?_
   refine W42 ?_
   refine W4 ?_
   refine WL.split (t := 44) rfl (fun g44 => ?_) (fun g44 => ?_)
   ·
    refine W320 ?_
    refine W4 ?_
    refine W255 ?_
    refine W243 ?_
    refine W313 ?_
    refine WX.regs (L' := [(8, _), (10, _), (58, _)]) ?_
    refine W353 ?_
    refine W5 ?_
    refine W266 ?_
    refine W99 ?_
    refine W263 ?_
    have hnone : areaM n (rs.map Bs.s) = none := by rw [ham]; first | exact areaL_none (by omega) | (obtain rfl : l = [] := List.eq_nil_of_length_eq_zero (by omega); rfl)
    refine W258 ?_
    exact Fin.ret4 xI (Ar.zero) (by rw [hnone]; rfl) Tryz.results58 rfl (.tmp rfl) (.tmp rfl) (.tmp rfl) (.tmp rfl) xT (by simp)
   ·
    obtain ⟨h, t, rfl⟩ : ∃ h t, l = h :: t := by
     cases l with
     | nil => exact absurd rfl (by omega)
     | cons h t => exact ⟨h, t, rfl⟩
    have htl2 : t.length + 1 ≤ rs.length := hll
    have htl3 : (h :: t).length = t.length + 1 := rfl
    have htl := tw_le (t.map Rs.k)
    rw [List.length_map] at htl
    refine W13 ?_
    refine wlgv (op_index Tryz.underlying149 sz144 (lt_ rfl) rfl rfl (by omega) (by omega) (by decide) xS) rfl rfl rfl ?_
    refine wlgv (op_fieldAddrS fo144_0 (lt_ rfl) rfl xS (by simp [Rs.cells])) rfl rfl rfl ?_
    refine wlgv (op_loadS fl3 (lt_ rfl) rfl xS rfl) rfl rfl rfl ?_
    refine W44 ?_
    refine W15 ?_
    refine W4 ?_
    refine WL.split (t := 51) rfl (fun g51 => ?_) (fun g51 => ?_)
    ·
     refine W255 ?_
     refine W243 ?_
     refine W313 ?_
     refine WX.regs (L' := [(8, _), (10, _), (58, _)]) ?_
     refine W353 ?_
     refine W5 ?_
     refine W266 ?_
     refine W99 ?_
     refine W263 ?_
     have hnone : areaM n (rs.map Bs.s) = none := by rw [ham]; first | exact areaL_none (by omega) | (obtain rfl : l = [] := List.eq_nil_of_length_eq_zero (by omega); rfl)
     refine W258 ?_
     exact Fin.ret4 xI (Ar.zero) (by rw [hnone]; rfl) Tryz.results58 rfl (.tmp rfl) (.tmp rfl) (.tmp rfl) (.tmp rfl) xT (by simp)
    ·
     refine W13 ?_
     refine wlgv (op_index Tryz.underlying149 sz144 (lt_ rfl) rfl rfl (by omega) (by omega) (by decide) xS) rfl rfl rfl ?_
     refine wlgv (op_fieldAddrS fo144_3 (lt_ rfl) rfl xS (by simp [Rs.cells])) rfl rfl rfl ?_
     refine wlgv (op_loadS fl30 (lt_ rfl) rfl xS rfl) rfl rfl rfl ?_
     refine wlgv (op_len Tryz.underlying30 (lt_ rfl) rfl) rfl rfl rfl ?_
     refine W44 ?_
     refine W285 ?_
     refine WX.regs (L' := [(8, _), (10, _), (58, _)]) ?_
     refine W0 ?_
     refine WC.cond rfl (fun h2 => ?_) (fun h2 => ?_)
     ·
      refine W240 ?_
      refine W5 ?_
      refine W266 ?_
      refine W99 ?_
      refine W263 ?_
      have hnone : areaM n (rs.map Bs.s) = none := by rw [ham]; first | exact areaL_none (by omega) | (obtain rfl : l = [] := List.eq_nil_of_length_eq_zero (by omega); rfl)
      refine W258 ?_
      exact Fin.ret4 xI (Ar.zero) (by rw [hnone]; rfl) Tryz.results58 rfl (.tmp rfl) (.tmp rfl) (.tmp rfl) (.tmp rfl) xT (by simp)
     ·
      refine W262 ?_
      refine W1 ?_
      refine WC.drawn (Hs := [rd (.slice Al (h :: t).length cl) 4 (h :: t).length ((h :: t).flatMap Rs.cells), rowsC true ((h :: t).map Rs.b)]) mo 999 ?_
      have h16 : h.b.s.length = 16 := by omega
      refine WA.capx (A := h.b.A) (m := h.b.s.length) (c := h.b.c) (sz := 1) (xs := bvs h.b.s) ⟨rowsC true ((h :: t).map Rs.b), xM, rowsC_get (r := h.b) (by simp)⟩ (fun hcap => ?_)
      refine W29 ?_
      refine WA.take (i := 1) rfl (by kernel_rfl) (fun _ _ _ h => h) rfl (op_index Tryz.underlying149 sz144 (lt_ rfl) rfl rfl (by omega) (by omega) (by decide) xS) xT ?_
      refine WA.take (i := 2) rfl (by kernel_rfl) (fun _ _ _ h => h) rfl (op_fieldAddrS fo144_3 (lt_ rfl) rfl xS (by simp [Rs.cells])) xT ?_
      refine WA.take (i := 3) rfl (by kernel_rfl) (fun _ _ _ h => h) rfl (op_loadS fl30 (lt_ rfl) rfl xS rfl) xT ?_
      refine WA.take (i := 4) rfl (by kernel_rfl) (fun _ _ _ h => h) rfl (op_slice_h Tryz.underlying30 sz5 (lt_ rfl) rfl rfl (by omega) (by omega)) xT ?_
      refine W107 ?_
      refine WA.take (i := 7) rfl (by kernel_rfl) (fun _ _ _ h => h) rfl (op_index Tryz.underlying149 sz144 (lt_ rfl) rfl rfl (by omega) (by omega) (by decide) xS) xT ?_
      refine WA.take (i := 8) rfl (by kernel_rfl) (fun _ _ _ h => h) rfl (op_fieldAddrS fo144_3 (lt_ rfl) rfl xS (by simp [Rs.cells])) xT ?_
      refine WA.take (i := 9) rfl (by kernel_rfl) (fun _ _ _ h => h) rfl (op_loadS fl30 (lt_ rfl) rfl xS rfl) xT ?_
      rw [show h.b.v = .slice h.b.A 16 h.b.c from by unfold Bs.v; rw [h16]]
      refine WA.take (i := 10) rfl (by kernel_rfl) (fun _ _ _ h => h) rfl (op_slice_l Tryz.underlying30 sz5 (lt_ rfl) rfl rfl (by omega) (by omega)) xT ?_
      refine WA.stepx (i := 5) (by kernel_rfl) rfl rfl (op_call (f85_spec _ _ (h.b.s.take 8) (by rw [List.length_take]; omega)) ca85 (lt_ rfl) rfl (by apply Give.mk; (focus (repeat (first | exact Takes.nil | exact Take.here | apply Takes.cons | apply Take.there))); exact Reads.cons (c := rowsC true ((h :: t).map Rs.b)) xM (by simp) (Ch.Le.trans ((by have k := rd_subB (A := h.b.A) (m := h.b.s.length) (c := h.b.c) (bs := h.b.s) (l := 0) (h := 8) (by omega) (by omega); exact k)) (rowsC_get (r := h.b) (by simp))) Reads.nil)) (fun _ r => xT) ?_
      rintro _ _
      obtain ⟨v1, hv1, hv1b⟩ := numR (h.b.s.take 8)
      rw [← hv1]
      refine WA.stepx (i := 11) (by kernel_rfl) rfl rfl (op_call (f85_spec _ _ (h.b.s.drop 8) (by rw [List.length_drop]; omega)) ca85 (lt_ rfl) rfl (by apply Give.mk; (focus (repeat (first | exact Takes.nil | exact Take.here | apply Takes.cons | apply Take.there))); exact Reads.cons (c := rowsC true ((h :: t).map Rs.b)) xM (by simp) (Ch.Le.trans (ch16 h.b h16) (rowsC_get (r := h.b) (by simp))) Reads.nil)) (fun _ r => xT) ?_
      rintro _ _
      obtain ⟨v2, hv2, hv2b⟩ := numR (h.b.s.drop 8)
      rw [← hv2]
      refine WA.take (i := 12) rfl (by kernel_rfl) (fun _ _ _ h => h) rfl (op_assign (lt_ rfl) rfl) xT ?_
      refine W173 ?_
      refine W19 ?_
      refine WX.regs (L' := [(8, _), (10, _), (13, _), (14, _)]) ?_
      refine W282 ?_
      refine W25 ?_
      refine W4 ?_
      refine WL.split (t := 73) rfl (fun g73 => ?_) (fun g73 => ?_)
      ·
       refine W243 ?_
       refine W313 ?_
       refine WX.regs (L' := [(8, _), (10, _), (13, _), (14, _), (76, _)]) ?_
       refine W353 ?_
       refine W5 ?_
       refine W266 ?_
       refine W99 ?_
       refine W263 ?_
       have hnone : areaM n (rs.map Bs.s) = none := by rw [ham]; exact areaL_none (by omega)
       refine W258 ?_
       exact Fin.ret4 xI (Ar.zero) (by rw [hnone]; rfl) Tryz.results58 rfl (.tmp rfl) (.tmp rfl) (.tmp rfl) (.tmp rfl) xT (by simp)
      ·
       refine W13 ?_
       refine W98 ?_
       refine W285 ?_
       refine WX.regs (L' := [(8, _), (10, _), (13, _), (14, _), (76, _)]) ?_
       refine W0 ?_
       refine WC.cond rfl (fun h3 => ?_) (fun h3 => ?_)
       ·
        refine W240 ?_
        refine W5 ?_
        refine W266 ?_
        refine W99 ?_
        refine W263 ?_
        have hnone : areaM n (rs.map Bs.s) = none := by rw [ham]; exact areaL_none (by omega)
        refine W258 ?_
        exact Fin.ret4 xI (Ar.zero) (by rw [hnone]; rfl) Tryz.results58 rfl (.tmp rfl) (.tmp rfl) (.tmp rfl) (.tmp rfl) xT (by simp)
       ·
        refine W274 ?_
        refine W241 ?_
        refine WX.regs (L' := [(8, _), (10, _), (13, _), (14, _), (15, _)]) ?_
        refine W310 ?_
        refine WX.regs (L' := [(8, _), (10, _), (13, _), (14, _), (15, _), (16, _)]) ?_
        refine W294 ?_
        refine WC.nilslice 30 1 ?_
        refine WC.loop (X := Nat × Option Addr × Nat) (fun q => t.length - q.1) (fun q => q.1 ≤ ((t.map Rs.k).takeWhile (· == 2)).length) (fun q => [(8, .pointer (some ⟨b1, 0, none⟩)), (10, .slice Al (h :: t).length cl), (13, .int .i64 v1), (14, .int .i64 v2), (15, .slice q.2.1 q.1 q.2.2), (16, .int .i64 (1 + (q.1 : Int)))]) (fun q => [own (.slice q.2.1 q.1 q.2.2) 30 1 q.1 (((t.map Rs.b).take q.1).map Bs.v), blk b1 (pcells p.k p.g p.n p.i p.c (.slice A3 p.b.length c3)) 139, rd (.slice Al (h :: t).length cl) 4 (h :: t).length ((h :: t).flatMap Rs.cells), rowsC true ((h :: t).map Rs.b), frameC w0 (MutF [])]) ((0, none, 0)) (Nat.zero_le _) (fun a w hs => hs.sub xY xT) ?_
        rintro ⟨j, Ao, co⟩ hj
        try dsimp only at hj ⊢
        refine W314 ?_
        refine wlv (op_len Tryz.underlying149 (lt_ rfl) rfl) rfl ?_
        refine W25 ?_
        refine W4 ?_
        refine WL.split (t := 81) rfl (fun g81 => ?_) (fun g81 => ?_)
        ·
         obtain ⟨ri, hri⟩ : ∃ r, t[j]? = some r := ⟨t[j]'(by omega), List.getElem?_eq_getElem _⟩
         have hx : ∀ k, k = (1 + j) * 4 → (((h :: t).flatMap Rs.cells).drop k).take 4 = ri.cells := fun k hk => by rw [hk]; exact flat_at (f := Rs.cells) (sz := 4) (fun _ => rfl) (h :: t) (1 + j) ri (by rw [Nat.add_comm, List.getElem?_cons_succ]; exact hri)
         have hgd : (t.map Rs.k).getD j 0 = ri.k := by simp [List.getD_eq_getElem?_getD, hri]
         have hst := tw_step (ks := t.map Rs.k) (i := j) (by rw [List.length_map]; omega) hj
         refine W345 ?_
         refine wlgv (op_index Tryz.underlying149 sz144 (lt_ rfl) rfl rfl (by omega) (by omega) (by decide) xS) rfl rfl rfl ?_
         refine wlgv (op_fieldAddrS fo144_0 (lt_ rfl) rfl xS (by rw [flat_len (f := Rs.cells) (sz := 4) (fun _ => rfl), List.length_cons]; omega)) rfl rfl rfl ?_
         refine wlgv (op_loadS fl3 (lt_ rfl) rfl xS ((row_get (k := 0) (hx _ (by omega)) (by decide)).trans rfl)) rfl rfl rfl ?_
         refine W62 ?_
         refine W313 ?_
         refine WX.regs (L' := [(8, _), (10, _), (13, _), (14, _), (15, _), (16, _), (88, _)]) ?_
         refine W0 ?_
         refine WC.cond rfl (fun h4 => ?_) (fun h4 => ?_)
         ·
          refine W270 ?_
          refine W334 ?_
          refine W4 ?_
          refine wlv (op_index Tryz.underlying149 sz144 (lt_ rfl) rfl rfl (by omega) (by omega) (by decide) xS) rfl ?_
          refine wlv (op_fieldAddrS fo144_3 (lt_ rfl) rfl xS (by rw [flat_len (f := Rs.cells) (sz := 4) (fun _ => rfl), List.length_cons]; omega)) rfl ?_
          refine wlv (op_loadS fl30 (lt_ rfl) rfl xS ((row_get (k := 3) (hx _ (by omega)) (by decide)).trans rfl)) rfl ?_
          refine wl1 (op_lit1 Tryz.underlying36 ti30 rfl (by decide) (lt_ rfl) rfl rfl) rfl fun b2 => ?_
          refine wl2 (op_append Tryz.underlying36 ti30 rfl (by decide) (lt_ rfl) rfl rfl xK xS (by rfl) (by omega) (by omega)) rfl fun A1 c1 => ?_
          refine W241 ?_
          refine WX.regs (L' := [(8, _), (10, _), (13, _), (14, _), (15, _), (16, _)]) ?_
          refine W352 ?_
          refine WX.regs (L' := [(8, _), (10, _), (13, _), (14, _), (15, _), (16, _)]) ?_
          refine WX.ownEq (v := .slice A1 (j + 1) c1) (((t.map Rs.b).take (j + 1)).map Bs.v) xK (by rw [take_snoc (x := ri.b) (by rw [List.getElem?_map, hri]; rfl), ← map_push]; rfl) ?_
          refine WX.meet ((j + 1, A1, c1)) ⟨by rcases hst with ⟨_, h1⟩ | ⟨_, h1⟩; (exfalso; rw [hgd] at h1; omega); exact h1, by simp only []; omega⟩ (fun a w hs => hs.sub xY xT)
         ·
          refine W284 ?_
          refine W317 ?_
          refine W244 ?_
          refine W4 ?_
          refine W40 ?_
          refine W4 ?_
          refine W66 ?_
          refine W5 ?_
          refine W266 ?_
          refine W99 ?_
          refine W242 ?_
          have htj : ((t.map Rs.k).takeWhile (· == 2)).length = j := by first | omega | (rcases hst with ⟨h1, _⟩ | ⟨h1, _⟩; (exact h1); (exfalso; rw [hgd] at h1; omega))
          have hel : ((t.map Rs.b).take j).length = j := by rw [List.length_take, List.length_map]; omega
          refine W279 ?_
          skip
          exact Fin.ret4 xI (⟨decide ((j : Int) ≥ v2), p.g, v1, Ao, co, (t.map Rs.b).take j⟩) (area_fin ham (by omega) (by omega) (by omega) (by omega) htj) Tryz.results58 rfl (.tmp rfl) (.tmp rfl) (.tmp (by show some (Value.slice Ao j co) = _; rw [hel])) (.tmp rfl) xT (by simp)
        ·
         refine W255 ?_
         refine W267 ?_
         refine W2 ?_
         refine WX.regs (L' := [(8, _), (10, _), (13, _), (14, _), (15, _), (16, _), (88, _)]) ?_
         refine W0 ?_
         refine W23 ?_
         refine W284 ?_
         refine W317 ?_
         refine W244 ?_
         refine W4 ?_
         refine W40 ?_
         refine W4 ?_
         refine W66 ?_
         refine W5 ?_
         refine W266 ?_
         refine W99 ?_
         refine W242 ?_
         have htj : ((t.map Rs.k).takeWhile (· == 2)).length = j := by first | omega | (rcases hst with ⟨h1, _⟩ | ⟨h1, _⟩; (exact h1); (exfalso; rw [hgd] at h1; omega))
         have hel : ((t.map Rs.b).take j).length = j := by rw [List.length_take, List.length_map]; omega
         refine W279 ?_
         skip
         exact Fin.ret4 xI (⟨decide ((j : Int) ≥ v2), p.g, v1, Ao, co, (t.map Rs.b).take j⟩) (area_fin ham (by omega) (by omega) (by omega) (by omega) htj) Tryz.results58 rfl (.tmp rfl) (.tmp rfl) (.tmp (by show some (Value.slice Ao j co) = _; rw [hel])) (.tmp rfl) xT (by simp)
end Go.Proofs.YtkjlbedebmffgaaGreat.Sx
namespace Go.Proofs.YtkjlbedebmffgaaGreat.Sx
open Go.RowKit
section
variable {P : Program} {ops : Array Oper} {Q : Exit → Act → World → Prop} {n : Fr} {L : List (Nat × Value)} {H F : List Ch}
theorem lastIn_set {e j : Nat} {listed : Array Bool} (hne : j ≠ e) : lastIn ops e (listed.setIfInBounds j true) = lastIn ops e listed := by
 unfold lastIn
 rw [Go.getD_set_ne false hne]
theorem first_in_pure {S : World → Prop} {e i : Nat} {oi : Oper} {v : Value} (hi : ops[i]? = some oi) (hsel : Region.noSelect ops = true) (hie : i ≠ e)
  (hQ : ∀ c a w, Q (.panic c) (a.put oi.dst v) w → Q (.panic c) a w) :
  ∀ (fuel : Nat) (listed : Array Bool) (a : Act) (w : World), Region.free .any ops listed i = true → i ∈ Region.ready .any ops listed → YieldsIf P ops (fun _ => True) oi v a → (lastIn ops e listed = false → S w) →
   wpAnyE P ops Q S e fuel (listed.setIfInBounds i true) (a.put oi.dst v) w → wpAnyE P ops Q S e (fuel + 1) listed a w := by
 have hfreeSpec := fun listed h => Region.free_spec (ops := ops) (md := .any) (listed := listed) hi h
 suffices H : ∀ (fuel : Nat) (listed : Array Bool) (a : Act) (w : World),
   (∀ j oj, ops[j]? = some oj → j ≠ i → listed.getD j true = false → (∀ d ∈ oj.after, Region.binds .any d = true → d.on ≠ i) → oi.apart ops oj = true) →
   i ∈ Region.ready .any ops listed → YieldsIf P ops (fun _ => True) oi v a → (lastIn ops e listed = false → S w) →
   wpAnyE P ops Q S e fuel (listed.setIfInBounds i true) (a.put oi.dst v) w → wpAnyE P ops Q S e (fuel + 1) listed a w from
  fun fuel listed a w hf hr hy hS hk => H fuel listed a w (hfreeSpec listed hf) hr hy hS hk
 intro fuel
 induction fuel with
 | zero =>
  intro listed a w _ hr hy hS hk
  refine ⟨fun h0 => absurd hr (by rw [h0]; exact List.not_mem_nil), fun j hj => ?_⟩
  rcases Decidable.em (j = i) with rfl | hne
  ·exact hy.wpOp hi trivial ⟨fun _ hl => hS hl, hk⟩
  ·have hj' := ready_mono hj hne
   rw [hk.1] at hj'
   exact absurd hj' List.not_mem_nil
 | succ fuel ih =>
  intro listed a w hfree hr hy hS hk
  refine ⟨fun h0 => absurd hr (by rw [h0]; exact List.not_mem_nil), fun j hj => ?_⟩
  rcases Decidable.em (j = i) with rfl | hne
  ·exact hy.wpOp hi trivial ⟨fun _ hl => hS hl, hk⟩
  have hul : listed.getD i true = false := not_listed hr
  obtain ⟨hju, oj, hoj, hall⟩ := mem_ready.1 hj
  have hnoedge : ∀ d ∈ oj.after, Region.binds .any d = true → d.on ≠ i := by
   intro d hd hb heq
   have h1 := hall d hd hb
   rw [heq] at h1
   rcases Nat.lt_or_ge i listed.size with hlt | hge
   ·simp [hlt] at h1 hul
    rw [hul] at h1
    cases h1
   ·simp [Array.getElem?_eq_none hge] at h1
  have hsel' : ∀ (j : Nat) (o : Oper) cs b, ops[j]? = some o → o.op ≠ .select cs b := Region.noSelect_spec hsel
  have h2 := wpOp_putIf hoj (hfree j oj hoj hne hju hnoedge) (fun cs b => hsel' i oi cs b hi) (fun cs b => hsel' j oj cs b hoj) hQ hy (hk.2 j (ready_mono hj hne))
  refine wpOp_mono (fun a' w' h3 => ?_) h2
  obtain ⟨hy', hS', hk'⟩ := h3
  refine ⟨fun hne' hl => hS' hne' (by rw [lastIn_set hie]; exact hl), ih (listed.setIfInBounds j true) a' w' ?_ (ready_mono hr (Ne.symm hne)) hy' (fun hl => ?_) (by rw [Array.setIfInBounds_comm _ _ hne]; exact hk')⟩
  ·intro k ok hok hki hun hno
   refine hfree k ok hok hki ?_ hno
   rcases Decidable.em (j = k) with rfl | hjk
   ·exact hju
   ·rwa [Go.getD_set_ne true hjk] at hun
  ·rcases Decidable.em (j = e) with rfl | hje
   ·exfalso
    unfold lastIn at hl
    rw [hoj] at hl
    have hlt : j < listed.size := by
     rcases Nat.lt_or_ge j listed.size with h | h
     ·exact h
     ·simp [Nat.not_lt.2 h] at hju
    simp [hlt] at hl
   ·rw [lastIn_set hje] at hl
    exact hS' hje (by rw [lastIn_set hie]; exact hl)
def mayPure (ops : Array Oper) (e i : Nat) (listed : Array Bool) : Bool :=
 Region.noSelect ops && !(Nat.beq i e) && Region.free .any ops listed i && (Region.ready .any ops listed).contains i
theorem WA.pure {Hs : List Ch} {e i d : Nat} {oi : Oper} {v : Value} {fuel : Nat} {listed : Array Bool} (hi : ops[i]? = some oi) (hm : mayPure ops e i listed = true)
  (hQ : ∀ c a w, Q (.panic c) (a.put oi.dst v) w → Q (.panic c) a w) (hg : oi.guard = none) (hv : Val P oi n L [] d v) (hS : lastIn ops e listed = true ∨ ∃ F, Takes H Hs F)
  (h : WA P ops Q (fun w => Sat w Hs) e fuel (listed.setIfInBounds i true) n (upd L d v) H) : WA P ops Q (fun w => Sat w Hs) e (fuel + 1) listed n L H := fun a w hst => by
 simp only [mayPure, Bool.and_eq_true, Bool.not_eq_true'] at hm
 obtain ⟨⟨⟨h1, h2⟩, h3⟩, h4⟩ := hm
 have hie : i ≠ e := fun k => by rw [k] at h2; simp at h2
 refine first_in_pure hi h1 hie hQ fuel listed a w h3 (by simpa using h4) (.inl ⟨by simp [Region.wanted, hg], fun w' _ => hv.run a w' ⟨hst.regs, ⟨fun c hc => (by cases hc), .nil⟩⟩⟩) (fun hl => ?_) (h _ _ (by rw [hv.dst]; exact ⟨hst.regs.put hv.lt v, hst.sat⟩))
 rcases hS with hS | ⟨F, hS⟩
 ·rw [hl] at hS; cases hS
 ·exact hst.sat.only hS
end
end Go.Proofs.YtkjlbedebmffgaaGreat.Sx
namespace Go.Proofs.YtkjlbedebmffgaaGreat.Sx
open Go.RowKit Go.Proofs.YtkjlbedebmffgaaGreat.Ty
attribute [local irreducible] blk own rd rx frameC
def rjc (J : Jn) (A : Option Addr) (c m : Nat) : List Value := [.int .i64 J.fi, .int .i64 (J.se / 2), .int .i64 J.se, .int .i64 J.gen, .int .i64 J.used, .int .i64 J.first, .slice A m c, .int .i64 J.synced, .int .i64 J.failed]
def jrr (a : Int) (k : Nat) (g f : Int) (u : Nat) (m : Nat) : Jn := ⟨a, (k : Int), g % 2, g, f, (u : Int), f + (m : Int), 0⟩
structure Rd.Area (q r : Rd) (a : Int) (ss : List (List UInt8)) : Prop where
 V : ∀ i : Int, 0 ≤ i → i < r.ds.length → q.V i = ovl r.V a ss i
 n : q.ds.length = r.ds.length
 m : q.ws = []
 ok : q.Ok
theorem Rd.Put.area {q3 q r : Rd} {a : Int} {ss : List (List UInt8)} (h : q.Put r a ss) (k : q3.Flushed q) : q3.Area r a ss :=
 ⟨fun i h1 h2 => by rw [k.V i h1 (by rw [h.n]; exact h2), h.V], by rw [k.n, h.n], k.m, k.ok⟩
theorem needs_take {es : List Bs} {i : Nat} {b : Bs} (h : es[i]? = some b) : needs ((es.map Bs.s).take (i + 1)) = needs ((es.map Bs.s).take i) + need b.s.length := by
 rw [take_snoc (x := b.s) (by simp [h]), needs_append]
 rfl
theorem recs_take {es : List Bs} {i : Nat} {b : Bs} (h : es[i]? = some b) (hi : i ≤ es.length) (g : Int) : recs 2 g 1 ((es.map Bs.s).take (i + 1)) = recs 2 g 1 ((es.map Bs.s).take i) ++ sects 2 g ((i : Int) + 1) b.s := by
 rw [take_snoc (x := b.s) (by simp [h]), recs_append]
 simp only [recs, List.append_nil, List.length_take, List.length_map]
 rw [Nat.min_eq_left hi, Int.add_comm]
theorem needs_take_le (ps : List (List UInt8)) (i : Nat) : needs (ps.take i) ≤ needs ps := by
 have := needs_append (ps.take i) (ps.drop i)
 rw [List.take_append_drop] at this
 omega
theorem areaS_app (g f : Int) (ps : List (List UInt8)) : areaS g f ps = sects 1 g 0 (headP f ps.length) ++ recs 2 g 1 ps := rfl
set_option maxHeartbeats 400000 in
set_option maxRecDepth 10000 in
theorem f51_spec (r : Rd) (hr : r.Ok) (a : Int) (k : Nat) (g f : Int) (Ae : Option Addr) (ce : Nat) (es : List Bs) (ha : 0 ≤ a ∧ 8 ≤ k ∧ a + k ≤ r.ds.length) (hg : 0 ≤ g ∧ g ≤ 2147483647) (hf : 0 ≤ f ∧ f ≤ 1000000000000) (hes : ∀ b ∈ es, b.s.length ≤ 131072) (hfit : 1 + needs (es.map Bs.s) ≤ k / 2) (hw : r.ws.length + 10000 ≤ 1000000) :
  Spec Tryz.prog 51 [.agg r.cells.toArray, .int .i64 a, .int .i64 (k : Int), .int .i64 g, .int .i64 f, .slice Ae es.length ce] [own (.slice r.A r.ds.length r.c) 30 1 r.ds.length (r.ds.map Bs.v), rowsC true r.ds, own (.slice r.Aw r.ws.length r.cw) 84 2 r.ws.length (r.ws.flatMap Wb.cells), rowsC true (r.ws.map Wb.b), rowsC true es] [rd (.slice Ae es.length ce) 1 es.length (es.map Bs.v)] (R := Rd × Option Addr × Nat) (fun q => q.1.Area r (a + g % 2 * ((k : Int) / 2)) (areaS g f (es.map Bs.s)))
   (fun q => .tuple #[.agg q.1.cells.toArray, .agg (rjc (jrr a k g f (1 + needs (es.map Bs.s)) es.length) q.2.1 q.2.2 es.length).toArray, .int .i64 0]) (fun q => [own (.slice q.1.A q.1.ds.length q.1.c) 30 1 q.1.ds.length (q.1.ds.map Bs.v), rowsC true q.1.ds, own (.slice q.1.Aw q.1.ws.length q.1.cw) 84 2 q.1.ws.length (q.1.ws.flatMap Wb.cells), rowsC true (q.1.ws.map Wb.b), own (.slice q.2.1 es.length q.2.2) 30 1 es.length (es.map Bs.v), rowsC true es]) := by
 have hrn := hr.n
 have hle := needs_le (es.map Bs.s)
 rw [List.length_map] at hle
 have hh16 : (headP f es.length).length = 16 := headP_length ..
 have hgm : 0 ≤ g % 2 ∧ g % 2 ≤ 1 := by omega
 have hfr : 0 ≤ g % 2 * ((k : Int) / 2) ∧ g % 2 * ((k : Int) / 2) + ((k / 2 : Nat) : Int) ≤ k := by rcases (show g % 2 = 0 ∨ g % 2 = 1 by omega) with e | e <;> rw [e] <;> omega
 refine Spec.intro Tryz.func51 Tryz.ntmps51 rfl (by simp) (by simp) fun w0 => ?_
 refine W240 ?_
 refine wl1 (op_box (lt_ rfl) rfl rfl) rfl fun b1 => ?_
 refine wl1 (op_alloc ti39 (lt_ rfl)) rfl fun b2 => ?_
 refine wl1 (op_alloc ti41 (lt_ rfl)) rfl fun b3 => ?_
 refine W241 ?_
 refine WX.regs (L' := [(1, _), (2, _), (3, _), (4, _), (5, _), (6, _), (12, _), (13, _)]) ?_
 refine W261 ?_
 refine W109 ?_
 refine W241 ?_
 refine WX.regs (L' := [(1, _), (2, _), (3, _), (4, _), (5, _), (6, _), (12, _), (13, _), (15, _)]) ?_
 refine W282 ?_
 refine W56 ?_
 rw [show decide (g > 2147483647) = false from decide_eq_false (by omega)]
 refine W2 ?_
 refine WX.regs (L' := [(1, _), (2, _), (3, _), (4, _), (5, _), (6, _), (12, _), (13, _), (15, _), (24, _)]) ?_
 refine W281 ?_
 refine W299 ?_
 refine W244 ?_
 refine W4 ?_
 refine wl1 (op_lit0 Tryz.underlying36 ti30 (lt_ rfl)) rfl fun b4 => ?_
 refine W4 ?_
 refine wl2 (op_append0 Tryz.underlying36 ti30 rfl (by decide) (lt_ rfl) rfl rfl xK xS (rows_one _) (by omega) (by omega)) rfl fun A1 c1 => ?_
 refine W244 ?_
 refine W40 ?_
 refine W16 ?_
 refine wlv (op_build (cs := (rjc (jrr a k g f 0 es.length) A1 c1 es.length)) (pv := [(0, _), (1, _), (2, _), (3, _), (5, _), (6, _), (7, _)]) (lt_ rfl) rfl (by kernel_rfl)) rfl ?_
 refine wl1 (op_alloc ti41 (lt_ rfl)) rfl fun b5 => ?_
 refine wl (op_storeAll sz41 rfl rfl xK xL xO xL) rfl ?_
 refine W252 ?_
 refine WX.blkEq (b := b5) (rjc (jrr a k g f 0 es.length) A1 c1 es.length) xK (by rfl) ?_
 refine WX.regs (L' := [(1, _), (3, _), (4, _), (5, _), (6, _), (12, _), (13, _), (15, _), (16, _)]) ?_
 refine W299 ?_
 refine W78 ?_
 refine W4 ?_
 refine wlv (op_mul (lt_ rfl) rfl rfl (by rcases (show g % 2 = 0 ∨ g % 2 = 1 by omega) with e | e <;> rw [e] <;> omega)) rfl ?_
 refine W295 ?_
 refine WX.regs (L' := [(3, _), (4, _), (5, _), (6, _), (12, _), (13, _), (16, _), (17, _)]) ?_
 refine W327 ?_
 refine WC.drawn (Hs := [blk b1 r.cells 39]) mo 14 ?_
 refine W70 ?_
 refine W39 ?_
 refine W60 ?_
 refine W77 ?_
 refine W67 ?_
 refine WA.take (i := 6) rfl (by kernel_rfl) (fun _ _ _ h => h) rfl (op_len Tryz.underlying36 (lt_ rfl) rfl) xT ?_
 refine WA.stepx (i := 4) (by kernel_rfl) rfl rfl (op_call ((by have := f74_spec f.toNat (by omega); rw [Int.toNat_of_nonneg hf.1] at this; exact this)) ca74 (lt_ rfl) rfl) (fun _ r => xT) ?_
 rintro ⟨Ah, ch⟩ _
 refine WA.stepx (i := 7) (by kernel_rfl) rfl rfl (op_call (f74_spec es.length (by omega)) ca74 (lt_ rfl) rfl) (fun _ r => xT) ?_
 rintro ⟨Al, cl⟩ _
 refine WA.step2 (i := 8) (by kernel_rfl) rfl rfl (op_append Tryz.underlying30 ti5 rfl (by decide) (lt_ rfl) rfl rfl xK xS (bvs_one _) (by omega) (by omega)) (fun _ A c => xT) fun A2 c2 => ?_
 refine WA.stepx (i := 9) (by kernel_rfl) rfl rfl (op_call (f55_spec r hr (a + g % 2 * ((k : Int) / 2)) 1 g 0 A2 16 c2 (headP f es.length) hh16 (by simp only [fineP]; omega) (by omega) ⟨by omega, by rw [show need 16 = 1 from rfl]; omega⟩ (by omega)) ca55 (lt_ rfl) rfl) (fun _ r => xT) ?_
 rintro q hq
 rw [show need 16 = 1 from rfl]
 refine W90 ?_
 refine W54 ?_
 refine WA.pure (i := 12) rfl (by kernel_rfl) (fun _ _ _ h => h) rfl (op_extract (lt_ rfl) rfl rfl) (.inr ⟨_, xT⟩) ?_
 refine WA.pure (i := 13) rfl (by kernel_rfl) (fun _ _ _ h => h) rfl (op_extract (lt_ rfl) rfl rfl) (.inr ⟨_, xT⟩) ?_
 refine WA.stepo (G := []) (i := 14) (by kernel_rfl) rfl rfl (op_storeAll sz39 rfl rfl xK xL xO xL) (fun h => absurd rfl h) ?_
 refine WA.pure (i := 15) rfl (by kernel_rfl) (fun _ _ _ h => h) rfl (op_assign (lt_ rfl) rfl) (.inl (by kernel_rfl)) ?_
 refine WA.pure (i := 16) rfl (by kernel_rfl) (fun _ _ _ h => h) rfl (op_assign (lt_ rfl) rfl) (.inl (by kernel_rfl)) ?_
 refine W19 ?_
 refine WX.blkEq (b := b1) q.cells xK (by rfl) ?_
 refine WX.regs (L' := [(3, _), (5, _), (6, _), (12, _), (13, _), (16, _), (17, _), (18, _), (19, _)]) ?_
 refine W261 ?_
 refine wlv (op_fieldAddr fo41_4 (lt_ rfl) rfl) rfl ?_
 refine W61 ?_
 refine W252 ?_
 refine WX.blkEq (b := b5) (rjc (jrr a k g f 1 es.length) A1 c1 es.length) xK (by rfl) ?_
 refine WX.regs (L' := [(3, _), (5, _), (6, _), (12, _), (13, _), (16, _), (17, _), (19, _)]) ?_
 refine W310 ?_
 refine WX.regs (L' := [(3, _), (5, _), (6, _), (12, _), (13, _), (16, _), (17, _), (19, _), (20, _)]) ?_
 refine W294 ?_
 refine WC.loop (X := Rd × Nat) (fun x => es.length - x.2) (fun x => x.1.Put r (a + g % 2 * ((k : Int) / 2)) ((sects 1 g 0 (headP f es.length)) ++ (recs 2 g 1 ((es.map Bs.s).take x.2))) ∧ x.2 ≤ es.length) (fun x => [(3, .int .i64 g), (5, .slice Ae es.length ce), (6, .pointer (some ⟨b1, 0, none⟩)), (12, .pointer (some ⟨b2, 0, none⟩)), (13, .pointer (some ⟨b3, 0, none⟩)), (16, .pointer (some ⟨b5, 0, none⟩)), (17, .int .i64 (a + g % 2 * ((k : Int) / 2))), (19, .int .i64 0), (20, .int .i64 (x.2 : Int))]) (fun x => [own (.slice x.1.A x.1.ds.length x.1.c) 30 1 x.1.ds.length (x.1.ds.map Bs.v), rowsC true x.1.ds, own (.slice x.1.Aw x.1.ws.length x.1.cw) 84 2 x.1.ws.length (x.1.ws.flatMap Wb.cells), rowsC true (x.1.ws.map Wb.b), blk b1 x.1.cells 39, blk b2 [.slice none 0 0, .slice none 0 0, .int .i64 0, .bool false, .int .i64 0] 39, blk b3 [.int .i64 0, .int .i64 0, .int .i64 0, .int .i64 0, .int .i64 0, .int .i64 0, .slice none 0 0, .int .i64 0, .int .i64 0] 41, blk b5 (rjc (jrr a k g f (1 + needs ((es.map Bs.s).take x.2)) es.length) A1 c1 es.length) 41, own (.slice A1 es.length c1) 30 1 es.length (es.map Bs.v), rowsC true es, rd (.slice Ae es.length ce) 1 es.length (es.map Bs.v), frameC w0 (MutF [own (.slice r.A r.ds.length r.c) 30 1 r.ds.length (r.ds.map Bs.v), rowsC true r.ds, own (.slice r.Aw r.ws.length r.cw) 84 2 r.ws.length (r.ws.flatMap Wb.cells), rowsC true (r.ws.map Wb.b), rowsC true es])]) ((q, 0)) (⟨by rw [List.take_zero]; simpa [recs] using hq, Nat.zero_le _⟩) (fun a w hs => hs.sub xY xT) ?_
 rintro ⟨q, i⟩ ⟨hq, hi⟩
 try dsimp only at hq hi ⊢
 refine W314 ?_
 refine W40 ?_
 refine W25 ?_
 refine W4 ?_
 refine WL.split (t := 66) rfl (fun g66 => ?_) (fun g66 => ?_)
 ·
  refine W13 ?_
  refine W62 ?_
  refine W313 ?_
  refine WX.regs (L' := [(3, _), (5, _), (6, _), (12, _), (13, _), (16, _), (17, _), (19, _), (20, _), (69, _)]) ?_
  refine W362 ?_
  refine W270 ?_
  refine W1 ?_
  refine WC.drawn (Hs := [blk b1 q.cells 39, blk b5 (rjc (jrr a k g f (1 + needs ((es.map Bs.s).take i)) es.length) A1 c1 es.length) 41, rd (.slice Ae es.length ce) 1 es.length (es.map Bs.v)]) mo 17 ?_
  obtain ⟨ri, hri⟩ : ∃ r, es[i]? = some r := ⟨es[i]'(by omega), List.getElem?_eq_getElem _⟩
  have hnt := needs_take hri
  have hnl := needs_take_le (es.map Bs.s) (i + 1)
  have hu : ((1 + needs ((es.map Bs.s).take i) : Nat) : Int) + ((need ri.s.length : Nat) : Int) = ((1 + needs ((es.map Bs.s).take (i + 1)) : Nat) : Int) := by omega
  have hqn := hq.n
  have hqm := hq.m
  have hql : ((sects 1 g 0 (headP f es.length)) ++ (recs 2 g 1 ((es.map Bs.s).take i))).length = 1 + needs ((es.map Bs.s).take i) := by rw [List.length_append, sects_length, hh16, recs_length]; rfl
  refine W70 ?_
  refine W39 ?_
  refine WA.take (i := 2) rfl (by kernel_rfl) (fun _ _ _ h => h) rfl (op_fieldAddr fo41_4 (lt_ rfl) rfl) xT ?_
  refine W198 ?_
  rw [show (jrr a k g f (1 + needs ((es.map Bs.s).take i)) es.length).used = ((1 + needs ((es.map Bs.s).take i) : Nat) : Int) from rfl]
  refine WA.take (i := 4) rfl (by kernel_rfl) (fun _ _ _ h => h) rfl (op_add (lt_ rfl) rfl rfl (by omega)) xT ?_
  refine W67 ?_
  refine W107 ?_
  refine WA.take (i := 7) rfl (by kernel_rfl) (fun _ _ _ h => h) rfl (op_add (lt_ rfl) rfl rfl (by omega)) xT ?_
  refine W71 ?_
  refine W55 ?_
  refine WA.take (i := 10) rfl (by kernel_rfl) (fun _ _ _ h => h) rfl (op_index Tryz.underlying36 sz30 (lt_ rfl) rfl rfl (by omega) (by omega) (by decide) xS) xT ?_
  refine WA.take (i := 11) rfl (by kernel_rfl) (fun _ _ _ h => h) rfl (op_loadS fl30 (lt_ rfl) rfl xS (rows_at' hri (by omega))) xT ?_
  refine WA.stepx (i := 12) (by kernel_rfl) rfl rfl (op_call (f55_spec q hq.ok ((a + g % 2 * ((k : Int) / 2)) + ((1 + needs ((es.map Bs.s).take i) : Nat) : Int)) 2 g ((i : Int) + 1) ri.A ri.s.length ri.c ri.s rfl (by simp only [fineP]; omega) (hes ri (List.mem_of_getElem? hri)) ⟨by omega, by omega⟩ (by omega)) ca55 (lt_ rfl) rfl (by apply Give.mk; (focus (repeat (first | exact Takes.nil | exact Take.here | apply Takes.cons | apply Take.there))); exact Reads.cons (c := rowsC true es) xM (by simp) (rowsC_get (r := ri) (List.mem_of_getElem? hri)) Reads.nil)) (fun _ r => xT) ?_
  rintro q2 hq2
  refine WA.take (i := 13) rfl (by kernel_rfl) (fun _ _ _ h => h) rfl (op_move (lt_ rfl) rfl) xT ?_
  refine W148 ?_
  refine WA.pure (i := 15) rfl (by kernel_rfl) (fun _ _ _ h => h) rfl (op_extract (lt_ rfl) rfl rfl) (.inr ⟨_, xT⟩) ?_
  refine WA.pure (i := 16) rfl (by kernel_rfl) (fun _ _ _ h => h) rfl (op_extract (lt_ rfl) rfl rfl) (.inr ⟨_, xT⟩) ?_
  refine WA.stepo (G := []) (i := 17) (by kernel_rfl) rfl rfl (op_storeAll sz39 rfl rfl xK xL xO xL) (fun h => absurd rfl h) ?_
  refine WA.pure (i := 18) rfl (by kernel_rfl) (fun _ _ _ h => h) rfl (op_assign (lt_ rfl) rfl) (.inl (by kernel_rfl)) ?_
  refine WA.pure (i := 19) rfl (by kernel_rfl) (fun _ _ _ h => h) rfl (op_assign (lt_ rfl) rfl) (.inl (by kernel_rfl)) ?_
  refine W19 ?_
  refine WX.blkEq (b := b1) q2.cells xK (by rfl) ?_
  refine WX.regs (L' := [(3, _), (5, _), (6, _), (12, _), (13, _), (16, _), (17, _), (18, _), (19, _), (20, _)]) ?_
  refine W0 ?_
  refine W3 ?_
  refine wlv (op_fieldAddr fo41_4 (lt_ rfl) rfl) rfl ?_
  refine W21 ?_
  rw [show (jrr a k g f (1 + needs ((es.map Bs.s).take i)) es.length).used = ((1 + needs ((es.map Bs.s).take i) : Nat) : Int) from rfl]
  refine W4 ?_
  refine W16 ?_
  refine wlv (op_fieldAddr fo41_4 (lt_ rfl) rfl) rfl ?_
  refine W61 ?_
  refine W252 ?_
  refine WX.blkEq (b := b5) (rjc (jrr a k g f (1 + needs ((es.map Bs.s).take (i + 1))) es.length) A1 c1 es.length) xK (by rw [hu]; rfl) ?_
  refine WX.regs (L' := [(3, _), (5, _), (6, _), (12, _), (13, _), (16, _), (17, _), (19, _), (20, _)]) ?_
  refine W352 ?_
  refine WX.regs (L' := [(3, _), (5, _), (6, _), (12, _), (13, _), (16, _), (17, _), (19, _), (20, _)]) ?_
  refine WX.meet ((q2, i + 1)) ⟨⟨by rw [recs_take hri hi, ← List.append_assoc]; exact hq.app hq2 (by rw [hql]), by simp only []; omega⟩, by simp only []; omega⟩ (fun a w hs => hs.sub xY xT)
 ·
  refine W267 ?_
  refine W2 ?_
  refine WX.regs (L' := [(3, _), (5, _), (6, _), (12, _), (13, _), (16, _), (17, _), (19, _), (20, _), (69, _)]) ?_
  refine W0 ?_
  refine W23 ?_
  refine W264 ?_
  refine W282 ?_
  refine W42 ?_
  refine W2 ?_
  refine WX.regs (L' := [(6, _), (12, _), (13, _), (16, _), (19, _), (95, _)]) ?_
  refine W362 ?_
  refine W3 ?_
  refine W41 ?_
  refine wlx (op_call (f57_spec q hq.ok) ca57 (lt_ rfl) rfl) rfl ?_
  rintro q3 hq3
  refine W296 ?_
  refine W50 ?_
  refine W271 ?_
  refine WX.blkEq (b := b1) q3.cells xK (by rfl) ?_
  refine WX.regs (L' := [(6, _), (12, _), (13, _), (16, _), (19, _)]) ?_
  refine W332 ?_
  refine WX.regs (L' := [(6, _), (12, _), (13, _), (16, _), (19, _), (102, _)]) ?_
  refine W281 ?_
  refine W327 ?_
  refine WC.drawn (Hs := [blk b1 q3.cells 39, blk b5 (rjc (jrr a k g f (1 + needs ((es.map Bs.s).take i)) es.length) A1 c1 es.length) 41]) mo 999 ?_
  refine W70 ?_
  refine W106 ?_
  refine W118 ?_
  refine W119 ?_
  refine W101 ?_
  refine W19 ?_
  refine WX.regs (L' := [(12, _), (13, _), (14, _)]) ?_
  refine W242 ?_
  obtain rfl : i = es.length := by omega
  rw [List.take_of_length_le (show (es.map Bs.s).length ≤ es.length by rw [List.length_map]; exact Nat.le_refl _)] at *
  exact Fin.ret3 xI ((q3, A1, c1)) (by rw [areaS_app, List.length_map]; exact hq.area hq3) Tryz.results51 rfl (.cellN rfl ag39 xM xL) (.cellN rfl ag41 xM xL) (.tmp rfl) xT (by simp)
set_option maxHeartbeats 400000 in
set_option maxRecDepth 10000 in
theorem f51_lim (r : Rd) (a : Int) (k : Nat) (g f : Int) (v : Value) (hk : 8 ≤ k ∧ k ≤ 100000) (hg : 2147483647 < g) :
  Spec Tryz.prog 51 [.agg r.cells.toArray, .int .i64 a, .int .i64 (k : Int), .int .i64 g, .int .i64 f, v] [] [] (R := Unit) (fun _ => True)
   (fun _ => .tuple #[.agg r.cells.toArray, .agg #[.int .i64 0, .int .i64 0, .int .i64 0, .int .i64 0, .int .i64 0, .int .i64 0, .slice none 0 0, .int .i64 0, .int .i64 0], .int .i64 9]) (fun _ => []) := by
 refine Spec.intro Tryz.func51 Tryz.ntmps51 rfl (by simp) (by simp) fun w0 => ?_
 refine W240 ?_
 refine wl1 (op_box (lt_ rfl) rfl rfl) rfl fun b1 => ?_
 refine wl1 (op_alloc ti39 (lt_ rfl)) rfl fun b2 => ?_
 refine wl1 (op_alloc ti41 (lt_ rfl)) rfl fun b3 => ?_
 refine W241 ?_
 refine WX.regs (L' := [(1, _), (2, _), (3, _), (4, _), (5, _), (6, _), (12, _), (13, _)]) ?_
 refine W261 ?_
 refine W109 ?_
 refine W241 ?_
 refine WX.regs (L' := [(1, _), (2, _), (3, _), (4, _), (5, _), (6, _), (12, _), (13, _), (15, _)]) ?_
 refine W282 ?_
 refine W56 ?_
 rw [show decide (g > 2147483647) = true from decide_eq_true (by omega)]
 refine W2 ?_
 refine WX.regs (L' := [(1, _), (2, _), (3, _), (4, _), (5, _), (6, _), (12, _), (13, _), (15, _), (24, _)]) ?_
 refine W353 ?_
 refine W41 ?_
 refine wlv (op_build (cs := [.int .i64 0, .int .i64 0, .int .i64 0, .int .i64 0, .int .i64 0, .int .i64 0, .slice none 0 0, .int .i64 0, .int .i64 0]) (pv := []) (lt_ rfl) rfl (by kernel_rfl)) rfl ?_
 refine W50 ?_
 refine W10 ?_
 refine wl (op_storeAll sz41 rfl rfl xK xL xO xL) rfl ?_
 refine W271 ?_
 refine WX.regs (L' := [(12, _), (13, _), (14, _)]) ?_
 refine W263 ?_
 exact Fin.ret3 xI (()) (trivial) Tryz.results51 rfl (.cellN rfl ag39 xM xL) (.cellN rfl ag41 xM xL) (.tmp rfl) xT (by simp)
end Go.Proofs.YtkjlbedebmffgaaGreat.Sx
namespace Go.Proofs.YtkjlbedebmffgaaGreat.Sx
theorem chk_more {k g n i c : Int} {m : Nat} (h : chk k g n i c m = 0) : fineP k g n ∧ 1 ≤ c ∧ m ≤ 224 ∧ (¬ i = c - 1 → m = 224) ∧ (i = c - 1 → 224 * i + m ≤ 131072) := by
 have h1 := chk_ok h
 unfold chk at h
 refine ⟨h1.1, h1.2.1, h1.2.2.2.2.2, fun h2 => ?_, fun h2 => ?_⟩
 ·split at h
  ·omega
  ·split at h
   ·omega
   ·split at h
    ·omega
    ·rename_i h3; omega
 ·split at h
  ·omega
  ·split at h
   ·omega
   ·split at h
    ·omega
    ·split at h
     ·omega
     ·rename_i h3; omega
theorem jf_len {ss : List (List UInt8)} {f : Pt} : ∀ {r i : Nat} {acc : List UInt8} {q : Rcd} {c : Int}, jf ss f r i acc = (q, c, 0) → f.c = ((i + r : Nat) : Int) → (r = 0 → acc.length ≤ 224 * i ∧ acc.length ≤ 131072) → (¬ r = 0 → acc.length = 224 * i) →
  q.p.length ≤ 224 * (i + r) ∧ q.p.length ≤ 131072 := by
 intro r
 induction r with
 | zero =>
  intro i acc q c h hc h0 _
  unfold jf at h
  cases h
  exact h0 rfl
 | succ r ih =>
  intro i acc q c h hc _ h1
  have hal := h1 (by omega)
  unfold jf at h
  split at h
  ·cases h
  ·split at h
   ·rename_i h2 h3
    simp only [Prod.mk.injEq] at h
    exact absurd h.2.2 h3
   ·rename_i h2 h3
    split at h
    ·cases h
    ·rename_i h4
     have hd := dec_fine (bs := ss.getD i []) (p := (dec (ss.getD i [])).1) (by rw [← Decidable.not_not.1 h3])
     obtain ⟨_, _, c1, c2, c3⟩ := chk_more hd.1
     have hi : (dec (ss.getD i [])).1.i = (i : Int) := Decidable.byContradiction fun k => h4 (.inl k)
     have hcc : (dec (ss.getD i [])).1.c = f.c := Decidable.byContradiction fun k => h4 (.inr (.inr k))
     have := ih h (by rw [hc]; omega) (fun hr => by
      have := c3 (by rw [hi, hcc, hc]; omega)
      rw [List.length_append]
      omega) (fun hr => by
      have := c2 (by rw [hi, hcc, hc]; omega)
      rw [List.length_append]
      omega)
     exact ⟨by omega, this.2⟩
theorem join_bound {ss : List (List UInt8)} {q : Rcd} {c : Int} (h : join ss = (q, c, 0)) : q.p.length ≤ 131072 ∧ ((need q.p.length : Nat) : Int) ≤ c := by
 unfold join at h
 split at h
 ·cases h
 ·split at h
  ·rename_i h1 h2
   simp only [Prod.mk.injEq] at h
   exact absurd h.2.2 h2
  ·rename_i h1 h2
   split at h
   ·cases h
   ·rename_i h3
    have hd := dec_fine (bs := ss.getD 0 []) (p := (dec (ss.getD 0 [])).1) (by rw [← Decidable.not_not.1 h2])
    obtain ⟨_, c0, c1, c2, c3⟩ := chk_more hd.1
    have hi : (dec (ss.getD 0 [])).1.i = 0 := Decidable.not_not.1 h3
    have hcf := (jf_ok h).1
    have := jf_len h (by omega) (fun hr => ⟨by omega, by have := c3 (by omega); omega⟩) (fun hr => by have := c2 (by omega); omega)
    refine ⟨this.2, ?_⟩
    rw [hcf]
    unfold need
    omega
theorem nextF_ge (n : Int) (ss : List (List UInt8)) : n ≤ nextF n ss := (nextF_facts ss n).1
theorem needs_snoc (ps : List (List UInt8)) (p : List UInt8) : needs (ps ++ [p]) = needs ps + need p.length := by rw [needs_append]; rfl
theorem scanF_bound {ss : List (List UInt8)} {g n : Int} : ∀ (fuel pos : Nat) (acc : List Rcd), needs (acc.map Rcd.p) ≤ pos → pos ≤ ss.length → (∀ r ∈ acc, r.p.length ≤ 131072) →
  needs ((scanF ss g n fuel pos acc).1.map Rcd.p) ≤ ss.length ∧ ∀ r ∈ (scanF ss g n fuel pos acc).1, r.p.length ≤ 131072 := by
 intro fuel
 induction fuel with
 | zero => intro pos acc h1 h2 h3; exact ⟨Nat.le_trans h1 h2, h3⟩
 | succ f ih =>
  intro pos acc h1 h2 h3
  unfold scanF
  split
  ·exact ⟨Nat.le_trans h1 h2, h3⟩
  ·split
   ·exact ⟨Nat.le_trans h1 h2, h3⟩
   ·split
    ·exact ⟨Nat.le_trans h1 h2, h3⟩
    ·rename_i h4 h5 h6
     have hj : join (ss.drop pos) = ((join (ss.drop pos)).1, (join (ss.drop pos)).2.1, 0) := by rw [← Decidable.not_not.1 h5]
     obtain ⟨q1, q2⟩ := join_ok hj.symm
     obtain ⟨b1, b2⟩ := join_bound hj
     rw [List.length_drop] at q2
     refine ih _ _ ?_ (by omega) ?_
     ·rw [List.map_append, List.map_singleton, needs_snoc]
      omega
     ·intro r hr
      rcases List.mem_append.1 hr with hr | hr
      ·exact h3 r hr
      ·rw [List.mem_singleton.1 hr]; exact b1
theorem scan_bound (g n : Int) (ss : List (List UInt8)) : needs ((scan g n ss).1.map Rcd.p) ≤ ss.length ∧ ∀ r ∈ (scan g n ss).1, r.p.length ≤ 131072 := by
 unfold scan
 split
 ·exact ⟨Nat.zero_le _, fun r hr => by cases hr⟩
 ·exact scanF_bound _ _ _ (Nat.zero_le _) (Nat.zero_le _) (fun r hr => by cases hr)
theorem area_bound {n g f : Int} {ss es : List (List UInt8)} (h : areaM n ss = some (g, f, es)) : (0 ≤ g ∧ g ≤ 2147483647) ∧ (0 ≤ f ∧ f ≤ 2147483647) ∧ (∀ p ∈ es, p.length ≤ 131072) ∧ 1 + needs es ≤ ss.length ∧ g % 2 = n := by
 obtain ⟨h1, h2, h3⟩ := areaM_gen h
 have hb := gof_bound h1
 obtain ⟨s1, s2⟩ := scan_bound g 0 ss
 cases hl : (scan g 0 ss).1 with
 | nil => rw [hl] at h3; cases h3
 | cons x t =>
  rw [hl] at h3 s1 s2
  have h4 : (if x.k = 1 ∧ x.p.length = 16 ∧ vl (x.p.take 8) ≤ 2147483647 ∧ vl (x.p.drop 8) ≤ 2147483647 ∧ vl (x.p.drop 8) ≤ bodies t then some (g, ((vl (x.p.take 8) : Nat) : Int), (t.take (bodies t)).map Rcd.p) else none) = some (g, f, es) := h3
  by_cases hc : x.k = 1 ∧ x.p.length = 16 ∧ vl (x.p.take 8) ≤ 2147483647 ∧ vl (x.p.drop 8) ≤ 2147483647 ∧ vl (x.p.drop 8) ≤ bodies t
  ·rw [if_pos hc] at h4
   simp only [Option.some.injEq, Prod.mk.injEq, true_and] at h4
   obtain ⟨rfl, rfl⟩ := h4
   refine ⟨hb, ⟨Int.natCast_nonneg _, by omega⟩, fun p hp => ?_, ?_, h2⟩
   ·obtain ⟨r, hr, rfl⟩ := List.mem_map.1 hp
    exact s2 r (List.mem_cons_of_mem _ (List.mem_of_mem_take hr))
   ·have e1 : needs ((x :: t).map Rcd.p) = need x.p.length + needs (t.map Rcd.p) := rfl
    have e2 := needs_take_le (t.map Rcd.p) (bodies t)
    rw [← List.map_take] at e2
    have e3 : 1 ≤ need x.p.length := by unfold need; omega
    omega
  ·rw [if_neg hc] at h4; cases h4
def pkR (V : Int → List UInt8) (a : Int) (k : Nat) : Ara := pickM (areaM 0 (seenR V a (k / 2))) (areaM 1 (seenR V (a + ((k / 2 : Nat) : Int)) (k / 2)))
theorem pkR_bound {V : Int → List UInt8} {a : Int} {k : Nat} {g f : Int} {es : List (List UInt8)} (h : pkR V a k = some (g, f, es)) : (0 ≤ g ∧ g ≤ 2147483647) ∧ (0 ≤ f ∧ f ≤ 2147483647) ∧ (∀ p ∈ es, p.length ≤ 131072) ∧ 1 + needs es ≤ k / 2 := by
 unfold pkR at h
 have h0 : ∀ y, areaM 0 (seenR V a (k / 2)) = some y → y = (g, f, es) → _ := fun y h1 h2 => area_bound (h1.trans (congrArg some h2))
 have h1 : ∀ y, areaM 1 (seenR V (a + ((k / 2 : Nat) : Int)) (k / 2)) = some y → y = (g, f, es) → _ := fun y h1 h2 => area_bound (h1.trans (congrArg some h2))
 simp only [seenR_length] at h0 h1
 cases e1 : areaM 1 (seenR V (a + ((k / 2 : Nat) : Int)) (k / 2)) with
 | none =>
  rw [e1] at h
  have h : areaM 0 (seenR V a (k / 2)) = some (g, f, es) := h
  obtain ⟨b1, b2, b3, b4, _⟩ := h0 _ h rfl
  exact ⟨b1, b2, b3, b4⟩
 | some y =>
  rw [e1] at h
  cases e0 : areaM 0 (seenR V a (k / 2)) with
  | none =>
   rw [e0] at h
   obtain ⟨b1, b2, b3, b4, _⟩ := h1 _ e1 (Option.some.inj h)
   exact ⟨b1, b2, b3, b4⟩
  | some x =>
   rw [e0] at h
   simp only [pickM] at h
   split at h
   ·obtain ⟨b1, b2, b3, b4, _⟩ := h1 _ e1 (Option.some.inj h)
    exact ⟨b1, b2, b3, b4⟩
   ·obtain ⟨b1, b2, b3, b4, _⟩ := h0 _ e0 (Option.some.inj h)
    exact ⟨b1, b2, b3, b4⟩
end Go.Proofs.YtkjlbedebmffgaaGreat.Sx
