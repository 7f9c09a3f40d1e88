import Derived.Test.YthephcghglldaaaS26
import Derived.Test.YthephcghglldaaaS28
set_option linter.unusedVariables false
set_option linter.unusedSimpArgs false
namespace Go.Proofs.Ythephcghglldaaa.Sx
open Go.RowKit Go.Proofs.Ythephcghglldaaa.Ty
attribute [local irreducible] blk own rd rx frameC

theorem sliced0 (A : Option Addr) (h c sz : Nat) : sliced A 0 h c sz = .slice A h c := by
  unfold sliced
  split
  · simp_all
  · cases A with
    | none => simp
    | some a => simp [Addr.add]
theorem own_takeR {A : Option Addr} {e : TypeId} {c M h : Nat} {rs : List Bs} (hh : h ≤ M) : (rx (.slice A h c) 1 h ((rs.take h).map Bs.v)).Le (own (.slice A M c) e 1 M (rs.map Bs.v)) := by
  have k := (rx_sub (A := A) (c := c) (m := M) (sz := 1) (l := 0) (h := h) (xs := rs.map Bs.v) (Nat.zero_le _) hh).trans (own_le_rx (e := e))
  have e2 : ((rs.map Bs.v).drop (0 * 1)).take ((h - 0) * 1) = (rs.take h).map Bs.v := by
    rw [Nat.zero_mul, List.drop_zero, Nat.mul_one, Nat.sub_zero, List.map_take]
  rw [e2, sliced0] at k
  exact k
theorem split_err {k g n : Int} {p : List UInt8} {l : List (List UInt8)} {e : Int} (h : (l, e) = split k g n p) (he : ¬ e = 0) : l = [] := by
  unfold split at h
  split at h
  · exact (Prod.mk.inj h).1
  · split at h
    · exact (Prod.mk.inj h).1
    · exact absurd (Prod.mk.inj h).2 he
theorem split_len3 {k g n : Int} {p : List UInt8} (hp : p.length ≤ 600) : (split k g n p).1.length ≤ 3 := by
  unfold split
  split
  · simp
  · split
    · simp
    · simp only [sects, List.length_map, List.length_range]
      unfold need
      omega
/-- The sectors of a run before some of them are changed. -/
def runF (g n : Int) (ps : List (List UInt8)) (m : Nat) : List (List UInt8) := (List.range m).flatMap fun i : Nat => (split 0 g (IntKind.i64.wrap (n + i)) ((ps.getD i []).take 600)).1
theorem runF_succ (g n : Int) (ps : List (List UInt8)) (m : Nat) : runF g n ps (m + 1) = runF g n ps m ++ (split 0 g (IntKind.i64.wrap (n + m)) ((ps.getD m []).take 600)).1 := by simp [runF, List.range_succ]
section
variable {P : Program} {n : Nat} {L : List (Nat × Value)} {H : List Ch} {d : Nat} {ty : TypeId} {pos : String} {af : Array Edge} {g : Option (Nat × Bool)} {x y : Operand} {xt yt : TypeId}
theorem op_addW {a b : Int} (hn : d < n) (hx : evr L x = some (.int .i64 a)) (hy : evr L y = some (.int .i64 b)) :
    Val P ⟨some d, .binOp .add xt x y yt, ty, pos, af, g⟩ n L H d ((.int .i64 (IntKind.i64.wrap (a + b)))) :=
  binop_val hn hx hy (fun _ _ => rfl) fun w => by simp [binOp, Op.intArith]
end
theorem ss_getD {rs : List Bs} {i : Nat} {r : Bs} (h : rs[i]? = some r) : (rs.map Bs.s).getD i [] = r.s := by simp [List.getD_eq_getElem?_getD, h]
theorem rows_one (rs : List Bs) : (rs.map Bs.v).all (·.oneCell') = true := by
  simp only [List.all_map, List.all_eq_true]
  intro x _
  rfl
theorem map_set_v (rs : List Bs) (j : Nat) (r : Bs) : (rs.map Bs.v).set j r.v = (rs.set j r).map Bs.v := by rw [List.map_set]
set_option maxHeartbeats 400000 in
set_option maxRecDepth 10000 in
theorem f38_spec (g n : Int) (AP AO AL : Option Addr) (MP cP MO cO ML cL : Nat) (ps : List Bs) (l : List Sc) (pl : List UInt8) (cut : UInt8) (hMP : ps.length = MP) (hMO : l.length = MO) (hML : pl.length = ML) (hy : ∀ s ∈ l, s.y.s.length ≤ 140737488355328) :
    Spec Try.prog 38 [.agg #[.int .i64 g, .int .i64 n, .slice AP MP cP, .slice AO MO cO, .slice AL ML cL, bv cut]] [] [rd (.slice AP MP cP) 1 MP (ps.map Bs.v), rowsC false ps, rd (.slice AO MO cO) 16 MO (l.flatMap Sc.cells), rowsC false (l.flatMap Sc.rows), rd (.slice AL ML cL) 1 ML (bvs pl)] (R := Option Addr × Nat × List Bs)
      (fun q => q.2.2.length ≤ 18 ∧ (MO = 0 → q.2.2.map Bs.s = (runF g n (ps.map Bs.s) (min 6 MP)).take ((runF g n (ps.map Bs.s) (min 6 MP)).length - min (cut.toNat % 8) (runF g n (ps.map Bs.s) (min 6 MP)).length))) (fun q => .slice q.1 q.2.2.length q.2.1)
      (fun q => [rx (.slice q.1 q.2.2.length q.2.1) 1 q.2.2.length (q.2.2.map Bs.v), rowsC true q.2.2]) := by
  refine Spec.intro Try.func38 Try.ntmps38 rfl (by simp) (by simp) fun w0 => ?_
  refine WC.seq ?_
  refine WC.region ?_
  refine wl1 (op_box (by decide) rfl rfl) rfl fun b1 => ?_
  refine wlv (op_assign (by decide) rfl) rfl ?_
  refine WL.nil ?_
  refine WX.regs (L' := [(1, _)]) (by repeat (first | exact RS.nil | refine RS.cons rfl ?_)) ?_
  refine WX.next ?_
  refine WC.seq ?_
  refine WC.region ?_
  refine wlv (op_assign (by decide) rfl) rfl ?_
  refine WL.nil ?_
  refine WX.regs (L' := [(1, _), (3, _)]) (by repeat (first | exact RS.nil | refine RS.cons rfl ?_)) ?_
  refine WX.next ?_
  refine WC.cut (X := List Bs × Option Addr × Nat) (fun q => q.1.length ≤ 18 ∧ q.1.map Bs.s = runF g n (ps.map Bs.s) (min 6 MP)) (fun q => [(1, .pointer (some ⟨b1, 0, none⟩)), (3, .slice q.2.1 q.1.length q.2.2)]) (fun q => [own (.slice q.2.1 q.1.length q.2.2) 22 1 q.1.length (q.1.map Bs.v), rowsC true q.1, blk b1 [.int .i64 g, .int .i64 n, .slice AP MP cP, .slice AO MO cO, .slice AL ML cL, bv cut] 75, rd (.slice AP MP cP) 1 MP (ps.map Bs.v), rowsC false ps, rd (.slice AO MO cO) 16 MO (l.flatMap Sc.cells), rowsC false (l.flatMap Sc.rows), rd (.slice AL ML cL) 1 ML (bvs pl), frameC w0 (MutF [])]) ?_ ?_
  ·
    refine WC.seq ?_
    refine WC.region ?_
    refine wlv (op_assign (by decide) rfl) rfl ?_
    refine WL.nil ?_
    refine WX.regs (L' := [(1, _), (3, _), (4, _)]) (by repeat (first | exact RS.nil | refine RS.cons rfl ?_)) ?_
    refine WX.next ?_
    refine WC.block ?_
    refine WC.nilrows true ?_
    refine WC.nilslice 22 1 ?_
    refine WC.loop (X := Nat × List Bs × Option Addr × Nat) (fun q => 6 - q.1) (fun q => q.1 ≤ 6 ∧ q.1 ≤ MP ∧ q.2.1.length ≤ 3 * q.1 ∧ q.2.1.map Bs.s = runF g n (ps.map Bs.s) q.1) (fun q => [(1, .pointer (some ⟨b1, 0, none⟩)), (3, .slice q.2.2.1 q.2.1.length q.2.2.2), (4, .int .i64 (q.1 : Int))]) (fun q => [own (.slice q.2.2.1 q.2.1.length q.2.2.2) 22 1 q.2.1.length (q.2.1.map Bs.v), rowsC true q.2.1, blk b1 [.int .i64 g, .int .i64 n, .slice AP MP cP, .slice AO MO cO, .slice AL ML cL, bv cut] 75, rd (.slice AP MP cP) 1 MP (ps.map Bs.v), rowsC false ps, rd (.slice AO MO cO) 16 MO (l.flatMap Sc.cells), rowsC false (l.flatMap Sc.rows), rd (.slice AL ML cL) 1 ML (bvs pl), frameC w0 (MutF [])]) ((0, [], none, 0)) (⟨Nat.zero_le _, Nat.zero_le _, Nat.zero_le _, rfl⟩) (fun a w hs => hs.sub (by repeat (first | exact RS.nil | refine RS.cons (by first | rfl | exact congrArg (fun z : Int => some (Value.int .i64 z)) (by omega)) ?_)) (by repeat (first | exact Takes.nil | exact Take.here | apply Takes.cons | apply Take.there))) ?_
    rintro ⟨i, rs, Ao, co⟩ ⟨hi, hiM, hrl, hrs⟩
    try dsimp only at hi hiM hrl hrs ⊢
    refine WC.seq ?_
    refine WC.seq ?_
    refine WC.region ?_
    refine wlv (op_move (by decide) rfl) rfl ?_
    refine wlv (op_fieldAddr fo75_2 (by decide) rfl) rfl ?_
    refine wlv (op_load1 fl52 (by decide) rfl (by repeat (first | exact List.Mem.head _ | apply List.Mem.tail)) rfl) rfl ?_
    refine wlv (op_len Try.underlying52 (by decide) rfl) rfl ?_
    refine wlv (op_lss (by decide) rfl rfl) rfl ?_
    refine wlv (op_move (by decide) rfl) rfl ?_
    refine WL.split (t := 13) rfl (fun g13 => ?_) (fun g13 => ?_)
    ·
      refine wlgv (op_move (by decide) rfl) rfl rfl rfl ?_
      refine wlgv (op_lss (by decide) rfl rfl) rfl rfl rfl ?_
      refine wlv (op_pickT (by decide) rfl rfl) rfl ?_
      refine WL.nil ?_
      refine WX.regs (L' := [(1, _), (3, _), (4, _), (16, _)]) (by repeat (first | exact RS.nil | refine RS.cons rfl ?_)) ?_
      refine WX.next ?_
      refine WC.cond rfl (fun h1 => ?_) (fun h1 => ?_)
      ·
        refine WC.skip ?_
        refine WX.next ?_
        refine WC.cut (X := List Bs × Option Addr × Nat) (fun q => q.1.length ≤ 3 * (i + 1) ∧ q.1.map Bs.s = runF g n (ps.map Bs.s) (i + 1)) (fun q => [(1, .pointer (some ⟨b1, 0, none⟩)), (3, .slice q.2.1 q.1.length q.2.2), (4, .int .i64 (i : Int))]) (fun q => [own (.slice q.2.1 q.1.length q.2.2) 22 1 q.1.length (q.1.map Bs.v), rowsC true q.1, blk b1 [.int .i64 g, .int .i64 n, .slice AP MP cP, .slice AO MO cO, .slice AL ML cL, bv cut] 75, rd (.slice AP MP cP) 1 MP (ps.map Bs.v), rowsC false ps, rd (.slice AO MO cO) 16 MO (l.flatMap Sc.cells), rowsC false (l.flatMap Sc.rows), rd (.slice AL ML cL) 1 ML (bvs pl), frameC w0 (MutF [])]) ?_ ?_
        ·
          refine WC.block ?_
          refine WC.seq ?_
          refine WC.drawnH mo 999 ?_
          obtain ⟨ri, hri⟩ : ∃ r, ps[i]? = some r := ⟨ps[i]'(by omega), List.getElem?_eq_getElem _⟩
          refine WA.dup (c := rowsC false ps) (d := rd (.slice ri.A ri.s.length ri.c) 1 ri.s.length (bvs ri.s)) (by repeat (first | exact List.Mem.head _ | apply List.Mem.tail)) rfl (by simp) (rowsC_get (r := ri) (List.mem_of_getElem? hri)) ?_
          refine WA.capx (A := ri.A) (m := ri.s.length) (c := ri.c) (Src.rd (xs := bvs ri.s) (by repeat (first | exact List.Mem.head _ | apply List.Mem.tail))) (fun hcap => ?_)
          refine WA.dup (c := rd (.slice ri.A ri.s.length ri.c) 1 ri.s.length (bvs ri.s)) (d := rd (sliced ri.A 0 (min ri.s.length 600) ri.c 1) 1 (min ri.s.length 600 - 0) (bvs ((ri.s.drop 0).take (min ri.s.length 600 - 0)))) (by repeat (first | exact List.Mem.head _ | apply List.Mem.tail)) (by simp) (by simp) (rd_subB (l := 0) (h := min ri.s.length 600) (Nat.zero_le _) (Nat.min_le_left _ _)) ?_
          have htm := take_min ri.s ri.s.length 600 rfl
          refine WA.take (i := 0) rfl (by kernel_rfl) (fun _ _ _ h => h) rfl (op_fieldAddr fo75_0 (by decide) rfl) (by repeat (first | exact Takes.nil | exact Take.here | apply Takes.cons | apply Take.there)) ?_
          refine WA.take (i := 1) rfl (by kernel_rfl) (fun _ _ _ h => h) rfl (op_load1 fl3 (by decide) rfl (by repeat (first | exact List.Mem.head _ | apply List.Mem.tail)) rfl) (by repeat (first | exact Takes.nil | exact Take.here | apply Takes.cons | apply Take.there)) ?_
          refine WA.take (i := 2) rfl (by kernel_rfl) (fun _ _ _ h => h) rfl (op_fieldAddr fo75_1 (by decide) rfl) (by repeat (first | exact Takes.nil | exact Take.here | apply Takes.cons | apply Take.there)) ?_
          refine WA.take (i := 3) rfl (by kernel_rfl) (fun _ _ _ h => h) rfl (op_load1 fl3 (by decide) rfl (by repeat (first | exact List.Mem.head _ | apply List.Mem.tail)) rfl) (by repeat (first | exact Takes.nil | exact Take.here | apply Takes.cons | apply Take.there)) ?_
          refine WA.take (i := 4) rfl (by kernel_rfl) (fun _ _ _ h => h) rfl (op_move (by decide) rfl) (by repeat (first | exact Takes.nil | exact Take.here | apply Takes.cons | apply Take.there)) ?_
          refine WA.take (i := 5) rfl (by kernel_rfl) (fun _ _ _ h => h) rfl (op_addW (by decide) rfl rfl) (by repeat (first | exact Takes.nil | exact Take.here | apply Takes.cons | apply Take.there)) ?_
          refine WA.take (i := 6) rfl (by kernel_rfl) (fun _ _ _ h => h) rfl (op_fieldAddr fo75_2 (by decide) rfl) (by repeat (first | exact Takes.nil | exact Take.here | apply Takes.cons | apply Take.there)) ?_
          refine WA.take (i := 7) rfl (by kernel_rfl) (fun _ _ _ h => h) rfl (op_load1 fl52 (by decide) rfl (by repeat (first | exact List.Mem.head _ | apply List.Mem.tail)) rfl) (by repeat (first | exact Takes.nil | exact Take.here | apply Takes.cons | apply Take.there)) ?_
          refine WA.take (i := 8) rfl (by kernel_rfl) (fun _ _ _ h => h) rfl (op_move (by decide) rfl) (by repeat (first | exact Takes.nil | exact Take.here | apply Takes.cons | apply Take.there)) ?_
          refine WA.take (i := 9) rfl (by kernel_rfl) (fun _ _ _ h => h) rfl (op_index Try.underlying52 sz22 (by decide) rfl rfl (by omega) (by omega) (by decide) (Src.rd (xs := ps.map Bs.v) (by repeat (first | exact List.Mem.head _ | apply List.Mem.tail)))) (by repeat (first | exact Takes.nil | exact Take.here | apply Takes.cons | apply Take.there)) ?_
          refine WA.take (i := 10) rfl (by kernel_rfl) (fun _ _ _ h => h) rfl (op_loadS fl22 (by decide) rfl (Src.rd (xs := ps.map Bs.v) (by repeat (first | exact List.Mem.head _ | apply List.Mem.tail))) (rows_at' hri (by omega))) (by repeat (first | exact Takes.nil | exact Take.here | apply Takes.cons | apply Take.there)) ?_
          refine WA.take (i := 11) rfl (by kernel_rfl) (fun _ _ _ h => h) rfl (op_fieldAddr fo75_2 (by decide) rfl) (by repeat (first | exact Takes.nil | exact Take.here | apply Takes.cons | apply Take.there)) ?_
          refine WA.take (i := 12) rfl (by kernel_rfl) (fun _ _ _ h => h) rfl (op_load1 fl52 (by decide) rfl (by repeat (first | exact List.Mem.head _ | apply List.Mem.tail)) rfl) (by repeat (first | exact Takes.nil | exact Take.here | apply Takes.cons | apply Take.there)) ?_
          refine WA.take (i := 13) rfl (by kernel_rfl) (fun _ _ _ h => h) rfl (op_move (by decide) rfl) (by repeat (first | exact Takes.nil | exact Take.here | apply Takes.cons | apply Take.there)) ?_
          refine WA.take (i := 14) rfl (by kernel_rfl) (fun _ _ _ h => h) rfl (op_index Try.underlying52 sz22 (by decide) rfl rfl (by omega) (by omega) (by decide) (Src.rd (xs := ps.map Bs.v) (by repeat (first | exact List.Mem.head _ | apply List.Mem.tail)))) (by repeat (first | exact Takes.nil | exact Take.here | apply Takes.cons | apply Take.there)) ?_
          refine WA.take (i := 15) rfl (by kernel_rfl) (fun _ _ _ h => h) rfl (op_loadS fl22 (by decide) rfl (Src.rd (xs := ps.map Bs.v) (by repeat (first | exact List.Mem.head _ | apply List.Mem.tail))) (rows_at' hri (by omega))) (by repeat (first | exact Takes.nil | exact Take.here | apply Takes.cons | apply Take.there)) ?_
          refine WA.take (i := 16) rfl (by kernel_rfl) (fun _ _ _ h => h) rfl (op_len Try.underlying22 (by decide) rfl) (by repeat (first | exact Takes.nil | exact Take.here | apply Takes.cons | apply Take.there)) ?_
          refine WA.take (i := 17) rfl (by kernel_rfl) (fun _ _ _ h => h) rfl (op_minN (a := ri.s.length) (b := 600) (by decide) rfl rfl) (by repeat (first | exact Takes.nil | exact Take.here | apply Takes.cons | apply Take.there)) ?_
          refine WA.take (i := 18) rfl (by kernel_rfl) (fun _ _ _ h => h) rfl (op_slice_h Try.underlying22 sz5 (by decide) rfl rfl (by omega) (by omega)) (by repeat (first | exact Takes.nil | exact Take.here | apply Takes.cons | apply Take.there)) ?_
          refine WA.take (i := 19) rfl (by kernel_rfl) (fun _ _ _ h => h) rfl (op_build (cs := [.int .i64 0, .int .i64 g, .int .i64 (IntKind.i64.wrap (n + i)), sliced ri.A 0 (min ri.s.length 600) ri.c 1]) (pv := [(1, _), (2, _), (3, _)]) (by decide) rfl (by kernel_rfl)) (by repeat (first | exact Takes.nil | exact Take.here | apply Takes.cons | apply Take.there)) ?_
          refine WA.stepx (i := 20) (by kernel_rfl) rfl rfl (op_call (f29_spec 0 g (IntKind.i64.wrap (n + i)) _ (min ri.s.length 600 - 0) _ ((ri.s.drop 0).take (min ri.s.length 600 - 0)) (by simp only [List.length_take, List.length_drop]; omega)) ca29 (by decide) rfl (by apply Give.mk; (repeat (first | exact Takes.nil | exact Take.here | apply Takes.cons | apply Take.there)); repeat (first | exact Reads.nil | (apply Reads.rd; (focus (repeat (first | exact List.Mem.head _ | apply List.Mem.tail)); done)) | (apply Reads.own; (focus (repeat (first | exact List.Mem.head _ | apply List.Mem.tail)); done)) | (apply Reads.rx; (focus (repeat (first | exact List.Mem.head _ | apply List.Mem.tail)); done)) | (apply Reads.rows (e := false); (focus (repeat (first | exact List.Mem.head _ | apply List.Mem.tail)); done)) | (apply Reads.rows (e := true); (focus (repeat (first | exact List.Mem.head _ | apply List.Mem.tail)); done))))) (fun _ r => (by repeat (first | exact Takes.nil | exact Take.here | apply Takes.cons | apply Take.there))) ?_
          rintro ⟨Ae, ce, re, ee⟩ hre
          dsimp only at hre
          rw [htm] at hre
          have hre2 : re.map Bs.s = (split 0 g (IntKind.i64.wrap (n + i)) (ri.s.take 600)).1 := congrArg Prod.fst hre
          have hre3 : re.length ≤ 3 := by have h := split_len3 (k := 0) (g := g) (n := IntKind.i64.wrap (n + i)) (p := ri.s.take 600) (List.length_take_le _ _); rw [← hre2, List.length_map] at h; exact h
          dsimp only
          refine WA.take (i := 21) rfl (by kernel_rfl) (fun _ _ _ h => h) rfl (op_move (by decide) rfl) (by repeat (first | exact Takes.nil | exact Take.here | apply Takes.cons | apply Take.there)) ?_
          refine WA.take (i := 22) rfl (by kernel_rfl) (fun _ _ _ h => h) rfl (op_extract (by decide) rfl rfl) (by repeat (first | exact Takes.nil | exact Take.here | apply Takes.cons | apply Take.there)) ?_
          refine WA.take (i := 23) rfl (by kernel_rfl) (fun _ _ _ h => h) rfl (op_extract (by decide) rfl rfl) (by repeat (first | exact Takes.nil | exact Take.here | apply Takes.cons | apply Take.there)) ?_
          refine WA.take (i := 24) rfl (by kernel_rfl) (fun _ _ _ h => h) rfl (op_assign (by decide) rfl) (by repeat (first | exact Takes.nil | exact Take.here | apply Takes.cons | apply Take.there)) ?_
          refine WA.take (i := 25) rfl (by kernel_rfl) (fun _ _ _ h => h) rfl (op_assign (by decide) rfl) (by repeat (first | exact Takes.nil | exact Take.here | apply Takes.cons | apply Take.there)) ?_
          refine WA.done (by kernel_rfl) ?_
          refine WX.regs (L' := [(1, _), (3, _), (4, _), (5, _), (6, _)]) (by repeat (first | exact RS.nil | refine RS.cons rfl ?_)) ?_
          refine WX.next ?_
          refine WC.seq ?_
          refine WC.region ?_
          refine wlv (op_move (by decide) rfl) rfl ?_
          refine wlv (op_eql (by decide) rfl rfl) rfl ?_
          refine WL.nil ?_
          refine WX.regs (L' := [(1, _), (3, _), (4, _), (5, _), (44, _)]) (by repeat (first | exact RS.nil | refine RS.cons rfl ?_)) ?_
          refine WX.next ?_
          refine WC.cond rfl (fun h2 => ?_) (fun h2 => ?_)
          ·
            refine WC.region ?_
            refine wlv (op_move (by decide) rfl) rfl ?_
            refine wlv (op_move (by decide) rfl) rfl ?_
            refine wl2 (op_append Try.underlying52 ti22 rfl (by decide) (by decide) rfl rfl (by repeat (first | exact Take.here | apply Take.there)) (by first | (apply Src.rd; (repeat (first | exact List.Mem.head _ | apply List.Mem.tail)); done) | (apply Src.own; (repeat (first | exact List.Mem.head _ | apply List.Mem.tail)); done) | (apply Src.rx; (repeat (first | exact List.Mem.head _ | apply List.Mem.tail)); done)) (rows_one _) (by omega) (by omega)) rfl fun A1 c1 => ?_
            refine wlv (op_assign (by decide) rfl) rfl ?_
            refine WL.nil ?_
            refine WX.regs (L' := [(1, _), (3, _), (4, _)]) (by repeat (first | exact RS.nil | refine RS.cons rfl ?_)) ?_
            refine WX.in_normal ?_
            refine WX.ownEq (v := .slice A1 (rs.length + re.length) c1) ((rs ++ re).map Bs.v) (by repeat (first | exact Take.here | apply Take.there)) (by rw [List.map_append]) ?_
            refine WX.merge2 (c1 := rowsC true rs) (c2 := rowsC true re) (d := rowsC true (rs ++ re)) (by repeat (first | exact Take.here | apply Take.there)) (by repeat (first | exact Take.here | apply Take.there)) (rowsC_app (e1 := true) (e2 := true)) ?_
            rw [show rs.length + re.length = (rs ++ re).length by simp]
            refine WX.meet ((rs ++ re, A1, c1)) (⟨by simp only [List.length_append]; omega, by rw [runF_succ, ss_getD hri, ← hrs, ← hre2]; simp⟩) (fun a w hs => hs.sub (by repeat (first | exact RS.nil | refine RS.cons (by first | rfl | exact congrArg (fun z : Int => some (Value.int .i64 z)) (by omega)) ?_)) (by repeat (first | exact Takes.nil | exact Take.here | apply Takes.cons | apply Take.there)))
          ·
            refine WC.skip ?_
            refine WX.in_normal ?_
            refine WX.meet ((rs, Ao, co)) (⟨by simp only []; omega, by rw [runF_succ, ss_getD hri, ← hrs, ← hre2, split_err hre h2, List.append_nil]⟩) (fun a w hs => hs.sub (by repeat (first | exact RS.nil | refine RS.cons (by first | rfl | exact congrArg (fun z : Int => some (Value.int .i64 z)) (by omega)) ?_)) (by repeat (first | exact Takes.nil | exact Take.here | apply Takes.cons | apply Take.there)))
        · rintro ⟨r2, A2, c2⟩ ⟨hq1, hq2⟩
          try dsimp only at hq1 hq2 ⊢
          refine WC.region ?_
          refine wlv (op_move (by decide) rfl) rfl ?_
          refine wlv (op_add (by decide) rfl rfl (by omega)) rfl ?_
          refine wlv (op_assign (by decide) rfl) rfl ?_
          refine WL.nil ?_
          refine WX.regs (L' := [(1, _), (3, _), (4, _)]) (by repeat (first | exact RS.nil | refine RS.cons rfl ?_)) ?_
          refine WX.meet ((i + 1, r2, A2, c2)) ⟨⟨by simp only []; omega, by simp only []; omega, by simp only []; omega, hq2⟩, by simp only []; omega⟩ (fun a w hs => hs.sub (by repeat (first | exact RS.nil | refine RS.cons (by first | rfl | exact congrArg (fun z : Int => some (Value.int .i64 z)) (by omega)) ?_)) (by repeat (first | exact Takes.nil | exact Take.here | apply Takes.cons | apply Take.there)))
      ·
        refine WC.exit ?_
        refine WX.then_exit ?_
        refine WX.then_exit ?_
        refine WX.in_hit ?_
        refine WX.meet ((rs, Ao, co)) (⟨by simp only []; omega, by simp only []; rw [hrs, show i = min 6 MP by omega]⟩) (fun a w hs => hs.sub (by repeat (first | exact RS.nil | refine RS.cons (by first | rfl | exact congrArg (fun z : Int => some (Value.int .i64 z)) (by omega)) ?_)) (by repeat (first | exact Takes.nil | exact Take.here | apply Takes.cons | apply Take.there)))
    ·
      refine wlg_no rfl rfl rfl rfl rfl (by decide) ?_
      refine wlg_no rfl rfl rfl rfl rfl (by decide) ?_
      refine wlv (op_pickF (by decide) rfl rfl) rfl ?_
      refine WL.nil ?_
      refine WX.regs (L' := [(1, _), (3, _), (4, _), (16, _)]) (by repeat (first | exact RS.nil | refine RS.cons rfl ?_)) ?_
      refine WX.next ?_
      refine WC.condF rfl ?_
      refine WC.exit ?_
      refine WX.then_exit ?_
      refine WX.then_exit ?_
      refine WX.in_hit ?_
      refine WX.meet ((rs, Ao, co)) (⟨by simp only []; omega, by simp only []; rw [hrs, show i = min 6 MP by omega]⟩) (fun a w hs => hs.sub (by repeat (first | exact RS.nil | refine RS.cons (by first | rfl | exact congrArg (fun z : Int => some (Value.int .i64 z)) (by omega)) ?_)) (by repeat (first | exact Takes.nil | exact Take.here | apply Takes.cons | apply Take.there)))
  · rintro ⟨ro, Ao, co⟩ ⟨hro1, hro2⟩
    try dsimp only at hro1 hro2 ⊢
    refine WC.cut (X := List Bs) (fun q => q.length = ro.length ∧ (MO = 0 → q = ro)) (fun q => [(1, .pointer (some ⟨b1, 0, none⟩)), (3, .slice Ao q.length co)]) (fun q => [own (.slice Ao q.length co) 22 1 q.length (q.map Bs.v), rowsC true q, blk b1 [.int .i64 g, .int .i64 n, .slice AP MP cP, .slice AO MO cO, .slice AL ML cL, bv cut] 75, rd (.slice AP MP cP) 1 MP (ps.map Bs.v), rowsC false ps, rd (.slice AO MO cO) 16 MO (l.flatMap Sc.cells), rowsC false (l.flatMap Sc.rows), rd (.slice AL ML cL) 1 ML (bvs pl), frameC w0 (MutF [])]) ?_ ?_
    ·
      refine WC.seq ?_
      refine WC.region ?_
      refine wlv (op_assign (by decide) rfl) rfl ?_
      refine WL.nil ?_
      refine WX.regs (L' := [(1, _), (3, _), (7, _)]) (by repeat (first | exact RS.nil | refine RS.cons rfl ?_)) ?_
      refine WX.next ?_
      refine WC.block ?_
      refine WC.loop (X := Nat × List Bs) (fun q => 4 - q.1) (fun q => q.1 ≤ 4 ∧ q.1 ≤ MO ∧ q.2.length = ro.length ∧ (MO = 0 → q.2 = ro)) (fun q => [(1, .pointer (some ⟨b1, 0, none⟩)), (3, .slice Ao q.2.length co), (7, .int .i64 (q.1 : Int))]) (fun q => [own (.slice Ao q.2.length co) 22 1 q.2.length (q.2.map Bs.v), rowsC true q.2, blk b1 [.int .i64 g, .int .i64 n, .slice AP MP cP, .slice AO MO cO, .slice AL ML cL, bv cut] 75, rd (.slice AP MP cP) 1 MP (ps.map Bs.v), rowsC false ps, rd (.slice AO MO cO) 16 MO (l.flatMap Sc.cells), rowsC false (l.flatMap Sc.rows), rd (.slice AL ML cL) 1 ML (bvs pl), frameC w0 (MutF [])]) ((0, ro)) (⟨Nat.zero_le _, Nat.zero_le _, rfl, fun _ => rfl⟩) (fun a w hs => hs.sub (by repeat (first | exact RS.nil | refine RS.cons (by first | rfl | exact congrArg (fun z : Int => some (Value.int .i64 z)) (by omega)) ?_)) (by repeat (first | exact Takes.nil | exact Take.here | apply Takes.cons | apply Take.there))) ?_
      rintro ⟨i, rs⟩ ⟨hi, hiM, hrl, hrs⟩
      try dsimp only at hi hiM hrl hrs ⊢
      refine WC.seq ?_
      refine WC.seq ?_
      refine WC.region ?_
      refine wlv (op_move (by decide) rfl) rfl ?_
      refine wlv (op_fieldAddr fo75_3 (by decide) rfl) rfl ?_
      refine wlv (op_load1 fl67 (by decide) rfl (by repeat (first | exact List.Mem.head _ | apply List.Mem.tail)) rfl) rfl ?_
      refine wlv (op_len Try.underlying67 (by decide) rfl) rfl ?_
      refine wlv (op_lss (by decide) rfl rfl) rfl ?_
      refine wlv (op_move (by decide) rfl) rfl ?_
      refine WL.split (t := 53) rfl (fun g53 => ?_) (fun g53 => ?_)
      ·
        refine wlgv (op_move (by decide) rfl) rfl rfl rfl ?_
        refine wlgv (op_fieldAddr fo75_4 (by decide) rfl) rfl rfl rfl ?_
        refine wlgv (op_load1 fl22 (by decide) rfl (by repeat (first | exact List.Mem.head _ | apply List.Mem.tail)) rfl) rfl rfl rfl ?_
        refine wlgv (op_len Try.underlying22 (by decide) rfl) rfl rfl rfl ?_
        refine wlgv (op_lss (by decide) rfl rfl) rfl rfl rfl ?_
        refine wlv (op_pickT (by decide) rfl rfl) rfl ?_
        refine wlv (op_move (by decide) rfl) rfl ?_
        refine WL.split (t := 60) rfl (fun g60 => ?_) (fun g60 => ?_)
        ·
          refine wlgv (op_move (by decide) rfl) rfl rfl rfl ?_
          refine wlgv (op_lss (by decide) rfl rfl) rfl rfl rfl ?_
          refine wlv (op_pickT (by decide) rfl rfl) rfl ?_
          refine WL.nil ?_
          refine WX.regs (L' := [(1, _), (3, _), (7, _), (63, _)]) (by repeat (first | exact RS.nil | refine RS.cons rfl ?_)) ?_
          refine WX.next ?_
          refine WC.cond rfl (fun h2 => ?_) (fun h2 => ?_)
          ·
            refine WC.skip ?_
            refine WX.next ?_
            refine WC.cut (X := List Bs) (fun q => q.length = ro.length) (fun q => [(1, .pointer (some ⟨b1, 0, none⟩)), (3, .slice Ao q.length co), (7, .int .i64 (i : Int))]) (fun q => [own (.slice Ao q.length co) 22 1 q.length (q.map Bs.v), rowsC true q, blk b1 [.int .i64 g, .int .i64 n, .slice AP MP cP, .slice AO MO cO, .slice AL ML cL, bv cut] 75, rd (.slice AP MP cP) 1 MP (ps.map Bs.v), rowsC false ps, rd (.slice AO MO cO) 16 MO (l.flatMap Sc.cells), rowsC false (l.flatMap Sc.rows), rd (.slice AL ML cL) 1 ML (bvs pl), frameC w0 (MutF [])]) ?_ ?_
            ·
              refine WC.block ?_
              refine WC.seq ?_
              refine WC.region ?_
              refine wlv (op_move (by decide) rfl) rfl ?_
              refine wlv (op_len Try.underlying52 (by decide) rfl) rfl ?_
              refine wlv (op_gtr (by decide) rfl rfl) rfl ?_
              refine WL.nil ?_
              refine WX.regs (L' := [(1, _), (3, _), (7, _), (68, _)]) (by repeat (first | exact RS.nil | refine RS.cons rfl ?_)) ?_
              refine WX.next ?_
              refine WC.cond rfl (fun h3 => ?_) (fun h3 => ?_)
              ·
                refine WC.drawnH mo 17 ?_
                have hmd : (pl.getD i 0).toNat % rs.length < rs.length := Nat.mod_lt _ (by omega)
                obtain ⟨si, hsi⟩ : ∃ s, l[i]? = some s := ⟨l[i]'(by omega), List.getElem?_eq_getElem _⟩
                have hms : si ∈ l := List.mem_of_getElem? hsi
                have hx : ∀ j, j = i * 16 → ((l.flatMap Sc.cells).drop j).take 16 = si.cells := fun j hj => by rw [hj]; exact flat_at sc16 l i si hsi
                refine WA.dup (c := rowsC false (l.flatMap Sc.rows)) (d := rowsC false si.rows) (by repeat (first | exact List.Mem.head _ | apply List.Mem.tail)) rfl rfl (rowsC_read fun r hr => List.mem_flatMap.2 ⟨si, hms, hr⟩) ?_
                refine WA.take (i := 0) rfl (by kernel_rfl) (fun _ _ _ h => h) rfl (op_move (by decide) rfl) (by repeat (first | exact Takes.nil | exact Take.here | apply Takes.cons | apply Take.there)) ?_
                refine WA.take (i := 1) rfl (by kernel_rfl) (fun _ _ _ h => h) rfl (op_fieldAddr fo75_4 (by decide) rfl) (by repeat (first | exact Takes.nil | exact Take.here | apply Takes.cons | apply Take.there)) ?_
                refine WA.take (i := 2) rfl (by kernel_rfl) (fun _ _ _ h => h) rfl (op_load1 fl22 (by decide) rfl (by repeat (first | exact List.Mem.head _ | apply List.Mem.tail)) rfl) (by repeat (first | exact Takes.nil | exact Take.here | apply Takes.cons | apply Take.there)) ?_
                refine WA.take (i := 3) rfl (by kernel_rfl) (fun _ _ _ h => h) rfl (op_move (by decide) rfl) (by repeat (first | exact Takes.nil | exact Take.here | apply Takes.cons | apply Take.there)) ?_
                refine WA.take (i := 4) rfl (by kernel_rfl) (fun _ _ _ h => h) rfl (op_index Try.underlying22 sz5 (by decide) rfl rfl (by omega) (by omega) (by decide) (Src.rd (xs := bvs pl) (by repeat (first | exact List.Mem.head _ | apply List.Mem.tail)))) (by repeat (first | exact Takes.nil | exact Take.here | apply Takes.cons | apply Take.there)) ?_
                refine WA.take (i := 5) rfl (by kernel_rfl) (fun _ _ _ h => h) rfl (op_loadS fl5 (by decide) rfl (Src.rd (xs := bvs pl) (by repeat (first | exact List.Mem.head _ | apply List.Mem.tail))) (bvs_at (k := i) (by omega) (by omega))) (by repeat (first | exact Takes.nil | exact Take.here | apply Takes.cons | apply Take.there)) ?_
                refine WA.take (i := 6) rfl (by kernel_rfl) (fun _ _ _ h => h) rfl (op_conv8i (by kernel_rfl) Try.underlying3 (by decide) rfl) (by repeat (first | exact Takes.nil | exact Take.here | apply Takes.cons | apply Take.there)) ?_
                refine WA.take (i := 7) rfl (by kernel_rfl) (fun _ _ _ h => h) rfl (op_move (by decide) rfl) (by repeat (first | exact Takes.nil | exact Take.here | apply Takes.cons | apply Take.there)) ?_
                refine WA.take (i := 8) rfl (by kernel_rfl) (fun _ _ _ h => h) rfl (op_len Try.underlying52 (by decide) rfl) (by repeat (first | exact Takes.nil | exact Take.here | apply Takes.cons | apply Take.there)) ?_
                refine WA.take (i := 9) rfl (by kernel_rfl) (fun _ _ _ h => h) rfl (op_rem (by decide) rfl rfl (by omega) (by omega)) (by repeat (first | exact Takes.nil | exact Take.here | apply Takes.cons | apply Take.there)) ?_
                refine WA.take (i := 10) rfl (by kernel_rfl) (fun _ _ _ h => h) rfl (op_fieldAddr fo75_3 (by decide) rfl) (by repeat (first | exact Takes.nil | exact Take.here | apply Takes.cons | apply Take.there)) ?_
                refine WA.take (i := 11) rfl (by kernel_rfl) (fun _ _ _ h => h) rfl (op_load1 fl67 (by decide) rfl (by repeat (first | exact List.Mem.head _ | apply List.Mem.tail)) rfl) (by repeat (first | exact Takes.nil | exact Take.here | apply Takes.cons | apply Take.there)) ?_
                refine WA.take (i := 12) rfl (by kernel_rfl) (fun _ _ _ h => h) rfl (op_move (by decide) rfl) (by repeat (first | exact Takes.nil | exact Take.here | apply Takes.cons | apply Take.there)) ?_
                refine WA.take (i := 13) rfl (by kernel_rfl) (fun _ _ _ h => h) rfl (op_index Try.underlying67 sz40 (by decide) rfl rfl (by omega) (by omega) (by decide) (Src.rd (xs := l.flatMap Sc.cells) (by repeat (first | exact List.Mem.head _ | apply List.Mem.tail)))) (by repeat (first | exact Takes.nil | exact Take.here | apply Takes.cons | apply Take.there)) ?_
                refine WA.take (i := 14) rfl (by kernel_rfl) (fun _ _ _ h => h) rfl (op_loadSN ag40 (by decide) rfl (Src.rd (xs := l.flatMap Sc.cells) (by repeat (first | exact List.Mem.head _ | apply List.Mem.tail))) (by rw [hx _ (by omega)]; rfl) (by decide)) (by repeat (first | exact Takes.nil | exact Take.here | apply Takes.cons | apply Take.there)) ?_
                rw [hx _ (by omega)]
                refine WA.stepx (i := 15) (by kernel_rfl) rfl rfl (op_call (f24_spec si (hy si hms)) ca24 (by decide) rfl (by apply Give.mk; (repeat (first | exact Takes.nil | exact Take.here | apply Takes.cons | apply Take.there)); repeat (first | exact Reads.nil | (apply Reads.rd; (focus (repeat (first | exact List.Mem.head _ | apply List.Mem.tail)); done)) | (apply Reads.own; (focus (repeat (first | exact List.Mem.head _ | apply List.Mem.tail)); done)) | (apply Reads.rx; (focus (repeat (first | exact List.Mem.head _ | apply List.Mem.tail)); done)) | (apply Reads.rows (e := false); (focus (repeat (first | exact List.Mem.head _ | apply List.Mem.tail)); done)) | (apply Reads.rows (e := true); (focus (repeat (first | exact List.Mem.head _ | apply List.Mem.tail)); done))))) (fun _ r => (by repeat (first | exact Takes.nil | exact Take.here | apply Takes.cons | apply Take.there))) ?_
                rintro ⟨As, cs, ls⟩ hls
                dsimp only at hls
                dsimp only
                refine WA.take (i := 16) rfl (by kernel_rfl) (fun _ _ _ h => h) rfl (op_index Try.underlying52 sz22 (by decide) rfl rfl (by omega) (by omega) (by decide) (Src.own (xs := rs.map Bs.v) (by repeat (first | exact List.Mem.head _ | apply List.Mem.tail)))) (by repeat (first | exact Takes.nil | exact Take.here | apply Takes.cons | apply Take.there)) ?_
                refine WA.stepo (G := []) (i := 17) (by kernel_rfl) rfl rfl (op_storeS sz22 rfl rfl (by repeat (first | exact Take.here | apply Take.there)) rfl rfl (by rw [List.length_map]; omega) (by decide)) (fun h => absurd rfl h) ?_
                refine WA.done (by kernel_rfl) ?_
                refine WX.regs (L' := [(1, _), (3, _), (7, _)]) (by repeat (first | exact RS.nil | refine RS.cons rfl ?_)) ?_
                refine WX.in_normal ?_
                refine WX.ownEq (v := .slice Ao rs.length co) ((rs.set ((pl.getD i 0).toNat % rs.length) ⟨As, cs, ls⟩).map Bs.v) (by repeat (first | exact Take.here | apply Take.there)) (by rw [← map_set_v, ← pset_one _ _ _ (by rw [List.length_map]; exact Nat.mod_lt _ (by omega))]; unfold Bs.v; simp only [hls, List.length_map]; congr 1; try omega) ?_
                refine WX.merge2 (c1 := rowsC true rs) (c2 := own (.slice As 256 cs) 5 1 256 (bvs ls)) (d := rowsC true (rs.set ((pl.getD i 0).toNat % rs.length) ⟨As, cs, ls⟩)) (by repeat (first | exact Take.here | apply Take.there)) (by repeat (first | exact Take.here | apply Take.there)) (rowsC_set (own_le_bs hls) (fun _ => by simp)) ?_
                have hsl : (rs.set ((pl.getD i 0).toNat % rs.length) ⟨As, cs, ls⟩).length = rs.length := List.length_set ..
                generalize rs.set ((pl.getD i 0).toNat % rs.length) ⟨As, cs, ls⟩ = r3 at *
                rw [← hsl]
                refine WX.meet (r3) (hsl.trans hrl) (fun a w hs => hs.sub (by repeat (first | exact RS.nil | refine RS.cons (by first | rfl | exact congrArg (fun z : Int => some (Value.int .i64 z)) (by omega)) ?_)) (by repeat (first | exact Takes.nil | exact Take.here | apply Takes.cons | apply Take.there)))
              ·
                refine WC.skip ?_
                refine WX.in_normal ?_
                refine WX.meet (rs) (hrl) (fun a w hs => hs.sub (by repeat (first | exact RS.nil | refine RS.cons (by first | rfl | exact congrArg (fun z : Int => some (Value.int .i64 z)) (by omega)) ?_)) (by repeat (first | exact Takes.nil | exact Take.here | apply Takes.cons | apply Take.there)))
            · rintro r3 hr3
              try dsimp only at hr3 ⊢
              refine WC.region ?_
              refine wlv (op_move (by decide) rfl) rfl ?_
              refine wlv (op_add (by decide) rfl rfl (by omega)) rfl ?_
              refine wlv (op_assign (by decide) rfl) rfl ?_
              refine WL.nil ?_
              refine WX.regs (L' := [(1, _), (3, _), (7, _)]) (by repeat (first | exact RS.nil | refine RS.cons rfl ?_)) ?_
              refine WX.meet ((i + 1, r3)) ⟨⟨by simp only []; omega, by simp only []; omega, by simp only []; omega, fun h => by omega⟩, by simp only []; omega⟩ (fun a w hs => hs.sub (by repeat (first | exact RS.nil | refine RS.cons (by first | rfl | exact congrArg (fun z : Int => some (Value.int .i64 z)) (by omega)) ?_)) (by repeat (first | exact Takes.nil | exact Take.here | apply Takes.cons | apply Take.there)))
          ·
            refine WC.exit ?_
            refine WX.then_exit ?_
            refine WX.then_exit ?_
            refine WX.in_hit ?_
            refine WX.meet (rs) (⟨hrl, hrs⟩) (fun a w hs => hs.sub (by repeat (first | exact RS.nil | refine RS.cons (by first | rfl | exact congrArg (fun z : Int => some (Value.int .i64 z)) (by omega)) ?_)) (by repeat (first | exact Takes.nil | exact Take.here | apply Takes.cons | apply Take.there)))
        ·
          refine wlg_no rfl rfl rfl rfl rfl (by decide) ?_
          refine wlg_no rfl rfl rfl rfl rfl (by decide) ?_
          refine wlv (op_pickF (by decide) rfl rfl) rfl ?_
          refine WL.nil ?_
          refine WX.regs (L' := [(1, _), (3, _), (7, _), (63, _)]) (by repeat (first | exact RS.nil | refine RS.cons rfl ?_)) ?_
          refine WX.next ?_
          refine WC.condF rfl ?_
          refine WC.exit ?_
          refine WX.then_exit ?_
          refine WX.then_exit ?_
          refine WX.in_hit ?_
          refine WX.meet (rs) (⟨hrl, hrs⟩) (fun a w hs => hs.sub (by repeat (first | exact RS.nil | refine RS.cons (by first | rfl | exact congrArg (fun z : Int => some (Value.int .i64 z)) (by omega)) ?_)) (by repeat (first | exact Takes.nil | exact Take.here | apply Takes.cons | apply Take.there)))
      ·
        refine wlg_no rfl rfl rfl rfl rfl (by decide) ?_
        refine wlg_no rfl rfl rfl rfl rfl (by decide) ?_
        refine wlg_no rfl rfl rfl rfl rfl (by decide) ?_
        refine wlg_no rfl rfl rfl rfl rfl (by decide) ?_
        refine wlg_no rfl rfl rfl rfl rfl (by decide) ?_
        refine wlv (op_pickF (by decide) rfl rfl) rfl ?_
        refine wlv (op_move (by decide) rfl) rfl ?_
        refine wlg_no rfl rfl rfl rfl rfl (by decide) ?_
        refine wlg_no rfl rfl rfl rfl rfl (by decide) ?_
        refine wlv (op_pickF (by decide) rfl rfl) rfl ?_
        refine WL.nil ?_
        refine WX.regs (L' := [(1, _), (3, _), (7, _), (63, _)]) (by repeat (first | exact RS.nil | refine RS.cons rfl ?_)) ?_
        refine WX.next ?_
        refine WC.condF rfl ?_
        refine WC.exit ?_
        refine WX.then_exit ?_
        refine WX.then_exit ?_
        refine WX.in_hit ?_
        refine WX.meet (rs) (⟨hrl, hrs⟩) (fun a w hs => hs.sub (by repeat (first | exact RS.nil | refine RS.cons (by first | rfl | exact congrArg (fun z : Int => some (Value.int .i64 z)) (by omega)) ?_)) (by repeat (first | exact Takes.nil | exact Take.here | apply Takes.cons | apply Take.there)))
    · rintro rs ⟨hrl, hrs⟩
      try dsimp only at hrl hrs ⊢
      obtain ⟨h, hh⟩ : ∃ h : Nat, h = rs.length - min (cut.toNat % 8) rs.length := ⟨_, rfl⟩
      obtain ⟨rt, hrt⟩ : ∃ rt, rt = rs.take h := ⟨_, rfl⟩
      have hrtl : rt.length = h := by rw [hrt, List.length_take]; omega
      have hts : ((rs.length : Int) - ((min (cut.toNat % 8) rs.length : Nat) : Int)).toNat = h := by omega
      refine WC.capx (A := Ao) (m := rs.length) (c := co) (Src.own (by repeat (first | exact List.Mem.head _ | apply List.Mem.tail))) (fun hcap => ?_)
      refine WC.seq ?_
      refine WC.region ?_
      refine wlv (op_move (by decide) rfl) rfl ?_
      refine wlv (op_move (by decide) rfl) rfl ?_
      refine wlv (op_len Try.underlying52 (by decide) rfl) rfl ?_
      refine wlv (op_fieldAddr fo75_5 (by decide) rfl) rfl ?_
      refine wlv (op_load1 fl5 (by decide) rfl (by repeat (first | exact List.Mem.head _ | apply List.Mem.tail)) rfl) rfl ?_
      refine wlv (op_conv8i (by kernel_rfl) Try.underlying3 (by decide) rfl) rfl ?_
      refine wlv (op_rem (by decide) rfl rfl (by omega) (by omega)) rfl ?_
      refine wlv (op_move (by decide) rfl) rfl ?_
      refine wlv (op_len Try.underlying52 (by decide) rfl) rfl ?_
      refine wlv (op_minN (a := cut.toNat % 8) (b := rs.length) (by decide) rfl rfl) rfl ?_
      refine wlv (op_sub (by decide) rfl rfl (by omega)) rfl ?_
      refine wlv (op_slice_h Try.underlying52 sz22 (by decide) rfl rfl (by omega) (by omega)) rfl ?_
      rw [hts, sliced0]
      refine wlv (op_assign (by decide) rfl) rfl ?_
      refine WL.nil ?_
      subst hrtl
      refine WX.turn (c := own (.slice Ao rs.length co) 22 1 rs.length (rs.map Bs.v)) (d := rx (.slice Ao rt.length co) 1 rt.length (rt.map Bs.v)) (by repeat (first | exact Take.here | apply Take.there)) (by have k := own_takeR (A := Ao) (e := 22) (c := co) (M := rs.length) (h := rt.length) (rs := rs) (by omega); rw [← hrt] at k; exact k) ?_
      refine WX.turn (c := rowsC true rs) (d := rowsC true rt) (by repeat (first | exact Take.here | apply Take.there)) (rowsC_sub fun r hr => by rw [hrt] at hr; exact List.mem_of_mem_take hr) ?_
      refine WX.regs (L' := [(2, _)]) (by repeat (first | exact RS.nil | refine RS.cons rfl ?_)) ?_
      refine WX.next ?_
      refine WC.ret ?_
      exact Fin.ret1 (by first | exact .inl rfl | exact .inr rfl) ((Ao, co, rt)) (⟨by simp only []; omega, fun h0 => by have e := hrs h0; subst e; simp only []; rw [← hro2, List.length_map, ← hh, ← List.map_take, ← hrt]⟩) Try.results38 (.tmp rfl) (by repeat (first | exact Takes.nil | exact Take.here | apply Takes.cons | apply Take.there)) (by simp)
end Go.Proofs.Ythephcghglldaaa.Sx
