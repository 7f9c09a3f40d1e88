import Derived.Test.YthephcghglldaaaS12
import Derived.Test.YthephcghglldaaaSm
set_option linter.unusedVariables false
set_option linter.unusedSimpArgs false
namespace Go.Proofs.Ythephcghglldaaa.Sx
open Go.RowKit Go.Proofs.Ythephcghglldaaa.Ty
attribute [local irreducible] blk own rd rx frameC

structure Pt where
  (k g n i c : Int)
  b : List UInt8
def pt0 : Pt := ⟨0, 0, 0, 0, 0, []⟩
def fld (bs : List UInt8) (o l : Nat) : Nat := vl ((bs.drop o).take l)
def decP (bs : List UInt8) : Pt := ⟨fld bs 24 2, fld bs 16 4, fld bs 20 4, fld bs 26 2, fld bs 28 2, (bs.drop 32).take (fld bs 30 2)⟩
def Pt.chk (p : Pt) : Int := Sx.chk p.k p.g p.n p.i p.c p.b.length
/-- What a sector holds. -/
def dec (bs : List UInt8) : Pt × Int :=
  if bs.length < 256 then (pt0, 4)
  else if bs.length > 256 then (pt0, 5)
  else if ¬ (sha (bs.drop 16)).take 16 = bs.take 16 then (pt0, 22)
  else if fld bs 30 2 > 224 then (pt0, 3)
  else if ¬ (decP bs).chk = 0 ∨ blank (bs.drop (32 + fld bs 30 2)) = false then (pt0, 3)
  else (decP bs, 0)
section
variable {bs : List UInt8}
theorem dec_short (h : bs.length < 256) : dec bs = (pt0, 4) := by unfold dec; rw [if_pos h]
theorem dec_long (h : bs.length > 256) : dec bs = (pt0, 5) := by unfold dec; rw [if_neg (by omega), if_pos h]
theorem dec_sum (h : bs.length = 256) (h1 : ¬ (sha (bs.drop 16)).take 16 = bs.take 16) : dec bs = (pt0, 22) := by unfold dec; rw [if_neg (by omega), if_neg (by omega), if_pos h1]
theorem dec_len (h : bs.length = 256) (h1 : (sha (bs.drop 16)).take 16 = bs.take 16) (h2 : fld bs 30 2 > 224) : dec bs = (pt0, 3) := by unfold dec; rw [if_neg (by omega), if_neg (by omega), if_neg (fun k => k h1), if_pos h2]
theorem dec_bad (h : bs.length = 256) (h1 : (sha (bs.drop 16)).take 16 = bs.take 16) (h2 : ¬ fld bs 30 2 > 224) (h3 : ¬ (decP bs).chk = 0 ∨ blank (bs.drop (32 + fld bs 30 2)) = false) : dec bs = (pt0, 3) := by
  unfold dec; rw [if_neg (by omega), if_neg (by omega), if_neg (fun k => k h1), if_neg h2, if_pos h3]
theorem dec_ok (h : bs.length = 256) (h1 : (sha (bs.drop 16)).take 16 = bs.take 16) (h2 : ¬ fld bs 30 2 > 224) (h3 : (decP bs).chk = 0) (h4 : blank (bs.drop (32 + fld bs 30 2)) = true) : dec bs = (decP bs, 0) := by
  unfold dec; rw [if_neg (by omega), if_neg (by omega), if_neg (fun k => k h1), if_neg h2, if_neg (by rw [h4]; simp [h3])]
theorem decP_len (h : bs.length = 256) (h2 : ¬ fld bs 30 2 > 224) : (decP bs).b.length = fld bs 30 2 := by
  simp only [decP, List.length_take, List.length_drop]; omega
theorem getD_drop (a j : Nat) : (bs.drop a).getD j 0 = bs.getD (a + j) 0 := by simp [List.getD_eq_getElem?_getD]
theorem take_eq_step {xs ys : List UInt8} {i : Nat} (h : xs.take i = ys.take i) (hx : i < xs.length) (hy : i < ys.length) (he : xs.getD i 0 = ys.getD i 0) : xs.take (i + 1) = ys.take (i + 1) := by
  have he' : xs[i] = ys[i] := by simpa [hx, hy] using he
  rw [List.take_succ_eq_append_getElem hx, List.take_succ_eq_append_getElem hy, h, he']
theorem take_ne {xs ys : List UInt8} {i j : Nat} (hij : i < j) (hx : i < xs.length) (hy : i < ys.length) (he : ¬ xs.getD i 0 = ys.getD i 0) : ¬ xs.take j = ys.take j := by
  intro h
  apply he
  have := congrArg (fun l => l.getD i 0) h
  simpa [List.getD_eq_getElem?_getD, List.getElem?_take, hij] using this
end
set_option maxHeartbeats 400000 in
set_option maxRecDepth 10000 in
theorem f25_spec (A : Option Addr) (m c : Nat) (bs : List UInt8) (hm : bs.length = m) :
    Spec Try.prog 25 [.slice A m c] [] [rd (.slice A m c) 1 m (bvs bs)] (R := Option Addr × Nat × Nat × Pt × Int)
      (fun q => (q.2.2.2.1, q.2.2.2.2) = dec bs ∧ q.2.2.1 = q.2.2.2.1.b.length)
      (fun q => .tuple #[.agg (pcells q.2.2.2.1.k q.2.2.2.1.g q.2.2.2.1.n q.2.2.2.1.i q.2.2.2.1.c (.slice q.1 q.2.2.1 q.2.1)).toArray, .int .i64 q.2.2.2.2])
      (fun q => [own (.slice q.1 q.2.2.1 q.2.1) 5 1 q.2.2.1 (bvs q.2.2.2.1.b)]) := by
  refine Spec.intro Try.func25 Try.ntmps25 rfl (by simp) (by simp) fun w0 => ?_
  refine WC.seq ?_
  refine WC.region ?_
  refine wl1 (op_alloc ti24 (by decide)) rfl fun b1 => ?_
  refine wlv (op_assign (by decide) rfl) rfl ?_
  refine WL.nil ?_
  refine WX.regs (L' := [(0, _), (2, _)]) (by repeat (first | exact RS.nil | refine RS.cons rfl ?_)) ?_
  refine WX.next ?_
  refine WC.seq ?_
  refine WC.seq ?_
  refine WC.region ?_
  refine wlv (op_move (by decide) rfl) rfl ?_
  refine wlv (op_len Try.underlying22 (by decide) rfl) rfl ?_
  refine wlv (op_lss (by decide) rfl rfl) rfl ?_
  refine WL.nil ?_
  refine WX.regs (L' := [(0, _), (2, _), (11, _)]) (by repeat (first | exact RS.nil | refine RS.cons rfl ?_)) ?_
  refine WX.next ?_
  refine WC.cond rfl (fun h1 => ?_) (fun h1 => ?_)
  ·
    refine WC.seq ?_
    refine WC.region ?_
    refine wlv (op_build (cs := (pcells 0 0 0 0 0 (.slice none 0 0))) (pv := []) (by decide) rfl (by kernel_rfl)) rfl ?_
    refine wl (op_storeAll sz24 rfl rfl (by repeat (first | exact Take.here | apply Take.there)) (by first | rfl | (simp [Value.cells]; done) | (simp [Value.cells]; omega)) (by first | rfl | exact wvs_one _ | exact bvs_one _) (by first | rfl | (simp [Value.cells]; done) | (simp [Value.cells]; omega))) rfl ?_
    change WL _ _ _ _ _ _ _
    refine wlv (op_assign (by decide) rfl) rfl ?_
    refine WL.nil ?_
    refine WX.nilown 5 1 ?_
    refine WX.regs (L' := [(2, _), (3, _)]) (by repeat (first | exact RS.nil | refine RS.cons rfl ?_)) ?_
    refine WX.next ?_
    refine WC.ret ?_
    refine WX.then_ret ?_
    exact Fin.ret2 (by first | exact .inl rfl | exact .inr rfl) ((none, 0, 0, pt0, 4)) (⟨(dec_short (by omega)).symm, rfl⟩) Try.results25 rfl (.cellN rfl ag24 (by repeat (first | exact List.Mem.head _ | apply List.Mem.tail)) (by first | rfl | (simp [Value.cells]; done) | (simp [Value.cells]; omega))) (.tmp rfl) (by repeat (first | exact Takes.nil | exact Take.here | apply Takes.cons | apply Take.there)) (by simp)
  ·
    refine WC.skip ?_
    refine WX.next ?_
    refine WC.seq ?_
    refine WC.seq ?_
    refine WC.region ?_
    refine wlv (op_move (by decide) rfl) rfl ?_
    refine wlv (op_len Try.underlying22 (by decide) rfl) rfl ?_
    refine wlv (op_gtr (by decide) rfl rfl) rfl ?_
    refine WL.nil ?_
    refine WX.regs (L' := [(0, _), (2, _), (15, _)]) (by repeat (first | exact RS.nil | refine RS.cons rfl ?_)) ?_
    refine WX.next ?_
    refine WC.cond rfl (fun h2 => ?_) (fun h2 => ?_)
    ·
      refine WC.seq ?_
      refine WC.region ?_
      refine wlv (op_build (cs := (pcells 0 0 0 0 0 (.slice none 0 0))) (pv := []) (by decide) rfl (by kernel_rfl)) rfl ?_
      refine wl (op_storeAll sz24 rfl rfl (by repeat (first | exact Take.here | apply Take.there)) (by first | rfl | (simp [Value.cells]; done) | (simp [Value.cells]; omega)) (by first | rfl | exact wvs_one _ | exact bvs_one _) (by first | rfl | (simp [Value.cells]; done) | (simp [Value.cells]; omega))) rfl ?_
      change WL _ _ _ _ _ _ _
      refine wlv (op_assign (by decide) rfl) rfl ?_
      refine WL.nil ?_
      refine WX.nilown 5 1 ?_
      refine WX.regs (L' := [(2, _), (3, _)]) (by repeat (first | exact RS.nil | refine RS.cons rfl ?_)) ?_
      refine WX.next ?_
      refine WC.ret ?_
      refine WX.then_ret ?_
      exact Fin.ret2 (by first | exact .inl rfl | exact .inr rfl) ((none, 0, 0, pt0, 5)) (⟨(dec_long (by omega)).symm, rfl⟩) Try.results25 rfl (.cellN rfl ag24 (by repeat (first | exact List.Mem.head _ | apply List.Mem.tail)) (by first | rfl | (simp [Value.cells]; done) | (simp [Value.cells]; omega))) (.tmp rfl) (by repeat (first | exact Takes.nil | exact Take.here | apply Takes.cons | apply Take.there)) (by simp)
    ·
      obtain rfl : m = 256 := by omega
      refine WC.capx (by first | (apply Src.rd; (repeat (first | exact List.Mem.head _ | apply List.Mem.tail)); done) | (apply Src.own; (repeat (first | exact List.Mem.head _ | apply List.Mem.tail)); done) | (apply Src.rx; (repeat (first | exact List.Mem.head _ | apply List.Mem.tail)); done)) (fun hcap => ?_)
      refine WC.skip ?_
      refine WX.next ?_
      refine WC.seq ?_
      refine WC.region ?_
      refine WL.dupr (v := .slice A 256 c) (sz := 1) (m := 256) (xs := bvs bs) (by repeat (first | exact List.Mem.head _ | apply List.Mem.tail)) (rd_dropB (l := 16) hm (by decide)) ?_
      refine wlv (op_move (by decide) rfl) rfl ?_
      refine wlv (op_slice_l Try.underlying22 sz5 (by decide) rfl rfl (by omega) (by omega)) rfl ?_
      refine wlx (op_call (f56_spec _ (256 - 16) _ (bs.drop 16) (by simp; omega) (by decide)) ca56 (by decide) rfl (by apply Give.mk; (repeat (first | exact Takes.nil | exact Take.here | apply Takes.cons | apply Take.there)); repeat (first | exact Reads.nil | (apply Reads.rd; (focus (repeat (first | exact List.Mem.head _ | apply List.Mem.tail)); done)) | (apply Reads.own; (focus (repeat (first | exact List.Mem.head _ | apply List.Mem.tail)); done)) | (apply Reads.rx; (focus (repeat (first | exact List.Mem.head _ | apply List.Mem.tail)); done)) | (apply Reads.rows (e := false); (focus (repeat (first | exact List.Mem.head _ | apply List.Mem.tail)); done)) | (apply Reads.rows (e := true); (focus (repeat (first | exact List.Mem.head _ | apply List.Mem.tail)); done))))) rfl ?_
      rintro _ _
      refine wl1 (op_alloc ti108 (by decide)) rfl fun b2 => ?_
      refine wl (op_storeAll sz108 rfl rfl (by repeat (first | exact Take.here | apply Take.there)) (by first | rfl | (simp [Value.cells]; done) | (simp [Value.cells]; omega)) (by first | rfl | exact wvs_one _ | exact bvs_one _) (by first | rfl | (simp [Value.cells]; done) | (simp [Value.cells]; omega))) rfl ?_
      change WL _ _ _ _ _ _ _
      refine WL.nil ?_
      refine WX.regs (L' := [(0, _), (2, _), (4, _)]) (by repeat (first | exact RS.nil | refine RS.cons rfl ?_)) ?_
      refine WX.next ?_
      refine WC.seq ?_
      refine WC.seq ?_
      refine WC.region ?_
      refine wlv (op_assign (by decide) rfl) rfl ?_
      refine WL.nil ?_
      refine WX.regs (L' := [(0, _), (2, _), (4, _), (5, _)]) (by repeat (first | exact RS.nil | refine RS.cons rfl ?_)) ?_
      refine WX.next ?_
      refine WC.block ?_
      refine WC.loop (X := Nat) (fun i => 16 - i) (fun i => i ≤ 16 ∧ (sha (bs.drop 16)).take i = bs.take i) (fun i => [(0, .slice A 256 c), (2, .pointer (some ⟨b1, 0, none⟩)), (4, .pointer (some ⟨b2, 0, none⟩)), (5, .int .i64 (i : Int))]) (fun i => [blk b2 (bvs (sha (bs.drop 16))) 108, blk b1 (pcells 0 0 0 0 0 (.slice none 0 0)) 24, rd (.slice A 256 c) 1 256 (bvs bs), frameC w0 (MutF [])]) (0) (⟨by omega, rfl⟩) (fun a w hs => hs.sub (by repeat (first | exact RS.nil | refine RS.cons (by first | rfl | exact congrArg (fun z : Int => some (Value.int .i64 z)) (by omega)) ?_)) (by repeat (first | exact Takes.nil | exact Take.here | apply Takes.cons | apply Take.there))) ?_
      rintro i ⟨hi, heq⟩
      try dsimp only
      refine WC.seq ?_
      refine WC.seq ?_
      refine WC.region ?_
      refine wlv (op_move (by decide) rfl) rfl ?_
      refine wlv (op_lss (by decide) rfl rfl) rfl ?_
      refine WL.nil ?_
      refine WX.regs (L' := [(0, _), (2, _), (4, _), (5, _), (21, _)]) (by repeat (first | exact RS.nil | refine RS.cons rfl ?_)) ?_
      refine WX.next ?_
      refine WC.cond rfl (fun h3 => ?_) (fun h3 => ?_)
      ·
        refine WC.skip ?_
        refine WX.next ?_
        refine WC.seq ?_
        refine WC.block ?_
        refine WC.seq ?_
        refine WC.drawnH mo 999 ?_
        refine WA.take (i := 0) rfl (by kernel_rfl) (fun _ _ _ h => h) rfl (op_move (by decide) rfl) (by repeat (first | exact Takes.nil | exact Take.here | apply Takes.cons | apply Take.there)) ?_
        refine WA.take (i := 1) rfl (by kernel_rfl) (fun _ _ _ h => h) rfl (op_indexArr Try.underlying108 sz5 (by decide) rfl rfl (by omega) (by omega)) (by repeat (first | exact Takes.nil | exact Take.here | apply Takes.cons | apply Take.there)) ?_
        refine WA.take (i := 2) rfl (by kernel_rfl) (fun _ _ _ h => h) rfl (op_load1 fl5 (by decide) rfl (by repeat (first | exact List.Mem.head _ | apply List.Mem.tail)) (bvs_at (k := i) (by omega) (by simp [sha_length]; omega))) (by repeat (first | exact Takes.nil | exact Take.here | apply Takes.cons | apply Take.there)) ?_
        refine WA.take (i := 3) rfl (by kernel_rfl) (fun _ _ _ h => h) rfl (op_move (by decide) rfl) (by repeat (first | exact Takes.nil | exact Take.here | apply Takes.cons | apply Take.there)) ?_
        refine WA.take (i := 4) rfl (by kernel_rfl) (fun _ _ _ h => h) rfl (op_move (by decide) rfl) (by repeat (first | exact Takes.nil | exact Take.here | apply Takes.cons | apply Take.there)) ?_
        refine WA.take (i := 5) rfl (by kernel_rfl) (fun _ _ _ h => h) rfl (op_index Try.underlying22 sz5 (by decide) rfl rfl (by omega) (by omega) (by decide) (by first | (apply Src.rd; (repeat (first | exact List.Mem.head _ | apply List.Mem.tail)); done) | (apply Src.own; (repeat (first | exact List.Mem.head _ | apply List.Mem.tail)); done) | (apply Src.rx; (repeat (first | exact List.Mem.head _ | apply List.Mem.tail)); done))) (by repeat (first | exact Takes.nil | exact Take.here | apply Takes.cons | apply Take.there)) ?_
        refine WA.take (i := 6) rfl (by kernel_rfl) (fun _ _ _ h => h) rfl (op_loadS fl5 (by decide) rfl (by first | (apply Src.rd; (repeat (first | exact List.Mem.head _ | apply List.Mem.tail)); done) | (apply Src.own; (repeat (first | exact List.Mem.head _ | apply List.Mem.tail)); done) | (apply Src.rx; (repeat (first | exact List.Mem.head _ | apply List.Mem.tail)); done)) (bvs_at (k := i) (by omega) (by omega))) (by repeat (first | exact Takes.nil | exact Take.here | apply Takes.cons | apply Take.there)) ?_
        refine WA.take (i := 7) rfl (by kernel_rfl) (fun _ _ _ h => h) rfl (op_neq8 (by decide) rfl rfl) (by repeat (first | exact Takes.nil | exact Take.here | apply Takes.cons | apply Take.there)) ?_
        refine WA.done (by kernel_rfl) ?_
        refine WX.regs (L' := [(0, _), (2, _), (4, _), (5, _), (31, _)]) (by repeat (first | exact RS.nil | refine RS.cons rfl ?_)) ?_
        refine WX.next ?_
        refine WC.cond rfl (fun h4 => ?_) (fun h4 => ?_)
        ·
          refine WC.seq ?_
          refine WC.region ?_
          refine wlv (op_build (cs := (pcells 0 0 0 0 0 (.slice none 0 0))) (pv := []) (by decide) rfl (by kernel_rfl)) rfl ?_
          refine wl (op_storeAll sz24 rfl rfl (by repeat (first | exact Take.here | apply Take.there)) (by first | rfl | (simp [Value.cells]; done) | (simp [Value.cells]; omega)) (by first | rfl | exact wvs_one _ | exact bvs_one _) (by first | rfl | (simp [Value.cells]; done) | (simp [Value.cells]; omega))) rfl ?_
          change WL _ _ _ _ _ _ _
          refine wlv (op_assign (by decide) rfl) rfl ?_
          refine WL.nil ?_
          refine WX.nilown 5 1 ?_
          refine WX.regs (L' := [(2, _), (3, _)]) (by repeat (first | exact RS.nil | refine RS.cons rfl ?_)) ?_
          refine WX.next ?_
          refine WC.ret ?_
          refine WX.in_ret ?_
          refine WX.then_ret ?_
          refine WX.then_ret ?_
          refine WX.in_ret ?_
          refine WX.then_ret ?_
          exact Fin.ret2 (by first | exact .inl rfl | exact .inr rfl) ((none, 0, 0, pt0, 22)) (⟨(dec_sum hm (take_ne (i := i) (by omega) (by simp [sha_length]; omega) (by omega) (by simpa using h4))).symm, rfl⟩) Try.results25 rfl (.cellN rfl ag24 (by repeat (first | exact List.Mem.head _ | apply List.Mem.tail)) (by first | rfl | (simp [Value.cells]; done) | (simp [Value.cells]; omega))) (.tmp rfl) (by repeat (first | exact Takes.nil | exact Take.here | apply Takes.cons | apply Take.there)) (by simp)
        ·
          refine WC.skip ?_
          refine WX.in_normal ?_
          refine WX.next ?_
          refine WC.region ?_
          refine wlv (op_move (by decide) rfl) rfl ?_
          refine wlv (op_add (by decide) rfl rfl (by omega)) rfl ?_
          refine wlv (op_assign (by decide) rfl) rfl ?_
          refine WL.nil ?_
          refine WX.regs (L' := [(0, _), (2, _), (4, _), (5, _)]) (by repeat (first | exact RS.nil | refine RS.cons rfl ?_)) ?_
          refine WX.meet (i + 1) ⟨⟨by omega, take_eq_step heq (by simp [sha_length]; omega) (by omega) (by simpa using h4)⟩, by omega⟩ (fun a w hs => hs.sub (by repeat (first | exact RS.nil | refine RS.cons (by first | rfl | exact congrArg (fun z : Int => some (Value.int .i64 z)) (by omega)) ?_)) (by repeat (first | exact Takes.nil | exact Take.here | apply Takes.cons | apply Take.there)))
      ·
        refine WC.exit ?_
        refine WX.then_exit ?_
        refine WX.then_exit ?_
        refine WX.in_hit ?_
        refine WX.next ?_
        refine WC.seq ?_
        refine WC.region ?_
        obtain rfl : i = 16 := by omega
        refine WL.dupr (v := .slice A 256 c) (sz := 1) (m := 256) (xs := bvs bs) (by repeat (first | exact List.Mem.head _ | apply List.Mem.tail)) (rd_subB (l := 16) (h := 20) (by omega) (by omega)) ?_
        refine WL.dupr (v := .slice A 256 c) (sz := 1) (m := 256) (xs := bvs bs) (by repeat (first | exact List.Mem.head _ | apply List.Mem.tail)) (rd_subB (l := 20) (h := 24) (by omega) (by omega)) ?_
        refine WL.dupr (v := .slice A 256 c) (sz := 1) (m := 256) (xs := bvs bs) (by repeat (first | exact List.Mem.head _ | apply List.Mem.tail)) (rd_subB (l := 24) (h := 26) (by omega) (by omega)) ?_
        refine WL.dupr (v := .slice A 256 c) (sz := 1) (m := 256) (xs := bvs bs) (by repeat (first | exact List.Mem.head _ | apply List.Mem.tail)) (rd_subB (l := 26) (h := 28) (by omega) (by omega)) ?_
        refine WL.dupr (v := .slice A 256 c) (sz := 1) (m := 256) (xs := bvs bs) (by repeat (first | exact List.Mem.head _ | apply List.Mem.tail)) (rd_subB (l := 28) (h := 30) (by omega) (by omega)) ?_
        refine WL.dupr (v := .slice A 256 c) (sz := 1) (m := 256) (xs := bvs bs) (by repeat (first | exact List.Mem.head _ | apply List.Mem.tail)) (rd_subB (l := 30) (h := 32) (by omega) (by omega)) ?_
        refine wlv (op_move (by decide) rfl) rfl ?_
        refine wlv (op_slice_lh Try.underlying22 sz5 (by decide) rfl rfl rfl (by omega) (by omega) (by omega)) rfl ?_
        refine wlx (op_call (f57_spec _ 2 _ ((bs.drop 30).take 2) (by simp; omega) (by decide)) ca57 (by decide) rfl (by apply Give.mk; (repeat (first | exact Takes.nil | exact Take.here | apply Takes.cons | apply Take.there)); repeat (first | exact Reads.nil | (apply Reads.rd; (focus (repeat (first | exact List.Mem.head _ | apply List.Mem.tail)); done)) | (apply Reads.own; (focus (repeat (first | exact List.Mem.head _ | apply List.Mem.tail)); done)) | (apply Reads.rx; (focus (repeat (first | exact List.Mem.head _ | apply List.Mem.tail)); done)) | (apply Reads.rows (e := false); (focus (repeat (first | exact List.Mem.head _ | apply List.Mem.tail)); done)) | (apply Reads.rows (e := true); (focus (repeat (first | exact List.Mem.head _ | apply List.Mem.tail)); done))))) rfl ?_
        rintro _ _
        rw [show vl ((bs.drop 30).take 2) = fld bs 30 2 from rfl]
        refine wlv (op_assign (by decide) rfl) rfl ?_
        refine WL.nil ?_
        refine WX.regs (L' := [(0, _), (2, _), (6, _)]) (by repeat (first | exact RS.nil | refine RS.cons rfl ?_)) ?_
        refine WX.next ?_
        refine WC.seq ?_
        refine WC.seq ?_
        refine WC.region ?_
        refine wlv (op_move (by decide) rfl) rfl ?_
        refine wlv (op_gtr (by decide) rfl rfl) rfl ?_
        refine WL.nil ?_
        refine WX.regs (L' := [(0, _), (2, _), (6, _), (37, _)]) (by repeat (first | exact RS.nil | refine RS.cons rfl ?_)) ?_
        refine WX.next ?_
        refine WC.cond rfl (fun h5 => ?_) (fun h5 => ?_)
        ·
          refine WC.seq ?_
          refine WC.region ?_
          refine wlv (op_build (cs := (pcells 0 0 0 0 0 (.slice none 0 0))) (pv := []) (by decide) rfl (by kernel_rfl)) rfl ?_
          refine wl (op_storeAll sz24 rfl rfl (by repeat (first | exact Take.here | apply Take.there)) (by first | rfl | (simp [Value.cells]; done) | (simp [Value.cells]; omega)) (by first | rfl | exact wvs_one _ | exact bvs_one _) (by first | rfl | (simp [Value.cells]; done) | (simp [Value.cells]; omega))) rfl ?_
          change WL _ _ _ _ _ _ _
          refine wlv (op_assign (by decide) rfl) rfl ?_
          refine WL.nil ?_
          refine WX.nilown 5 1 ?_
          refine WX.regs (L' := [(2, _), (3, _)]) (by repeat (first | exact RS.nil | refine RS.cons rfl ?_)) ?_
          refine WX.next ?_
          refine WC.ret ?_
          refine WX.then_ret ?_
          exact Fin.ret2 (by first | exact .inl rfl | exact .inr rfl) ((none, 0, 0, pt0, 3)) (⟨(dec_len hm heq (by omega)).symm, rfl⟩) Try.results25 rfl (.cellN rfl ag24 (by repeat (first | exact List.Mem.head _ | apply List.Mem.tail)) (by first | rfl | (simp [Value.cells]; done) | (simp [Value.cells]; omega))) (.tmp rfl) (by repeat (first | exact Takes.nil | exact Take.here | apply Takes.cons | apply Take.there)) (by simp)
        ·
          refine WC.skip ?_
          refine WX.next ?_
          refine WC.seq ?_
          refine WC.drawnH mo 23 ?_
          refine WA.dup (c := rd (.slice A 256 c) 1 256 (bvs bs)) (d := rd (sliced A 32 (32 + (fld bs 30 2)) c 1) 1 (32 + (fld bs 30 2) - 32) (bvs ((bs.drop 32).take (32 + (fld bs 30 2) - 32)))) (by repeat (first | exact List.Mem.head _ | apply List.Mem.tail)) (by simp) (by simp) (rd_subB (l := 32) (h := 32 + (fld bs 30 2)) (by omega) (by omega)) ?_
          refine WA.take (i := 0) rfl (by kernel_rfl) (fun _ _ _ h => h) rfl (op_move (by decide) rfl) (by repeat (first | exact Takes.nil | exact Take.here | apply Takes.cons | apply Take.there)) ?_
          refine WA.take (i := 1) rfl (by kernel_rfl) (fun _ _ _ h => h) rfl (op_slice_lh Try.underlying22 sz5 (by decide) rfl rfl rfl (by omega) (by omega) (by omega)) (by repeat (first | exact Takes.nil | exact Take.here | apply Takes.cons | apply Take.there)) ?_
          refine WA.take (i := 3) rfl (by kernel_rfl) (fun _ _ _ h => h) rfl (op_move (by decide) rfl) (by repeat (first | exact Takes.nil | exact Take.here | apply Takes.cons | apply Take.there)) ?_
          refine WA.take (i := 4) rfl (by kernel_rfl) (fun _ _ _ h => h) rfl (op_slice_lh Try.underlying22 sz5 (by decide) rfl rfl rfl (by omega) (by omega) (by omega)) (by repeat (first | exact Takes.nil | exact Take.here | apply Takes.cons | apply Take.there)) ?_
          refine WA.take (i := 6) rfl (by kernel_rfl) (fun _ _ _ h => h) rfl (op_move (by decide) rfl) (by repeat (first | exact Takes.nil | exact Take.here | apply Takes.cons | apply Take.there)) ?_
          refine WA.take (i := 7) rfl (by kernel_rfl) (fun _ _ _ h => h) rfl (op_slice_lh Try.underlying22 sz5 (by decide) rfl rfl rfl (by omega) (by omega) (by omega)) (by repeat (first | exact Takes.nil | exact Take.here | apply Takes.cons | apply Take.there)) ?_
          refine WA.take (i := 9) rfl (by kernel_rfl) (fun _ _ _ h => h) rfl (op_move (by decide) rfl) (by repeat (first | exact Takes.nil | exact Take.here | apply Takes.cons | apply Take.there)) ?_
          refine WA.take (i := 10) rfl (by kernel_rfl) (fun _ _ _ h => h) rfl (op_slice_lh Try.underlying22 sz5 (by decide) rfl rfl rfl (by omega) (by omega) (by omega)) (by repeat (first | exact Takes.nil | exact Take.here | apply Takes.cons | apply Take.there)) ?_
          refine WA.take (i := 12) rfl (by kernel_rfl) (fun _ _ _ h => h) rfl (op_move (by decide) rfl) (by repeat (first | exact Takes.nil | exact Take.here | apply Takes.cons | apply Take.there)) ?_
          refine WA.take (i := 13) rfl (by kernel_rfl) (fun _ _ _ h => h) rfl (op_slice_lh Try.underlying22 sz5 (by decide) rfl rfl rfl (by omega) (by omega) (by omega)) (by repeat (first | exact Takes.nil | exact Take.here | apply Takes.cons | apply Take.there)) ?_
          refine WA.take (i := 16) rfl (by kernel_rfl) (fun _ _ _ h => h) rfl (op_move (by decide) rfl) (by repeat (first | exact Takes.nil | exact Take.here | apply Takes.cons | apply Take.there)) ?_
          refine WA.take (i := 17) rfl (by kernel_rfl) (fun _ _ _ h => h) rfl (op_move (by decide) rfl) (by repeat (first | exact Takes.nil | exact Take.here | apply Takes.cons | apply Take.there)) ?_
          refine WA.take (i := 18) rfl (by kernel_rfl) (fun _ _ _ h => h) rfl (op_add (by decide) rfl rfl (by omega)) (by repeat (first | exact Takes.nil | exact Take.here | apply Takes.cons | apply Take.there)) ?_
          refine WA.take (i := 19) rfl (by kernel_rfl) (fun _ _ _ h => h) rfl (op_slice_lh Try.underlying22 sz5 (by decide) rfl rfl rfl (by omega) (by omega) (by omega)) (by repeat (first | exact Takes.nil | exact Take.here | apply Takes.cons | apply Take.there)) ?_
          refine WA.abs (fun W hW => ?_)
          have st111111111111111111111110 : ∀ (b3 : Nat) (A1 : Option Addr) (c1 : Nat) (b4 : Nat), W 1 #[true, true, true, true, true, true, true, true, true, true, true, true, true, true, true, true, true, true, true, true, true, true, true, false] 78 [(0, .slice A 256 c), (2, .pointer (some ⟨b1, 0, none⟩)), (6, .int .i64 (((fld bs 30 2) : Nat) : Int)), (7, .pointer (some ⟨b4, 0, none⟩)), (60, .agg (pcells (fld bs 24 2 : Nat) (fld bs 16 4 : Nat) (fld bs 20 4 : Nat) (fld bs 26 2 : Nat) (fld bs 28 2 : Nat) (.slice A1 (32 + fld bs 30 2 - 32) c1)).toArray)] [blk b4 (pcells 0 0 0 0 0 (.slice none 0 0)) 24, own (.slice A1 (32 + fld bs 30 2 - 32) c1) 5 1 (32 + fld bs 30 2 - 32) (bvs ((bs.drop 32).take (32 + fld bs 30 2 - 32))), rd (.slice A 256 c) 1 256 (bvs bs), rd (sliced A 32 (32 + (fld bs 30 2)) c 1) 1 (32 + (fld bs 30 2) - 32) (bvs ((bs.drop 32).take (32 + (fld bs 30 2) - 32))), rd (sliced A 16 20 c 1) 1 (20 - 16) (bvs ((bs.drop 16).take (20 - 16))), rd (sliced A 20 24 c 1) 1 (24 - 20) (bvs ((bs.drop 20).take (24 - 20))), rd (sliced A 24 26 c 1) 1 (26 - 24) (bvs ((bs.drop 24).take (26 - 24))), rd (sliced A 26 28 c 1) 1 (28 - 26) (bvs ((bs.drop 26).take (28 - 26))), rd (sliced A 28 30 c 1) 1 (30 - 28) (bvs ((bs.drop 28).take (30 - 28))), rd (sliced A 30 32 c 1) 1 (32 - 30) (bvs ((bs.drop 30).take (32 - 30))), blk b2 (bvs (sha (bs.drop 16))) 108, blk b1 (pcells 0 0 0 0 0 (.slice none 0 0)) 24, frameC w0 (MutF [])] := by
            intro b3 A1 c1 b4
            subst hW
            refine WA.stepo (G := []) (i := 23) (by kernel_rfl) rfl rfl (op_storeAll sz24 rfl rfl (by repeat (first | exact Take.here | apply Take.there)) (by first | rfl | (simp [Value.cells]; done) | (simp [Value.cells]; omega)) (by first | rfl | exact wvs_one _ | exact bvs_one _) (by first | rfl | (simp [Value.cells]; done) | (simp [Value.cells]; omega))) (fun h => absurd rfl h) ?_
            refine WA.done (by kernel_rfl) ?_
            refine WX.regs (L' := [(0, _), (2, _), (6, _), (7, _)]) (by repeat (first | exact RS.nil | refine RS.cons rfl ?_)) ?_
            refine WX.next ?_
            refine WC.seq ?_
            refine WC.seq ?_
            refine WC.region ?_
            rw [show 32 + (fld bs 30 2) - 32 = (fld bs 30 2) by omega]
            refine wlv (op_loadAll ag24 (by decide) rfl (by repeat (first | exact List.Mem.head _ | apply List.Mem.tail)) (by first | rfl | (simp [Value.cells]; done) | (simp [Value.cells]; omega))) rfl ?_
            refine wlx (op_call (f20_spec _ _ _ _ _ A1 (fld bs 30 2) c1) ca20 (by decide) rfl (by apply Give.mk; (repeat (first | exact Takes.nil | exact Take.here | apply Takes.cons | apply Take.there)); repeat (first | exact Reads.nil | (apply Reads.rd; (focus (repeat (first | exact List.Mem.head _ | apply List.Mem.tail)); done)) | (apply Reads.own; (focus (repeat (first | exact List.Mem.head _ | apply List.Mem.tail)); done)) | (apply Reads.rx; (focus (repeat (first | exact List.Mem.head _ | apply List.Mem.tail)); done)) | (apply Reads.rows (e := false); (focus (repeat (first | exact List.Mem.head _ | apply List.Mem.tail)); done)) | (apply Reads.rows (e := true); (focus (repeat (first | exact List.Mem.head _ | apply List.Mem.tail)); done))))) rfl ?_
            rintro _ rfl
            refine wlv (op_neq (by decide) rfl rfl) rfl ?_
            refine WL.nil ?_
            refine WX.regs (L' := [(0, _), (2, _), (6, _), (7, _), (63, _)]) (by repeat (first | exact RS.nil | refine RS.cons rfl ?_)) ?_
            refine WX.next ?_
            refine WC.cond rfl (fun h6 => ?_) (fun h6 => ?_)
            ·
              refine WC.seq ?_
              refine WC.region ?_
              refine wlv (op_build (cs := (pcells 0 0 0 0 0 (.slice none 0 0))) (pv := []) (by decide) rfl (by kernel_rfl)) rfl ?_
              refine wl (op_storeAll sz24 rfl rfl (by repeat (first | exact Take.here | apply Take.there)) (by first | rfl | (simp [Value.cells]; done) | (simp [Value.cells]; omega)) (by first | rfl | exact wvs_one _ | exact bvs_one _) (by first | rfl | (simp [Value.cells]; done) | (simp [Value.cells]; omega))) rfl ?_
              change WL _ _ _ _ _ _ _
              refine wlv (op_assign (by decide) rfl) rfl ?_
              refine WL.nil ?_
              refine WX.nilown 5 1 ?_
              refine WX.regs (L' := [(2, _), (3, _)]) (by repeat (first | exact RS.nil | refine RS.cons rfl ?_)) ?_
              refine WX.next ?_
              refine WC.ret ?_
              refine WX.then_ret ?_
              exact Fin.ret2 (by first | exact .inl rfl | exact .inr rfl) ((none, 0, 0, pt0, 3)) (⟨(dec_bad hm heq (by omega) (.inl (by unfold Pt.chk; rw [decP_len hm (by omega)]; exact h6))).symm, rfl⟩) Try.results25 rfl (.cellN rfl ag24 (by repeat (first | exact List.Mem.head _ | apply List.Mem.tail)) (by first | rfl | (simp [Value.cells]; done) | (simp [Value.cells]; omega))) (.tmp rfl) (by repeat (first | exact Takes.nil | exact Take.here | apply Takes.cons | apply Take.there)) (by simp)
            ·
              refine WC.skip ?_
              refine WX.next ?_
              refine WC.seq ?_
              refine WC.seq ?_
              refine WC.region ?_
              refine wlv (op_move (by decide) rfl) rfl ?_
              refine wlv (op_add (by decide) rfl rfl (by omega)) rfl ?_
              refine wlv (op_assign (by decide) rfl) rfl ?_
              refine WL.nil ?_
              refine WX.regs (L' := [(0, _), (2, _), (7, _), (8, _)]) (by repeat (first | exact RS.nil | refine RS.cons rfl ?_)) ?_
              refine WX.next ?_
              refine WC.block ?_
              refine WC.loop (X := Nat) (fun j => 256 - (32 + (fld bs 30 2) + j)) (fun j => 32 + (fld bs 30 2) + j ≤ 256 ∧ blank ((bs.drop (32 + (fld bs 30 2))).take j) = true) (fun j => [(0, .slice A 256 c), (2, .pointer (some ⟨b1, 0, none⟩)), (7, .pointer (some ⟨b4, 0, none⟩)), (8, .int .i64 ((32 + (fld bs 30 2) + j : Nat) : Int))]) (fun j => [blk b4 (pcells (fld bs 24 2 : Nat) (fld bs 16 4 : Nat) (fld bs 20 4 : Nat) (fld bs 26 2 : Nat) (fld bs 28 2 : Nat) (.slice A1 (fld bs 30 2) c1)) 24, own (.slice A1 (fld bs 30 2) c1) 5 1 (fld bs 30 2) (bvs ((bs.drop 32).take (fld bs 30 2))), blk b1 (pcells 0 0 0 0 0 (.slice none 0 0)) 24, rd (.slice A 256 c) 1 256 (bvs bs), frameC w0 (MutF [])]) (0) (⟨by omega, rfl⟩) (fun a w hs => hs.sub (by repeat (first | exact RS.nil | refine RS.cons (by first | rfl | exact congrArg (fun z : Int => some (Value.int .i64 z)) (by omega)) ?_)) (by repeat (first | exact Takes.nil | exact Take.here | apply Takes.cons | apply Take.there))) ?_
              rintro j ⟨hj, hb⟩
              try dsimp only
              refine WC.seq ?_
              refine WC.seq ?_
              refine WC.region ?_
              refine wlv (op_move (by decide) rfl) rfl ?_
              refine wlv (op_lss (by decide) rfl rfl) rfl ?_
              refine WL.nil ?_
              refine WX.regs (L' := [(0, _), (2, _), (7, _), (8, _), (68, _)]) (by repeat (first | exact RS.nil | refine RS.cons rfl ?_)) ?_
              refine WX.next ?_
              refine WC.cond rfl (fun h7 => ?_) (fun h7 => ?_)
              ·
                refine WC.skip ?_
                refine WX.next ?_
                refine WC.seq ?_
                refine WC.block ?_
                refine WC.seq ?_
                refine WC.region ?_
                refine wlv (op_move (by decide) rfl) rfl ?_
                refine wlv (op_move (by decide) rfl) rfl ?_
                refine wlv (op_index Try.underlying22 sz5 (by decide) rfl rfl (by omega) (by omega) (by decide) (by first | (apply Src.rd; (repeat (first | exact List.Mem.head _ | apply List.Mem.tail)); done) | (apply Src.own; (repeat (first | exact List.Mem.head _ | apply List.Mem.tail)); done) | (apply Src.rx; (repeat (first | exact List.Mem.head _ | apply List.Mem.tail)); done))) rfl ?_
                refine wlv (op_loadS fl5 (by decide) rfl (by first | (apply Src.rd; (repeat (first | exact List.Mem.head _ | apply List.Mem.tail)); done) | (apply Src.own; (repeat (first | exact List.Mem.head _ | apply List.Mem.tail)); done) | (apply Src.rx; (repeat (first | exact List.Mem.head _ | apply List.Mem.tail)); done)) (bvs_at (k := 32 + (fld bs 30 2) + j) (by omega) (by omega))) rfl ?_
                refine wlv (op_neq8 (b := 0) (by decide) rfl rfl) rfl ?_
                refine WL.nil ?_
                refine WX.regs (L' := [(0, _), (2, _), (7, _), (8, _), (75, _)]) (by repeat (first | exact RS.nil | refine RS.cons rfl ?_)) ?_
                refine WX.next ?_
                refine WC.cond rfl (fun h8 => ?_) (fun h8 => ?_)
                ·
                  refine WC.seq ?_
                  refine WC.region ?_
                  refine wlv (op_build (cs := (pcells 0 0 0 0 0 (.slice none 0 0))) (pv := []) (by decide) rfl (by kernel_rfl)) rfl ?_
                  refine wl (op_storeAll sz24 rfl rfl (by repeat (first | exact Take.here | apply Take.there)) (by first | rfl | (simp [Value.cells]; done) | (simp [Value.cells]; omega)) (by first | rfl | exact wvs_one _ | exact bvs_one _) (by first | rfl | (simp [Value.cells]; done) | (simp [Value.cells]; omega))) rfl ?_
                  change WL _ _ _ _ _ _ _
                  refine wlv (op_assign (by decide) rfl) rfl ?_
                  refine WL.nil ?_
                  refine WX.nilown 5 1 ?_
                  refine WX.regs (L' := [(2, _), (3, _)]) (by repeat (first | exact RS.nil | refine RS.cons rfl ?_)) ?_
                  refine WX.next ?_
                  refine WC.ret ?_
                  refine WX.in_ret ?_
                  refine WX.then_ret ?_
                  refine WX.then_ret ?_
                  refine WX.in_ret ?_
                  refine WX.then_ret ?_
                  exact Fin.ret2 (by first | exact .inl rfl | exact .inr rfl) ((none, 0, 0, pt0, 3)) (⟨(dec_bad hm heq (by omega) (.inr (blank_not _ j (by simp; omega) (by rw [getD_drop]; simpa using h8)))).symm, rfl⟩) Try.results25 rfl (.cellN rfl ag24 (by repeat (first | exact List.Mem.head _ | apply List.Mem.tail)) (by first | rfl | (simp [Value.cells]; done) | (simp [Value.cells]; omega))) (.tmp rfl) (by repeat (first | exact Takes.nil | exact Take.here | apply Takes.cons | apply Take.there)) (by simp)
                ·
                  refine WC.skip ?_
                  refine WX.in_normal ?_
                  refine WX.next ?_
                  refine WC.region ?_
                  refine wlv (op_move (by decide) rfl) rfl ?_
                  refine wlv (op_add (by decide) rfl rfl (by omega)) rfl ?_
                  refine wlv (op_assign (by decide) rfl) rfl ?_
                  refine WL.nil ?_
                  refine WX.regs (L' := [(0, _), (2, _), (7, _), (8, _)]) (by repeat (first | exact RS.nil | refine RS.cons rfl ?_)) ?_
                  refine WX.meet (j + 1) ⟨⟨by omega, blank_step _ j (by simp; omega) hb (by rw [getD_drop]; simpa using h8)⟩, by omega⟩ (fun a w hs => hs.sub (by repeat (first | exact RS.nil | refine RS.cons (by first | rfl | exact congrArg (fun z : Int => some (Value.int .i64 z)) (by omega)) ?_)) (by repeat (first | exact Takes.nil | exact Take.here | apply Takes.cons | apply Take.there)))
              ·
                refine WC.exit ?_
                refine WX.then_exit ?_
                refine WX.then_exit ?_
                refine WX.in_hit ?_
                refine WX.next ?_
                refine WC.seq ?_
                refine WC.region ?_
                refine wlv (op_loadAll ag24 (by decide) rfl (by repeat (first | exact List.Mem.head _ | apply List.Mem.tail)) (by first | rfl | (simp [Value.cells]; done) | (simp [Value.cells]; omega))) rfl ?_
                refine wl (op_storeAll sz24 rfl rfl (by repeat (first | exact Take.here | apply Take.there)) (by first | rfl | (simp [Value.cells]; done) | (simp [Value.cells]; omega)) (by first | rfl | exact wvs_one _ | exact bvs_one _) (by first | rfl | (simp [Value.cells]; done) | (simp [Value.cells]; omega))) rfl ?_
                change WL _ _ _ _ _ _ _
                refine wlv (op_assign (by decide) rfl) rfl ?_
                refine WL.nil ?_
                refine WX.regs (L' := [(2, _), (3, _)]) (by repeat (first | exact RS.nil | refine RS.cons rfl ?_)) ?_
                refine WX.next ?_
                refine WC.ret ?_
                have hj3 : 32 + fld bs 30 2 + j = 256 := by omega
                rw [show (bs.drop (32 + fld bs 30 2)).take j = bs.drop (32 + fld bs 30 2) by rw [List.take_of_length_le (by simp; omega)]] at hb
                exact Fin.ret2 (by first | exact .inl rfl | exact .inr rfl) ((A1, c1, (fld bs 30 2), decP bs, 0)) (⟨(dec_ok hm heq (by omega) (by unfold Pt.chk; rw [decP_len hm (by omega)]; exact Decidable.not_not.1 h6) hb).symm, (decP_len hm (by omega)).symm⟩) Try.results25 rfl (.cellN rfl ag24 (by repeat (first | exact List.Mem.head _ | apply List.Mem.tail)) (by first | rfl | (simp [Value.cells]; done) | (simp [Value.cells]; omega))) (.tmp rfl) (by repeat (first | exact Takes.nil | exact Take.here | apply Takes.cons | apply Take.there)) (by simp)
          have st111111111111111111111000 : ∀ (b3 : Nat) (A1 : Option Addr) (c1 : Nat), W 3 #[true, true, true, true, true, true, true, true, true, true, true, true, true, true, true, true, true, true, true, true, true, false, false, false] 78 [(0, .slice A 256 c), (2, .pointer (some ⟨b1, 0, none⟩)), (6, .int .i64 (((fld bs 30 2) : Nat) : Int)), (41, .int .i64 ((fld bs 16 4 : Nat) : Int)), (44, .int .i64 ((fld bs 20 4 : Nat) : Int)), (47, .int .i64 ((fld bs 24 2 : Nat) : Int)), (50, .int .i64 ((fld bs 26 2 : Nat) : Int)), (53, .int .i64 ((fld bs 28 2 : Nat) : Int)), (59, .slice A1 (32 + fld bs 30 2 - 32) c1)] [own (.slice A1 (32 + fld bs 30 2 - 32) c1) 5 1 (32 + fld bs 30 2 - 32) (bvs ((bs.drop 32).take (32 + fld bs 30 2 - 32))), rd (.slice A 256 c) 1 256 (bvs bs), rd (sliced A 32 (32 + (fld bs 30 2)) c 1) 1 (32 + (fld bs 30 2) - 32) (bvs ((bs.drop 32).take (32 + (fld bs 30 2) - 32))), rd (sliced A 16 20 c 1) 1 (20 - 16) (bvs ((bs.drop 16).take (20 - 16))), rd (sliced A 20 24 c 1) 1 (24 - 20) (bvs ((bs.drop 20).take (24 - 20))), rd (sliced A 24 26 c 1) 1 (26 - 24) (bvs ((bs.drop 24).take (26 - 24))), rd (sliced A 26 28 c 1) 1 (28 - 26) (bvs ((bs.drop 26).take (28 - 26))), rd (sliced A 28 30 c 1) 1 (30 - 28) (bvs ((bs.drop 28).take (30 - 28))), rd (sliced A 30 32 c 1) 1 (32 - 30) (bvs ((bs.drop 30).take (32 - 30))), blk b2 (bvs (sha (bs.drop 16))) 108, blk b1 (pcells 0 0 0 0 0 (.slice none 0 0)) 24, frameC w0 (MutF [])] := by
            intro b3 A1 c1
            subst hW
            refine WA.take (i := 21) rfl (by kernel_rfl) (fun _ _ _ h => h) rfl (op_build (cs := (pcells (fld bs 24 2 : Nat) (fld bs 16 4 : Nat) (fld bs 20 4 : Nat) (fld bs 26 2 : Nat) (fld bs 28 2 : Nat) (.slice A1 (32 + fld bs 30 2 - 32) c1))) (pv := [(1, _), (2, _), (0, _), (3, _), (4, _), (5, _)]) (by decide) rfl (by kernel_rfl)) (by repeat (first | exact Takes.nil | exact Take.here | apply Takes.cons | apply Take.there)) ?_
            refine WA.pick (l := [22]) (by kernel_rfl) rfl (fun i hi => ?_)
            simp only [List.mem_cons, List.not_mem_nil, or_false] at hi
            subst hi
            ·
              refine WA.one1 rfl rfl (op_alloc ti24 (by decide)) (fun _ b => (by repeat (first | exact Takes.nil | exact Take.here | apply Takes.cons | apply Take.there))) fun b4 => ?_
              exact WA.conv (by first | rfl | kernel_rfl) (by repeat (first | exact RS.nil | refine RS.cons rfl ?_)) (by repeat (first | exact Takes.nil | exact Take.here | apply Takes.cons | apply Take.there)) (st111111111111111111111110 b3 A1 c1 b4)
          have st111111111111111111111010 : ∀ (b3 : Nat) (A1 : Option Addr) (c1 : Nat) (b4 : Nat), W 2 #[true, true, true, true, true, true, true, true, true, true, true, true, true, true, true, true, true, true, true, true, true, false, true, false] 78 [(0, .slice A 256 c), (2, .pointer (some ⟨b1, 0, none⟩)), (6, .int .i64 (((fld bs 30 2) : Nat) : Int)), (7, .pointer (some ⟨b4, 0, none⟩)), (41, .int .i64 ((fld bs 16 4 : Nat) : Int)), (44, .int .i64 ((fld bs 20 4 : Nat) : Int)), (47, .int .i64 ((fld bs 24 2 : Nat) : Int)), (50, .int .i64 ((fld bs 26 2 : Nat) : Int)), (53, .int .i64 ((fld bs 28 2 : Nat) : Int)), (59, .slice A1 (32 + fld bs 30 2 - 32) c1)] [blk b4 (pcells 0 0 0 0 0 (.slice none 0 0)) 24, own (.slice A1 (32 + fld bs 30 2 - 32) c1) 5 1 (32 + fld bs 30 2 - 32) (bvs ((bs.drop 32).take (32 + fld bs 30 2 - 32))), rd (.slice A 256 c) 1 256 (bvs bs), rd (sliced A 32 (32 + (fld bs 30 2)) c 1) 1 (32 + (fld bs 30 2) - 32) (bvs ((bs.drop 32).take (32 + (fld bs 30 2) - 32))), rd (sliced A 16 20 c 1) 1 (20 - 16) (bvs ((bs.drop 16).take (20 - 16))), rd (sliced A 20 24 c 1) 1 (24 - 20) (bvs ((bs.drop 20).take (24 - 20))), rd (sliced A 24 26 c 1) 1 (26 - 24) (bvs ((bs.drop 24).take (26 - 24))), rd (sliced A 26 28 c 1) 1 (28 - 26) (bvs ((bs.drop 26).take (28 - 26))), rd (sliced A 28 30 c 1) 1 (30 - 28) (bvs ((bs.drop 28).take (30 - 28))), rd (sliced A 30 32 c 1) 1 (32 - 30) (bvs ((bs.drop 30).take (32 - 30))), blk b2 (bvs (sha (bs.drop 16))) 108, blk b1 (pcells 0 0 0 0 0 (.slice none 0 0)) 24, frameC w0 (MutF [])] := by
            intro b3 A1 c1 b4
            subst hW
            refine WA.take (i := 21) rfl (by kernel_rfl) (fun _ _ _ h => h) rfl (op_build (cs := (pcells (fld bs 24 2 : Nat) (fld bs 16 4 : Nat) (fld bs 20 4 : Nat) (fld bs 26 2 : Nat) (fld bs 28 2 : Nat) (.slice A1 (32 + fld bs 30 2 - 32) c1))) (pv := [(1, _), (2, _), (0, _), (3, _), (4, _), (5, _)]) (by decide) rfl (by kernel_rfl)) (by repeat (first | exact Takes.nil | exact Take.here | apply Takes.cons | apply Take.there)) ?_
            refine WA.stepo (G := []) (i := 23) (by kernel_rfl) rfl rfl (op_storeAll sz24 rfl rfl (by repeat (first | exact Take.here | apply Take.there)) (by first | rfl | (simp [Value.cells]; done) | (simp [Value.cells]; omega)) (by first | rfl | exact wvs_one _ | exact bvs_one _) (by first | rfl | (simp [Value.cells]; done) | (simp [Value.cells]; omega))) (fun h => absurd rfl h) ?_
            refine WA.done (by kernel_rfl) ?_
            refine WX.regs (L' := [(0, _), (2, _), (6, _), (7, _)]) (by repeat (first | exact RS.nil | refine RS.cons rfl ?_)) ?_
            refine WX.next ?_
            refine WC.seq ?_
            refine WC.seq ?_
            refine WC.region ?_
            rw [show 32 + (fld bs 30 2) - 32 = (fld bs 30 2) by omega]
            refine wlv (op_loadAll ag24 (by decide) rfl (by repeat (first | exact List.Mem.head _ | apply List.Mem.tail)) (by first | rfl | (simp [Value.cells]; done) | (simp [Value.cells]; omega))) rfl ?_
            refine wlx (op_call (f20_spec _ _ _ _ _ A1 (fld bs 30 2) c1) ca20 (by decide) rfl (by apply Give.mk; (repeat (first | exact Takes.nil | exact Take.here | apply Takes.cons | apply Take.there)); repeat (first | exact Reads.nil | (apply Reads.rd; (focus (repeat (first | exact List.Mem.head _ | apply List.Mem.tail)); done)) | (apply Reads.own; (focus (repeat (first | exact List.Mem.head _ | apply List.Mem.tail)); done)) | (apply Reads.rx; (focus (repeat (first | exact List.Mem.head _ | apply List.Mem.tail)); done)) | (apply Reads.rows (e := false); (focus (repeat (first | exact List.Mem.head _ | apply List.Mem.tail)); done)) | (apply Reads.rows (e := true); (focus (repeat (first | exact List.Mem.head _ | apply List.Mem.tail)); done))))) rfl ?_
            rintro _ rfl
            refine wlv (op_neq (by decide) rfl rfl) rfl ?_
            refine WL.nil ?_
            refine WX.regs (L' := [(0, _), (2, _), (6, _), (7, _), (63, _)]) (by repeat (first | exact RS.nil | refine RS.cons rfl ?_)) ?_
            refine WX.next ?_
            refine WC.cond rfl (fun h6 => ?_) (fun h6 => ?_)
            ·
              refine WC.seq ?_
              refine WC.region ?_
              refine wlv (op_build (cs := (pcells 0 0 0 0 0 (.slice none 0 0))) (pv := []) (by decide) rfl (by kernel_rfl)) rfl ?_
              refine wl (op_storeAll sz24 rfl rfl (by repeat (first | exact Take.here | apply Take.there)) (by first | rfl | (simp [Value.cells]; done) | (simp [Value.cells]; omega)) (by first | rfl | exact wvs_one _ | exact bvs_one _) (by first | rfl | (simp [Value.cells]; done) | (simp [Value.cells]; omega))) rfl ?_
              change WL _ _ _ _ _ _ _
              refine wlv (op_assign (by decide) rfl) rfl ?_
              refine WL.nil ?_
              refine WX.nilown 5 1 ?_
              refine WX.regs (L' := [(2, _), (3, _)]) (by repeat (first | exact RS.nil | refine RS.cons rfl ?_)) ?_
              refine WX.next ?_
              refine WC.ret ?_
              refine WX.then_ret ?_
              exact Fin.ret2 (by first | exact .inl rfl | exact .inr rfl) ((none, 0, 0, pt0, 3)) (⟨(dec_bad hm heq (by omega) (.inl (by unfold Pt.chk; rw [decP_len hm (by omega)]; exact h6))).symm, rfl⟩) Try.results25 rfl (.cellN rfl ag24 (by repeat (first | exact List.Mem.head _ | apply List.Mem.tail)) (by first | rfl | (simp [Value.cells]; done) | (simp [Value.cells]; omega))) (.tmp rfl) (by repeat (first | exact Takes.nil | exact Take.here | apply Takes.cons | apply Take.there)) (by simp)
            ·
              refine WC.skip ?_
              refine WX.next ?_
              refine WC.seq ?_
              refine WC.seq ?_
              refine WC.region ?_
              refine wlv (op_move (by decide) rfl) rfl ?_
              refine wlv (op_add (by decide) rfl rfl (by omega)) rfl ?_
              refine wlv (op_assign (by decide) rfl) rfl ?_
              refine WL.nil ?_
              refine WX.regs (L' := [(0, _), (2, _), (7, _), (8, _)]) (by repeat (first | exact RS.nil | refine RS.cons rfl ?_)) ?_
              refine WX.next ?_
              refine WC.block ?_
              refine WC.loop (X := Nat) (fun j => 256 - (32 + (fld bs 30 2) + j)) (fun j => 32 + (fld bs 30 2) + j ≤ 256 ∧ blank ((bs.drop (32 + (fld bs 30 2))).take j) = true) (fun j => [(0, .slice A 256 c), (2, .pointer (some ⟨b1, 0, none⟩)), (7, .pointer (some ⟨b4, 0, none⟩)), (8, .int .i64 ((32 + (fld bs 30 2) + j : Nat) : Int))]) (fun j => [blk b4 (pcells (fld bs 24 2 : Nat) (fld bs 16 4 : Nat) (fld bs 20 4 : Nat) (fld bs 26 2 : Nat) (fld bs 28 2 : Nat) (.slice A1 (fld bs 30 2) c1)) 24, own (.slice A1 (fld bs 30 2) c1) 5 1 (fld bs 30 2) (bvs ((bs.drop 32).take (fld bs 30 2))), blk b1 (pcells 0 0 0 0 0 (.slice none 0 0)) 24, rd (.slice A 256 c) 1 256 (bvs bs), frameC w0 (MutF [])]) (0) (⟨by omega, rfl⟩) (fun a w hs => hs.sub (by repeat (first | exact RS.nil | refine RS.cons (by first | rfl | exact congrArg (fun z : Int => some (Value.int .i64 z)) (by omega)) ?_)) (by repeat (first | exact Takes.nil | exact Take.here | apply Takes.cons | apply Take.there))) ?_
              rintro j ⟨hj, hb⟩
              try dsimp only
              refine WC.seq ?_
              refine WC.seq ?_
              refine WC.region ?_
              refine wlv (op_move (by decide) rfl) rfl ?_
              refine wlv (op_lss (by decide) rfl rfl) rfl ?_
              refine WL.nil ?_
              refine WX.regs (L' := [(0, _), (2, _), (7, _), (8, _), (68, _)]) (by repeat (first | exact RS.nil | refine RS.cons rfl ?_)) ?_
              refine WX.next ?_
              refine WC.cond rfl (fun h7 => ?_) (fun h7 => ?_)
              ·
                refine WC.skip ?_
                refine WX.next ?_
                refine WC.seq ?_
                refine WC.block ?_
                refine WC.seq ?_
                refine WC.region ?_
                refine wlv (op_move (by decide) rfl) rfl ?_
                refine wlv (op_move (by decide) rfl) rfl ?_
                refine wlv (op_index Try.underlying22 sz5 (by decide) rfl rfl (by omega) (by omega) (by decide) (by first | (apply Src.rd; (repeat (first | exact List.Mem.head _ | apply List.Mem.tail)); done) | (apply Src.own; (repeat (first | exact List.Mem.head _ | apply List.Mem.tail)); done) | (apply Src.rx; (repeat (first | exact List.Mem.head _ | apply List.Mem.tail)); done))) rfl ?_
                refine wlv (op_loadS fl5 (by decide) rfl (by first | (apply Src.rd; (repeat (first | exact List.Mem.head _ | apply List.Mem.tail)); done) | (apply Src.own; (repeat (first | exact List.Mem.head _ | apply List.Mem.tail)); done) | (apply Src.rx; (repeat (first | exact List.Mem.head _ | apply List.Mem.tail)); done)) (bvs_at (k := 32 + (fld bs 30 2) + j) (by omega) (by omega))) rfl ?_
                refine wlv (op_neq8 (b := 0) (by decide) rfl rfl) rfl ?_
                refine WL.nil ?_
                refine WX.regs (L' := [(0, _), (2, _), (7, _), (8, _), (75, _)]) (by repeat (first | exact RS.nil | refine RS.cons rfl ?_)) ?_
                refine WX.next ?_
                refine WC.cond rfl (fun h8 => ?_) (fun h8 => ?_)
                ·
                  refine WC.seq ?_
                  refine WC.region ?_
                  refine wlv (op_build (cs := (pcells 0 0 0 0 0 (.slice none 0 0))) (pv := []) (by decide) rfl (by kernel_rfl)) rfl ?_
                  refine wl (op_storeAll sz24 rfl rfl (by repeat (first | exact Take.here | apply Take.there)) (by first | rfl | (simp [Value.cells]; done) | (simp [Value.cells]; omega)) (by first | rfl | exact wvs_one _ | exact bvs_one _) (by first | rfl | (simp [Value.cells]; done) | (simp [Value.cells]; omega))) rfl ?_
                  change WL _ _ _ _ _ _ _
                  refine wlv (op_assign (by decide) rfl) rfl ?_
                  refine WL.nil ?_
                  refine WX.nilown 5 1 ?_
                  refine WX.regs (L' := [(2, _), (3, _)]) (by repeat (first | exact RS.nil | refine RS.cons rfl ?_)) ?_
                  refine WX.next ?_
                  refine WC.ret ?_
                  refine WX.in_ret ?_
                  refine WX.then_ret ?_
                  refine WX.then_ret ?_
                  refine WX.in_ret ?_
                  refine WX.then_ret ?_
                  exact Fin.ret2 (by first | exact .inl rfl | exact .inr rfl) ((none, 0, 0, pt0, 3)) (⟨(dec_bad hm heq (by omega) (.inr (blank_not _ j (by simp; omega) (by rw [getD_drop]; simpa using h8)))).symm, rfl⟩) Try.results25 rfl (.cellN rfl ag24 (by repeat (first | exact List.Mem.head _ | apply List.Mem.tail)) (by first | rfl | (simp [Value.cells]; done) | (simp [Value.cells]; omega))) (.tmp rfl) (by repeat (first | exact Takes.nil | exact Take.here | apply Takes.cons | apply Take.there)) (by simp)
                ·
                  refine WC.skip ?_
                  refine WX.in_normal ?_
                  refine WX.next ?_
                  refine WC.region ?_
                  refine wlv (op_move (by decide) rfl) rfl ?_
                  refine wlv (op_add (by decide) rfl rfl (by omega)) rfl ?_
                  refine wlv (op_assign (by decide) rfl) rfl ?_
                  refine WL.nil ?_
                  refine WX.regs (L' := [(0, _), (2, _), (7, _), (8, _)]) (by repeat (first | exact RS.nil | refine RS.cons rfl ?_)) ?_
                  refine WX.meet (j + 1) ⟨⟨by omega, blank_step _ j (by simp; omega) hb (by rw [getD_drop]; simpa using h8)⟩, by omega⟩ (fun a w hs => hs.sub (by repeat (first | exact RS.nil | refine RS.cons (by first | rfl | exact congrArg (fun z : Int => some (Value.int .i64 z)) (by omega)) ?_)) (by repeat (first | exact Takes.nil | exact Take.here | apply Takes.cons | apply Take.there)))
              ·
                refine WC.exit ?_
                refine WX.then_exit ?_
                refine WX.then_exit ?_
                refine WX.in_hit ?_
                refine WX.next ?_
                refine WC.seq ?_
                refine WC.region ?_
                refine wlv (op_loadAll ag24 (by decide) rfl (by repeat (first | exact List.Mem.head _ | apply List.Mem.tail)) (by first | rfl | (simp [Value.cells]; done) | (simp [Value.cells]; omega))) rfl ?_
                refine wl (op_storeAll sz24 rfl rfl (by repeat (first | exact Take.here | apply Take.there)) (by first | rfl | (simp [Value.cells]; done) | (simp [Value.cells]; omega)) (by first | rfl | exact wvs_one _ | exact bvs_one _) (by first | rfl | (simp [Value.cells]; done) | (simp [Value.cells]; omega))) rfl ?_
                change WL _ _ _ _ _ _ _
                refine wlv (op_assign (by decide) rfl) rfl ?_
                refine WL.nil ?_
                refine WX.regs (L' := [(2, _), (3, _)]) (by repeat (first | exact RS.nil | refine RS.cons rfl ?_)) ?_
                refine WX.next ?_
                refine WC.ret ?_
                have hj3 : 32 + fld bs 30 2 + j = 256 := by omega
                rw [show (bs.drop (32 + fld bs 30 2)).take j = bs.drop (32 + fld bs 30 2) by rw [List.take_of_length_le (by simp; omega)]] at hb
                exact Fin.ret2 (by first | exact .inl rfl | exact .inr rfl) ((A1, c1, (fld bs 30 2), decP bs, 0)) (⟨(dec_ok hm heq (by omega) (by unfold Pt.chk; rw [decP_len hm (by omega)]; exact Decidable.not_not.1 h6) hb).symm, (decP_len hm (by omega)).symm⟩) Try.results25 rfl (.cellN rfl ag24 (by repeat (first | exact List.Mem.head _ | apply List.Mem.tail)) (by first | rfl | (simp [Value.cells]; done) | (simp [Value.cells]; omega))) (.tmp rfl) (by repeat (first | exact Takes.nil | exact Take.here | apply Takes.cons | apply Take.there)) (by simp)
          have st111111111111111111110010 : ∀ (b3 : Nat) (b4 : Nat), W 3 #[true, true, true, true, true, true, true, true, true, true, true, true, true, true, true, true, true, true, true, true, false, false, true, false] 78 [(0, .slice A 256 c), (2, .pointer (some ⟨b1, 0, none⟩)), (6, .int .i64 (((fld bs 30 2) : Nat) : Int)), (7, .pointer (some ⟨b4, 0, none⟩)), (41, .int .i64 ((fld bs 16 4 : Nat) : Int)), (44, .int .i64 ((fld bs 20 4 : Nat) : Int)), (47, .int .i64 ((fld bs 24 2 : Nat) : Int)), (50, .int .i64 ((fld bs 26 2 : Nat) : Int)), (53, .int .i64 ((fld bs 28 2 : Nat) : Int)), (54, .slice (some ⟨b3, 0, none⟩) 0 0), (58, sliced A 32 (32 + (fld bs 30 2)) c 1)] [blk b4 (pcells 0 0 0 0 0 (.slice none 0 0)) 24, own (.slice (some ⟨b3, 0, none⟩) 0 0) 5 1 0 [], rd (.slice A 256 c) 1 256 (bvs bs), rd (sliced A 32 (32 + (fld bs 30 2)) c 1) 1 (32 + (fld bs 30 2) - 32) (bvs ((bs.drop 32).take (32 + (fld bs 30 2) - 32))), rd (sliced A 16 20 c 1) 1 (20 - 16) (bvs ((bs.drop 16).take (20 - 16))), rd (sliced A 20 24 c 1) 1 (24 - 20) (bvs ((bs.drop 20).take (24 - 20))), rd (sliced A 24 26 c 1) 1 (26 - 24) (bvs ((bs.drop 24).take (26 - 24))), rd (sliced A 26 28 c 1) 1 (28 - 26) (bvs ((bs.drop 26).take (28 - 26))), rd (sliced A 28 30 c 1) 1 (30 - 28) (bvs ((bs.drop 28).take (30 - 28))), rd (sliced A 30 32 c 1) 1 (32 - 30) (bvs ((bs.drop 30).take (32 - 30))), blk b2 (bvs (sha (bs.drop 16))) 108, blk b1 (pcells 0 0 0 0 0 (.slice none 0 0)) 24, frameC w0 (MutF [])] := by
            intro b3 b4
            subst hW
            refine WA.pick (l := [20]) (by kernel_rfl) rfl (fun i hi => ?_)
            simp only [List.mem_cons, List.not_mem_nil, or_false] at hi
            subst hi
            ·
              refine WA.one2 rfl rfl (op_append0 Try.underlying22 ti5 rfl (by decide) (by decide) rfl rfl (by repeat (first | exact Take.here | apply Take.there)) (by first | (apply Src.rd; (repeat (first | exact List.Mem.head _ | apply List.Mem.tail)); done) | (apply Src.own; (repeat (first | exact List.Mem.head _ | apply List.Mem.tail)); done) | (apply Src.rx; (repeat (first | exact List.Mem.head _ | apply List.Mem.tail)); done)) (by first | rfl | exact wvs_one _ | exact bvs_one _) (by omega) (by omega)) (fun _ A c => (by repeat (first | exact Takes.nil | exact Take.here | apply Takes.cons | apply Take.there))) fun A1 c1 => ?_
              exact WA.conv (by first | rfl | kernel_rfl) (by repeat (first | exact RS.nil | refine RS.cons rfl ?_)) (by repeat (first | exact Takes.nil | exact Take.here | apply Takes.cons | apply Take.there)) (st111111111111111111111010 b3 A1 c1 b4)
          have st111111111111111111110000 : ∀ (b3 : Nat), W 4 #[true, true, true, true, true, true, true, true, true, true, true, true, true, true, true, true, true, true, true, true, false, false, false, false] 78 [(0, .slice A 256 c), (2, .pointer (some ⟨b1, 0, none⟩)), (6, .int .i64 (((fld bs 30 2) : Nat) : Int)), (41, .int .i64 ((fld bs 16 4 : Nat) : Int)), (44, .int .i64 ((fld bs 20 4 : Nat) : Int)), (47, .int .i64 ((fld bs 24 2 : Nat) : Int)), (50, .int .i64 ((fld bs 26 2 : Nat) : Int)), (53, .int .i64 ((fld bs 28 2 : Nat) : Int)), (54, .slice (some ⟨b3, 0, none⟩) 0 0), (58, sliced A 32 (32 + (fld bs 30 2)) c 1)] [own (.slice (some ⟨b3, 0, none⟩) 0 0) 5 1 0 [], rd (.slice A 256 c) 1 256 (bvs bs), rd (sliced A 32 (32 + (fld bs 30 2)) c 1) 1 (32 + (fld bs 30 2) - 32) (bvs ((bs.drop 32).take (32 + (fld bs 30 2) - 32))), rd (sliced A 16 20 c 1) 1 (20 - 16) (bvs ((bs.drop 16).take (20 - 16))), rd (sliced A 20 24 c 1) 1 (24 - 20) (bvs ((bs.drop 20).take (24 - 20))), rd (sliced A 24 26 c 1) 1 (26 - 24) (bvs ((bs.drop 24).take (26 - 24))), rd (sliced A 26 28 c 1) 1 (28 - 26) (bvs ((bs.drop 26).take (28 - 26))), rd (sliced A 28 30 c 1) 1 (30 - 28) (bvs ((bs.drop 28).take (30 - 28))), rd (sliced A 30 32 c 1) 1 (32 - 30) (bvs ((bs.drop 30).take (32 - 30))), blk b2 (bvs (sha (bs.drop 16))) 108, blk b1 (pcells 0 0 0 0 0 (.slice none 0 0)) 24, frameC w0 (MutF [])] := by
            intro b3
            subst hW
            refine WA.pick (l := [20, 22]) (by kernel_rfl) rfl (fun i hi => ?_)
            simp only [List.mem_cons, List.not_mem_nil, or_false] at hi
            rcases hi with rfl | rfl
            ·
              refine WA.one2 rfl rfl (op_append0 Try.underlying22 ti5 rfl (by decide) (by decide) rfl rfl (by repeat (first | exact Take.here | apply Take.there)) (by first | (apply Src.rd; (repeat (first | exact List.Mem.head _ | apply List.Mem.tail)); done) | (apply Src.own; (repeat (first | exact List.Mem.head _ | apply List.Mem.tail)); done) | (apply Src.rx; (repeat (first | exact List.Mem.head _ | apply List.Mem.tail)); done)) (by first | rfl | exact wvs_one _ | exact bvs_one _) (by omega) (by omega)) (fun _ A c => (by repeat (first | exact Takes.nil | exact Take.here | apply Takes.cons | apply Take.there))) fun A1 c1 => ?_
              exact WA.conv (by first | rfl | kernel_rfl) (by repeat (first | exact RS.nil | refine RS.cons rfl ?_)) (by repeat (first | exact Takes.nil | exact Take.here | apply Takes.cons | apply Take.there)) (st111111111111111111111000 b3 A1 c1)
            ·
              refine WA.one1 rfl rfl (op_alloc ti24 (by decide)) (fun _ b => (by repeat (first | exact Takes.nil | exact Take.here | apply Takes.cons | apply Take.there))) fun b4 => ?_
              exact WA.conv (by first | rfl | kernel_rfl) (by repeat (first | exact RS.nil | refine RS.cons rfl ?_)) (by repeat (first | exact Takes.nil | exact Take.here | apply Takes.cons | apply Take.there)) (st111111111111111111110010 b3 b4)
          have st111111111111111011110010 : ∀ (b4 : Nat), W 4 #[true, true, true, true, true, true, true, true, true, true, true, true, true, true, true, false, true, true, true, true, false, false, true, false] 78 [(0, .slice A 256 c), (2, .pointer (some ⟨b1, 0, none⟩)), (6, .int .i64 (((fld bs 30 2) : Nat) : Int)), (7, .pointer (some ⟨b4, 0, none⟩)), (41, .int .i64 ((fld bs 16 4 : Nat) : Int)), (44, .int .i64 ((fld bs 20 4 : Nat) : Int)), (47, .int .i64 ((fld bs 24 2 : Nat) : Int)), (50, .int .i64 ((fld bs 26 2 : Nat) : Int)), (53, .int .i64 ((fld bs 28 2 : Nat) : Int)), (58, sliced A 32 (32 + (fld bs 30 2)) c 1)] [blk b4 (pcells 0 0 0 0 0 (.slice none 0 0)) 24, rd (.slice A 256 c) 1 256 (bvs bs), rd (sliced A 32 (32 + (fld bs 30 2)) c 1) 1 (32 + (fld bs 30 2) - 32) (bvs ((bs.drop 32).take (32 + (fld bs 30 2) - 32))), rd (sliced A 16 20 c 1) 1 (20 - 16) (bvs ((bs.drop 16).take (20 - 16))), rd (sliced A 20 24 c 1) 1 (24 - 20) (bvs ((bs.drop 20).take (24 - 20))), rd (sliced A 24 26 c 1) 1 (26 - 24) (bvs ((bs.drop 24).take (26 - 24))), rd (sliced A 26 28 c 1) 1 (28 - 26) (bvs ((bs.drop 26).take (28 - 26))), rd (sliced A 28 30 c 1) 1 (30 - 28) (bvs ((bs.drop 28).take (30 - 28))), rd (sliced A 30 32 c 1) 1 (32 - 30) (bvs ((bs.drop 30).take (32 - 30))), blk b2 (bvs (sha (bs.drop 16))) 108, blk b1 (pcells 0 0 0 0 0 (.slice none 0 0)) 24, frameC w0 (MutF [])] := by
            intro b4
            subst hW
            refine WA.pick (l := [15]) (by kernel_rfl) rfl (fun i hi => ?_)
            simp only [List.mem_cons, List.not_mem_nil, or_false] at hi
            subst hi
            ·
              refine WA.one1 rfl rfl (op_lit0 Try.underlying22 ti5 (by decide)) (fun _ b => (by repeat (first | exact Takes.nil | exact Take.here | apply Takes.cons | apply Take.there))) fun b3 => ?_
              exact WA.conv (by first | rfl | kernel_rfl) (by repeat (first | exact RS.nil | refine RS.cons rfl ?_)) (by repeat (first | exact Takes.nil | exact Take.here | apply Takes.cons | apply Take.there)) (st111111111111111111110010 b3 b4)
          have st111111111111111011110000 : ∀ (_u : Unit), W 5 #[true, true, true, true, true, true, true, true, true, true, true, true, true, true, true, false, true, true, true, true, false, false, false, false] 78 [(0, .slice A 256 c), (2, .pointer (some ⟨b1, 0, none⟩)), (6, .int .i64 (((fld bs 30 2) : Nat) : Int)), (41, .int .i64 ((fld bs 16 4 : Nat) : Int)), (44, .int .i64 ((fld bs 20 4 : Nat) : Int)), (47, .int .i64 ((fld bs 24 2 : Nat) : Int)), (50, .int .i64 ((fld bs 26 2 : Nat) : Int)), (53, .int .i64 ((fld bs 28 2 : Nat) : Int)), (58, sliced A 32 (32 + (fld bs 30 2)) c 1)] [rd (.slice A 256 c) 1 256 (bvs bs), rd (sliced A 32 (32 + (fld bs 30 2)) c 1) 1 (32 + (fld bs 30 2) - 32) (bvs ((bs.drop 32).take (32 + (fld bs 30 2) - 32))), rd (sliced A 16 20 c 1) 1 (20 - 16) (bvs ((bs.drop 16).take (20 - 16))), rd (sliced A 20 24 c 1) 1 (24 - 20) (bvs ((bs.drop 20).take (24 - 20))), rd (sliced A 24 26 c 1) 1 (26 - 24) (bvs ((bs.drop 24).take (26 - 24))), rd (sliced A 26 28 c 1) 1 (28 - 26) (bvs ((bs.drop 26).take (28 - 26))), rd (sliced A 28 30 c 1) 1 (30 - 28) (bvs ((bs.drop 28).take (30 - 28))), rd (sliced A 30 32 c 1) 1 (32 - 30) (bvs ((bs.drop 30).take (32 - 30))), blk b2 (bvs (sha (bs.drop 16))) 108, blk b1 (pcells 0 0 0 0 0 (.slice none 0 0)) 24, frameC w0 (MutF [])] := by
            intro _u
            subst hW
            refine WA.pick (l := [15, 22]) (by kernel_rfl) rfl (fun i hi => ?_)
            simp only [List.mem_cons, List.not_mem_nil, or_false] at hi
            rcases hi with rfl | rfl
            ·
              refine WA.one1 rfl rfl (op_lit0 Try.underlying22 ti5 (by decide)) (fun _ b => (by repeat (first | exact Takes.nil | exact Take.here | apply Takes.cons | apply Take.there))) fun b3 => ?_
              exact WA.conv (by first | rfl | kernel_rfl) (by repeat (first | exact RS.nil | refine RS.cons rfl ?_)) (by repeat (first | exact Takes.nil | exact Take.here | apply Takes.cons | apply Take.there)) (st111111111111111111110000 b3)
            ·
              refine WA.one1 rfl rfl (op_alloc ti24 (by decide)) (fun _ b => (by repeat (first | exact Takes.nil | exact Take.here | apply Takes.cons | apply Take.there))) fun b4 => ?_
              exact WA.conv (by first | rfl | kernel_rfl) (by repeat (first | exact RS.nil | refine RS.cons rfl ?_)) (by repeat (first | exact Takes.nil | exact Take.here | apply Takes.cons | apply Take.there)) (st111111111111111011110010 b4)
          have st111111111111110111110010 : ∀ (b3 : Nat) (b4 : Nat), W 4 #[true, true, true, true, true, true, true, true, true, true, true, true, true, true, false, true, true, true, true, true, false, false, true, false] 78 [(0, .slice A 256 c), (2, .pointer (some ⟨b1, 0, none⟩)), (6, .int .i64 (((fld bs 30 2) : Nat) : Int)), (7, .pointer (some ⟨b4, 0, none⟩)), (41, .int .i64 ((fld bs 16 4 : Nat) : Int)), (44, .int .i64 ((fld bs 20 4 : Nat) : Int)), (47, .int .i64 ((fld bs 24 2 : Nat) : Int)), (50, .int .i64 ((fld bs 26 2 : Nat) : Int)), (52, sliced A 28 30 c 1), (54, .slice (some ⟨b3, 0, none⟩) 0 0), (58, sliced A 32 (32 + (fld bs 30 2)) c 1)] [blk b4 (pcells 0 0 0 0 0 (.slice none 0 0)) 24, own (.slice (some ⟨b3, 0, none⟩) 0 0) 5 1 0 [], rd (.slice A 256 c) 1 256 (bvs bs), rd (sliced A 32 (32 + (fld bs 30 2)) c 1) 1 (32 + (fld bs 30 2) - 32) (bvs ((bs.drop 32).take (32 + (fld bs 30 2) - 32))), rd (sliced A 16 20 c 1) 1 (20 - 16) (bvs ((bs.drop 16).take (20 - 16))), rd (sliced A 20 24 c 1) 1 (24 - 20) (bvs ((bs.drop 20).take (24 - 20))), rd (sliced A 24 26 c 1) 1 (26 - 24) (bvs ((bs.drop 24).take (26 - 24))), rd (sliced A 26 28 c 1) 1 (28 - 26) (bvs ((bs.drop 26).take (28 - 26))), rd (sliced A 28 30 c 1) 1 (30 - 28) (bvs ((bs.drop 28).take (30 - 28))), rd (sliced A 30 32 c 1) 1 (32 - 30) (bvs ((bs.drop 30).take (32 - 30))), blk b2 (bvs (sha (bs.drop 16))) 108, blk b1 (pcells 0 0 0 0 0 (.slice none 0 0)) 24, frameC w0 (MutF [])] := by
            intro b3 b4
            subst hW
            refine WA.pick (l := [14]) (by kernel_rfl) rfl (fun i hi => ?_)
            simp only [List.mem_cons, List.not_mem_nil, or_false] at hi
            subst hi
            ·
              refine WA.onex rfl rfl (op_call (f57_spec _ 2 _ ((bs.drop 28).take 2) (by simp; omega) (by decide)) ca57 (by decide) rfl (by apply Give.mk; (repeat (first | exact Takes.nil | exact Take.here | apply Takes.cons | apply Take.there)); repeat (first | exact Reads.nil | (apply Reads.rd; (focus (repeat (first | exact List.Mem.head _ | apply List.Mem.tail)); done)) | (apply Reads.own; (focus (repeat (first | exact List.Mem.head _ | apply List.Mem.tail)); done)) | (apply Reads.rx; (focus (repeat (first | exact List.Mem.head _ | apply List.Mem.tail)); done)) | (apply Reads.rows (e := false); (focus (repeat (first | exact List.Mem.head _ | apply List.Mem.tail)); done)) | (apply Reads.rows (e := true); (focus (repeat (first | exact List.Mem.head _ | apply List.Mem.tail)); done))))) (fun _ r => (by repeat (first | exact Takes.nil | exact Take.here | apply Takes.cons | apply Take.there))) ?_
              rintro _ _
              exact WA.conv (by first | rfl | kernel_rfl) (by repeat (first | exact RS.nil | refine RS.cons rfl ?_)) (by repeat (first | exact Takes.nil | exact Take.here | apply Takes.cons | apply Take.there)) (st111111111111111111110010 b3 b4)
          have st111111111111110111110000 : ∀ (b3 : Nat), W 5 #[true, true, true, true, true, true, true, true, true, true, true, true, true, true, false, true, true, true, true, true, false, false, false, false] 78 [(0, .slice A 256 c), (2, .pointer (some ⟨b1, 0, none⟩)), (6, .int .i64 (((fld bs 30 2) : Nat) : Int)), (41, .int .i64 ((fld bs 16 4 : Nat) : Int)), (44, .int .i64 ((fld bs 20 4 : Nat) : Int)), (47, .int .i64 ((fld bs 24 2 : Nat) : Int)), (50, .int .i64 ((fld bs 26 2 : Nat) : Int)), (52, sliced A 28 30 c 1), (54, .slice (some ⟨b3, 0, none⟩) 0 0), (58, sliced A 32 (32 + (fld bs 30 2)) c 1)] [own (.slice (some ⟨b3, 0, none⟩) 0 0) 5 1 0 [], rd (.slice A 256 c) 1 256 (bvs bs), rd (sliced A 32 (32 + (fld bs 30 2)) c 1) 1 (32 + (fld bs 30 2) - 32) (bvs ((bs.drop 32).take (32 + (fld bs 30 2) - 32))), rd (sliced A 16 20 c 1) 1 (20 - 16) (bvs ((bs.drop 16).take (20 - 16))), rd (sliced A 20 24 c 1) 1 (24 - 20) (bvs ((bs.drop 20).take (24 - 20))), rd (sliced A 24 26 c 1) 1 (26 - 24) (bvs ((bs.drop 24).take (26 - 24))), rd (sliced A 26 28 c 1) 1 (28 - 26) (bvs ((bs.drop 26).take (28 - 26))), rd (sliced A 28 30 c 1) 1 (30 - 28) (bvs ((bs.drop 28).take (30 - 28))), rd (sliced A 30 32 c 1) 1 (32 - 30) (bvs ((bs.drop 30).take (32 - 30))), blk b2 (bvs (sha (bs.drop 16))) 108, blk b1 (pcells 0 0 0 0 0 (.slice none 0 0)) 24, frameC w0 (MutF [])] := by
            intro b3
            subst hW
            refine WA.pick (l := [14, 22]) (by kernel_rfl) rfl (fun i hi => ?_)
            simp only [List.mem_cons, List.not_mem_nil, or_false] at hi
            rcases hi with rfl | rfl
            ·
              refine WA.onex rfl rfl (op_call (f57_spec _ 2 _ ((bs.drop 28).take 2) (by simp; omega) (by decide)) ca57 (by decide) rfl (by apply Give.mk; (repeat (first | exact Takes.nil | exact Take.here | apply Takes.cons | apply Take.there)); repeat (first | exact Reads.nil | (apply Reads.rd; (focus (repeat (first | exact List.Mem.head _ | apply List.Mem.tail)); done)) | (apply Reads.own; (focus (repeat (first | exact List.Mem.head _ | apply List.Mem.tail)); done)) | (apply Reads.rx; (focus (repeat (first | exact List.Mem.head _ | apply List.Mem.tail)); done)) | (apply Reads.rows (e := false); (focus (repeat (first | exact List.Mem.head _ | apply List.Mem.tail)); done)) | (apply Reads.rows (e := true); (focus (repeat (first | exact List.Mem.head _ | apply List.Mem.tail)); done))))) (fun _ r => (by repeat (first | exact Takes.nil | exact Take.here | apply Takes.cons | apply Take.there))) ?_
              rintro _ _
              exact WA.conv (by first | rfl | kernel_rfl) (by repeat (first | exact RS.nil | refine RS.cons rfl ?_)) (by repeat (first | exact Takes.nil | exact Take.here | apply Takes.cons | apply Take.there)) (st111111111111111111110000 b3)
            ·
              refine WA.one1 rfl rfl (op_alloc ti24 (by decide)) (fun _ b => (by repeat (first | exact Takes.nil | exact Take.here | apply Takes.cons | apply Take.there))) fun b4 => ?_
              exact WA.conv (by first | rfl | kernel_rfl) (by repeat (first | exact RS.nil | refine RS.cons rfl ?_)) (by repeat (first | exact Takes.nil | exact Take.here | apply Takes.cons | apply Take.there)) (st111111111111110111110010 b3 b4)
          have st111111111111110011110010 : ∀ (b4 : Nat), W 5 #[true, true, true, true, true, true, true, true, true, true, true, true, true, true, false, false, true, true, true, true, false, false, true, false] 78 [(0, .slice A 256 c), (2, .pointer (some ⟨b1, 0, none⟩)), (6, .int .i64 (((fld bs 30 2) : Nat) : Int)), (7, .pointer (some ⟨b4, 0, none⟩)), (41, .int .i64 ((fld bs 16 4 : Nat) : Int)), (44, .int .i64 ((fld bs 20 4 : Nat) : Int)), (47, .int .i64 ((fld bs 24 2 : Nat) : Int)), (50, .int .i64 ((fld bs 26 2 : Nat) : Int)), (52, sliced A 28 30 c 1), (58, sliced A 32 (32 + (fld bs 30 2)) c 1)] [blk b4 (pcells 0 0 0 0 0 (.slice none 0 0)) 24, rd (.slice A 256 c) 1 256 (bvs bs), rd (sliced A 32 (32 + (fld bs 30 2)) c 1) 1 (32 + (fld bs 30 2) - 32) (bvs ((bs.drop 32).take (32 + (fld bs 30 2) - 32))), rd (sliced A 16 20 c 1) 1 (20 - 16) (bvs ((bs.drop 16).take (20 - 16))), rd (sliced A 20 24 c 1) 1 (24 - 20) (bvs ((bs.drop 20).take (24 - 20))), rd (sliced A 24 26 c 1) 1 (26 - 24) (bvs ((bs.drop 24).take (26 - 24))), rd (sliced A 26 28 c 1) 1 (28 - 26) (bvs ((bs.drop 26).take (28 - 26))), rd (sliced A 28 30 c 1) 1 (30 - 28) (bvs ((bs.drop 28).take (30 - 28))), rd (sliced A 30 32 c 1) 1 (32 - 30) (bvs ((bs.drop 30).take (32 - 30))), blk b2 (bvs (sha (bs.drop 16))) 108, blk b1 (pcells 0 0 0 0 0 (.slice none 0 0)) 24, frameC w0 (MutF [])] := by
            intro b4
            subst hW
            refine WA.pick (l := [14, 15]) (by kernel_rfl) rfl (fun i hi => ?_)
            simp only [List.mem_cons, List.not_mem_nil, or_false] at hi
            rcases hi with rfl | rfl
            ·
              refine WA.onex rfl rfl (op_call (f57_spec _ 2 _ ((bs.drop 28).take 2) (by simp; omega) (by decide)) ca57 (by decide) rfl (by apply Give.mk; (repeat (first | exact Takes.nil | exact Take.here | apply Takes.cons | apply Take.there)); repeat (first | exact Reads.nil | (apply Reads.rd; (focus (repeat (first | exact List.Mem.head _ | apply List.Mem.tail)); done)) | (apply Reads.own; (focus (repeat (first | exact List.Mem.head _ | apply List.Mem.tail)); done)) | (apply Reads.rx; (focus (repeat (first | exact List.Mem.head _ | apply List.Mem.tail)); done)) | (apply Reads.rows (e := false); (focus (repeat (first | exact List.Mem.head _ | apply List.Mem.tail)); done)) | (apply Reads.rows (e := true); (focus (repeat (first | exact List.Mem.head _ | apply List.Mem.tail)); done))))) (fun _ r => (by repeat (first | exact Takes.nil | exact Take.here | apply Takes.cons | apply Take.there))) ?_
              rintro _ _
              exact WA.conv (by first | rfl | kernel_rfl) (by repeat (first | exact RS.nil | refine RS.cons rfl ?_)) (by repeat (first | exact Takes.nil | exact Take.here | apply Takes.cons | apply Take.there)) (st111111111111111011110010 b4)
            ·
              refine WA.one1 rfl rfl (op_lit0 Try.underlying22 ti5 (by decide)) (fun _ b => (by repeat (first | exact Takes.nil | exact Take.here | apply Takes.cons | apply Take.there))) fun b3 => ?_
              exact WA.conv (by first | rfl | kernel_rfl) (by repeat (first | exact RS.nil | refine RS.cons rfl ?_)) (by repeat (first | exact Takes.nil | exact Take.here | apply Takes.cons | apply Take.there)) (st111111111111110111110010 b3 b4)
          have st111111111111110011110000 : ∀ (_u : Unit), W 6 #[true, true, true, true, true, true, true, true, true, true, true, true, true, true, false, false, true, true, true, true, false, false, false, false] 78 [(0, .slice A 256 c), (2, .pointer (some ⟨b1, 0, none⟩)), (6, .int .i64 (((fld bs 30 2) : Nat) : Int)), (41, .int .i64 ((fld bs 16 4 : Nat) : Int)), (44, .int .i64 ((fld bs 20 4 : Nat) : Int)), (47, .int .i64 ((fld bs 24 2 : Nat) : Int)), (50, .int .i64 ((fld bs 26 2 : Nat) : Int)), (52, sliced A 28 30 c 1), (58, sliced A 32 (32 + (fld bs 30 2)) c 1)] [rd (.slice A 256 c) 1 256 (bvs bs), rd (sliced A 32 (32 + (fld bs 30 2)) c 1) 1 (32 + (fld bs 30 2) - 32) (bvs ((bs.drop 32).take (32 + (fld bs 30 2) - 32))), rd (sliced A 16 20 c 1) 1 (20 - 16) (bvs ((bs.drop 16).take (20 - 16))), rd (sliced A 20 24 c 1) 1 (24 - 20) (bvs ((bs.drop 20).take (24 - 20))), rd (sliced A 24 26 c 1) 1 (26 - 24) (bvs ((bs.drop 24).take (26 - 24))), rd (sliced A 26 28 c 1) 1 (28 - 26) (bvs ((bs.drop 26).take (28 - 26))), rd (sliced A 28 30 c 1) 1 (30 - 28) (bvs ((bs.drop 28).take (30 - 28))), rd (sliced A 30 32 c 1) 1 (32 - 30) (bvs ((bs.drop 30).take (32 - 30))), blk b2 (bvs (sha (bs.drop 16))) 108, blk b1 (pcells 0 0 0 0 0 (.slice none 0 0)) 24, frameC w0 (MutF [])] := by
            intro _u
            subst hW
            refine WA.pick (l := [14, 15, 22]) (by kernel_rfl) rfl (fun i hi => ?_)
            simp only [List.mem_cons, List.not_mem_nil, or_false] at hi
            rcases hi with rfl | rfl | rfl
            ·
              refine WA.onex rfl rfl (op_call (f57_spec _ 2 _ ((bs.drop 28).take 2) (by simp; omega) (by decide)) ca57 (by decide) rfl (by apply Give.mk; (repeat (first | exact Takes.nil | exact Take.here | apply Takes.cons | apply Take.there)); repeat (first | exact Reads.nil | (apply Reads.rd; (focus (repeat (first | exact List.Mem.head _ | apply List.Mem.tail)); done)) | (apply Reads.own; (focus (repeat (first | exact List.Mem.head _ | apply List.Mem.tail)); done)) | (apply Reads.rx; (focus (repeat (first | exact List.Mem.head _ | apply List.Mem.tail)); done)) | (apply Reads.rows (e := false); (focus (repeat (first | exact List.Mem.head _ | apply List.Mem.tail)); done)) | (apply Reads.rows (e := true); (focus (repeat (first | exact List.Mem.head _ | apply List.Mem.tail)); done))))) (fun _ r => (by repeat (first | exact Takes.nil | exact Take.here | apply Takes.cons | apply Take.there))) ?_
              rintro _ _
              exact WA.conv (by first | rfl | kernel_rfl) (by repeat (first | exact RS.nil | refine RS.cons rfl ?_)) (by repeat (first | exact Takes.nil | exact Take.here | apply Takes.cons | apply Take.there)) (st111111111111111011110000 ())
            ·
              refine WA.one1 rfl rfl (op_lit0 Try.underlying22 ti5 (by decide)) (fun _ b => (by repeat (first | exact Takes.nil | exact Take.here | apply Takes.cons | apply Take.there))) fun b3 => ?_
              exact WA.conv (by first | rfl | kernel_rfl) (by repeat (first | exact RS.nil | refine RS.cons rfl ?_)) (by repeat (first | exact Takes.nil | exact Take.here | apply Takes.cons | apply Take.there)) (st111111111111110111110000 b3)
            ·
              refine WA.one1 rfl rfl (op_alloc ti24 (by decide)) (fun _ b => (by repeat (first | exact Takes.nil | exact Take.here | apply Takes.cons | apply Take.there))) fun b4 => ?_
              exact WA.conv (by first | rfl | kernel_rfl) (by repeat (first | exact RS.nil | refine RS.cons rfl ?_)) (by repeat (first | exact Takes.nil | exact Take.here | apply Takes.cons | apply Take.there)) (st111111111111110011110010 b4)
          have st111111111110110111110010 : ∀ (b3 : Nat) (b4 : Nat), W 5 #[true, true, true, true, true, true, true, true, true, true, true, false, true, true, false, true, true, true, true, true, false, false, true, false] 78 [(0, .slice A 256 c), (2, .pointer (some ⟨b1, 0, none⟩)), (6, .int .i64 (((fld bs 30 2) : Nat) : Int)), (7, .pointer (some ⟨b4, 0, none⟩)), (41, .int .i64 ((fld bs 16 4 : Nat) : Int)), (44, .int .i64 ((fld bs 20 4 : Nat) : Int)), (47, .int .i64 ((fld bs 24 2 : Nat) : Int)), (49, sliced A 26 28 c 1), (52, sliced A 28 30 c 1), (54, .slice (some ⟨b3, 0, none⟩) 0 0), (58, sliced A 32 (32 + (fld bs 30 2)) c 1)] [blk b4 (pcells 0 0 0 0 0 (.slice none 0 0)) 24, own (.slice (some ⟨b3, 0, none⟩) 0 0) 5 1 0 [], rd (.slice A 256 c) 1 256 (bvs bs), rd (sliced A 32 (32 + (fld bs 30 2)) c 1) 1 (32 + (fld bs 30 2) - 32) (bvs ((bs.drop 32).take (32 + (fld bs 30 2) - 32))), rd (sliced A 16 20 c 1) 1 (20 - 16) (bvs ((bs.drop 16).take (20 - 16))), rd (sliced A 20 24 c 1) 1 (24 - 20) (bvs ((bs.drop 20).take (24 - 20))), rd (sliced A 24 26 c 1) 1 (26 - 24) (bvs ((bs.drop 24).take (26 - 24))), rd (sliced A 26 28 c 1) 1 (28 - 26) (bvs ((bs.drop 26).take (28 - 26))), rd (sliced A 28 30 c 1) 1 (30 - 28) (bvs ((bs.drop 28).take (30 - 28))), rd (sliced A 30 32 c 1) 1 (32 - 30) (bvs ((bs.drop 30).take (32 - 30))), blk b2 (bvs (sha (bs.drop 16))) 108, blk b1 (pcells 0 0 0 0 0 (.slice none 0 0)) 24, frameC w0 (MutF [])] := by
            intro b3 b4
            subst hW
            refine WA.pick (l := [11]) (by kernel_rfl) rfl (fun i hi => ?_)
            simp only [List.mem_cons, List.not_mem_nil, or_false] at hi
            subst hi
            ·
              refine WA.onex rfl rfl (op_call (f57_spec _ 2 _ ((bs.drop 26).take 2) (by simp; omega) (by decide)) ca57 (by decide) rfl (by apply Give.mk; (repeat (first | exact Takes.nil | exact Take.here | apply Takes.cons | apply Take.there)); repeat (first | exact Reads.nil | (apply Reads.rd; (focus (repeat (first | exact List.Mem.head _ | apply List.Mem.tail)); done)) | (apply Reads.own; (focus (repeat (first | exact List.Mem.head _ | apply List.Mem.tail)); done)) | (apply Reads.rx; (focus (repeat (first | exact List.Mem.head _ | apply List.Mem.tail)); done)) | (apply Reads.rows (e := false); (focus (repeat (first | exact List.Mem.head _ | apply List.Mem.tail)); done)) | (apply Reads.rows (e := true); (focus (repeat (first | exact List.Mem.head _ | apply List.Mem.tail)); done))))) (fun _ r => (by repeat (first | exact Takes.nil | exact Take.here | apply Takes.cons | apply Take.there))) ?_
              rintro _ _
              exact WA.conv (by first | rfl | kernel_rfl) (by repeat (first | exact RS.nil | refine RS.cons rfl ?_)) (by repeat (first | exact Takes.nil | exact Take.here | apply Takes.cons | apply Take.there)) (st111111111111110111110010 b3 b4)
          have st111111111110110111110000 : ∀ (b3 : Nat), W 6 #[true, true, true, true, true, true, true, true, true, true, true, false, true, true, false, true, true, true, true, true, false, false, false, false] 78 [(0, .slice A 256 c), (2, .pointer (some ⟨b1, 0, none⟩)), (6, .int .i64 (((fld bs 30 2) : Nat) : Int)), (41, .int .i64 ((fld bs 16 4 : Nat) : Int)), (44, .int .i64 ((fld bs 20 4 : Nat) : Int)), (47, .int .i64 ((fld bs 24 2 : Nat) : Int)), (49, sliced A 26 28 c 1), (52, sliced A 28 30 c 1), (54, .slice (some ⟨b3, 0, none⟩) 0 0), (58, sliced A 32 (32 + (fld bs 30 2)) c 1)] [own (.slice (some ⟨b3, 0, none⟩) 0 0) 5 1 0 [], rd (.slice A 256 c) 1 256 (bvs bs), rd (sliced A 32 (32 + (fld bs 30 2)) c 1) 1 (32 + (fld bs 30 2) - 32) (bvs ((bs.drop 32).take (32 + (fld bs 30 2) - 32))), rd (sliced A 16 20 c 1) 1 (20 - 16) (bvs ((bs.drop 16).take (20 - 16))), rd (sliced A 20 24 c 1) 1 (24 - 20) (bvs ((bs.drop 20).take (24 - 20))), rd (sliced A 24 26 c 1) 1 (26 - 24) (bvs ((bs.drop 24).take (26 - 24))), rd (sliced A 26 28 c 1) 1 (28 - 26) (bvs ((bs.drop 26).take (28 - 26))), rd (sliced A 28 30 c 1) 1 (30 - 28) (bvs ((bs.drop 28).take (30 - 28))), rd (sliced A 30 32 c 1) 1 (32 - 30) (bvs ((bs.drop 30).take (32 - 30))), blk b2 (bvs (sha (bs.drop 16))) 108, blk b1 (pcells 0 0 0 0 0 (.slice none 0 0)) 24, frameC w0 (MutF [])] := by
            intro b3
            subst hW
            refine WA.pick (l := [11, 22]) (by kernel_rfl) rfl (fun i hi => ?_)
            simp only [List.mem_cons, List.not_mem_nil, or_false] at hi
            rcases hi with rfl | rfl
            ·
              refine WA.onex rfl rfl (op_call (f57_spec _ 2 _ ((bs.drop 26).take 2) (by simp; omega) (by decide)) ca57 (by decide) rfl (by apply Give.mk; (repeat (first | exact Takes.nil | exact Take.here | apply Takes.cons | apply Take.there)); repeat (first | exact Reads.nil | (apply Reads.rd; (focus (repeat (first | exact List.Mem.head _ | apply List.Mem.tail)); done)) | (apply Reads.own; (focus (repeat (first | exact List.Mem.head _ | apply List.Mem.tail)); done)) | (apply Reads.rx; (focus (repeat (first | exact List.Mem.head _ | apply List.Mem.tail)); done)) | (apply Reads.rows (e := false); (focus (repeat (first | exact List.Mem.head _ | apply List.Mem.tail)); done)) | (apply Reads.rows (e := true); (focus (repeat (first | exact List.Mem.head _ | apply List.Mem.tail)); done))))) (fun _ r => (by repeat (first | exact Takes.nil | exact Take.here | apply Takes.cons | apply Take.there))) ?_
              rintro _ _
              exact WA.conv (by first | rfl | kernel_rfl) (by repeat (first | exact RS.nil | refine RS.cons rfl ?_)) (by repeat (first | exact Takes.nil | exact Take.here | apply Takes.cons | apply Take.there)) (st111111111111110111110000 b3)
            ·
              refine WA.one1 rfl rfl (op_alloc ti24 (by decide)) (fun _ b => (by repeat (first | exact Takes.nil | exact Take.here | apply Takes.cons | apply Take.there))) fun b4 => ?_
              exact WA.conv (by first | rfl | kernel_rfl) (by repeat (first | exact RS.nil | refine RS.cons rfl ?_)) (by repeat (first | exact Takes.nil | exact Take.here | apply Takes.cons | apply Take.there)) (st111111111110110111110010 b3 b4)
          have st111111111110110011110010 : ∀ (b4 : Nat), W 6 #[true, true, true, true, true, true, true, true, true, true, true, false, true, true, false, false, true, true, true, true, false, false, true, false] 78 [(0, .slice A 256 c), (2, .pointer (some ⟨b1, 0, none⟩)), (6, .int .i64 (((fld bs 30 2) : Nat) : Int)), (7, .pointer (some ⟨b4, 0, none⟩)), (41, .int .i64 ((fld bs 16 4 : Nat) : Int)), (44, .int .i64 ((fld bs 20 4 : Nat) : Int)), (47, .int .i64 ((fld bs 24 2 : Nat) : Int)), (49, sliced A 26 28 c 1), (52, sliced A 28 30 c 1), (58, sliced A 32 (32 + (fld bs 30 2)) c 1)] [blk b4 (pcells 0 0 0 0 0 (.slice none 0 0)) 24, rd (.slice A 256 c) 1 256 (bvs bs), rd (sliced A 32 (32 + (fld bs 30 2)) c 1) 1 (32 + (fld bs 30 2) - 32) (bvs ((bs.drop 32).take (32 + (fld bs 30 2) - 32))), rd (sliced A 16 20 c 1) 1 (20 - 16) (bvs ((bs.drop 16).take (20 - 16))), rd (sliced A 20 24 c 1) 1 (24 - 20) (bvs ((bs.drop 20).take (24 - 20))), rd (sliced A 24 26 c 1) 1 (26 - 24) (bvs ((bs.drop 24).take (26 - 24))), rd (sliced A 26 28 c 1) 1 (28 - 26) (bvs ((bs.drop 26).take (28 - 26))), rd (sliced A 28 30 c 1) 1 (30 - 28) (bvs ((bs.drop 28).take (30 - 28))), rd (sliced A 30 32 c 1) 1 (32 - 30) (bvs ((bs.drop 30).take (32 - 30))), blk b2 (bvs (sha (bs.drop 16))) 108, blk b1 (pcells 0 0 0 0 0 (.slice none 0 0)) 24, frameC w0 (MutF [])] := by
            intro b4
            subst hW
            refine WA.pick (l := [11, 15]) (by kernel_rfl) rfl (fun i hi => ?_)
            simp only [List.mem_cons, List.not_mem_nil, or_false] at hi
            rcases hi with rfl | rfl
            ·
              refine WA.onex rfl rfl (op_call (f57_spec _ 2 _ ((bs.drop 26).take 2) (by simp; omega) (by decide)) ca57 (by decide) rfl (by apply Give.mk; (repeat (first | exact Takes.nil | exact Take.here | apply Takes.cons | apply Take.there)); repeat (first | exact Reads.nil | (apply Reads.rd; (focus (repeat (first | exact List.Mem.head _ | apply List.Mem.tail)); done)) | (apply Reads.own; (focus (repeat (first | exact List.Mem.head _ | apply List.Mem.tail)); done)) | (apply Reads.rx; (focus (repeat (first | exact List.Mem.head _ | apply List.Mem.tail)); done)) | (apply Reads.rows (e := false); (focus (repeat (first | exact List.Mem.head _ | apply List.Mem.tail)); done)) | (apply Reads.rows (e := true); (focus (repeat (first | exact List.Mem.head _ | apply List.Mem.tail)); done))))) (fun _ r => (by repeat (first | exact Takes.nil | exact Take.here | apply Takes.cons | apply Take.there))) ?_
              rintro _ _
              exact WA.conv (by first | rfl | kernel_rfl) (by repeat (first | exact RS.nil | refine RS.cons rfl ?_)) (by repeat (first | exact Takes.nil | exact Take.here | apply Takes.cons | apply Take.there)) (st111111111111110011110010 b4)
            ·
              refine WA.one1 rfl rfl (op_lit0 Try.underlying22 ti5 (by decide)) (fun _ b => (by repeat (first | exact Takes.nil | exact Take.here | apply Takes.cons | apply Take.there))) fun b3 => ?_
              exact WA.conv (by first | rfl | kernel_rfl) (by repeat (first | exact RS.nil | refine RS.cons rfl ?_)) (by repeat (first | exact Takes.nil | exact Take.here | apply Takes.cons | apply Take.there)) (st111111111110110111110010 b3 b4)
          have st111111111110110011110000 : ∀ (_u : Unit), W 7 #[true, true, true, true, true, true, true, true, true, true, true, false, true, true, false, false, true, true, true, true, false, false, false, false] 78 [(0, .slice A 256 c), (2, .pointer (some ⟨b1, 0, none⟩)), (6, .int .i64 (((fld bs 30 2) : Nat) : Int)), (41, .int .i64 ((fld bs 16 4 : Nat) : Int)), (44, .int .i64 ((fld bs 20 4 : Nat) : Int)), (47, .int .i64 ((fld bs 24 2 : Nat) : Int)), (49, sliced A 26 28 c 1), (52, sliced A 28 30 c 1), (58, sliced A 32 (32 + (fld bs 30 2)) c 1)] [rd (.slice A 256 c) 1 256 (bvs bs), rd (sliced A 32 (32 + (fld bs 30 2)) c 1) 1 (32 + (fld bs 30 2) - 32) (bvs ((bs.drop 32).take (32 + (fld bs 30 2) - 32))), rd (sliced A 16 20 c 1) 1 (20 - 16) (bvs ((bs.drop 16).take (20 - 16))), rd (sliced A 20 24 c 1) 1 (24 - 20) (bvs ((bs.drop 20).take (24 - 20))), rd (sliced A 24 26 c 1) 1 (26 - 24) (bvs ((bs.drop 24).take (26 - 24))), rd (sliced A 26 28 c 1) 1 (28 - 26) (bvs ((bs.drop 26).take (28 - 26))), rd (sliced A 28 30 c 1) 1 (30 - 28) (bvs ((bs.drop 28).take (30 - 28))), rd (sliced A 30 32 c 1) 1 (32 - 30) (bvs ((bs.drop 30).take (32 - 30))), blk b2 (bvs (sha (bs.drop 16))) 108, blk b1 (pcells 0 0 0 0 0 (.slice none 0 0)) 24, frameC w0 (MutF [])] := by
            intro _u
            subst hW
            refine WA.pick (l := [11, 15, 22]) (by kernel_rfl) rfl (fun i hi => ?_)
            simp only [List.mem_cons, List.not_mem_nil, or_false] at hi
            rcases hi with rfl | rfl | rfl
            ·
              refine WA.onex rfl rfl (op_call (f57_spec _ 2 _ ((bs.drop 26).take 2) (by simp; omega) (by decide)) ca57 (by decide) rfl (by apply Give.mk; (repeat (first | exact Takes.nil | exact Take.here | apply Takes.cons | apply Take.there)); repeat (first | exact Reads.nil | (apply Reads.rd; (focus (repeat (first | exact List.Mem.head _ | apply List.Mem.tail)); done)) | (apply Reads.own; (focus (repeat (first | exact List.Mem.head _ | apply List.Mem.tail)); done)) | (apply Reads.rx; (focus (repeat (first | exact List.Mem.head _ | apply List.Mem.tail)); done)) | (apply Reads.rows (e := false); (focus (repeat (first | exact List.Mem.head _ | apply List.Mem.tail)); done)) | (apply Reads.rows (e := true); (focus (repeat (first | exact List.Mem.head _ | apply List.Mem.tail)); done))))) (fun _ r => (by repeat (first | exact Takes.nil | exact Take.here | apply Takes.cons | apply Take.there))) ?_
              rintro _ _
              exact WA.conv (by first | rfl | kernel_rfl) (by repeat (first | exact RS.nil | refine RS.cons rfl ?_)) (by repeat (first | exact Takes.nil | exact Take.here | apply Takes.cons | apply Take.there)) (st111111111111110011110000 ())
            ·
              refine WA.one1 rfl rfl (op_lit0 Try.underlying22 ti5 (by decide)) (fun _ b => (by repeat (first | exact Takes.nil | exact Take.here | apply Takes.cons | apply Take.there))) fun b3 => ?_
              exact WA.conv (by first | rfl | kernel_rfl) (by repeat (first | exact RS.nil | refine RS.cons rfl ?_)) (by repeat (first | exact Takes.nil | exact Take.here | apply Takes.cons | apply Take.there)) (st111111111110110111110000 b3)
            ·
              refine WA.one1 rfl rfl (op_alloc ti24 (by decide)) (fun _ b => (by repeat (first | exact Takes.nil | exact Take.here | apply Takes.cons | apply Take.there))) fun b4 => ?_
              exact WA.conv (by first | rfl | kernel_rfl) (by repeat (first | exact RS.nil | refine RS.cons rfl ?_)) (by repeat (first | exact Takes.nil | exact Take.here | apply Takes.cons | apply Take.there)) (st111111111110110011110010 b4)
          have st111111110110110111110010 : ∀ (b3 : Nat) (b4 : Nat), W 6 #[true, true, true, true, true, true, true, true, false, true, true, false, true, true, false, true, true, true, true, true, false, false, true, false] 78 [(0, .slice A 256 c), (2, .pointer (some ⟨b1, 0, none⟩)), (6, .int .i64 (((fld bs 30 2) : Nat) : Int)), (7, .pointer (some ⟨b4, 0, none⟩)), (41, .int .i64 ((fld bs 16 4 : Nat) : Int)), (44, .int .i64 ((fld bs 20 4 : Nat) : Int)), (46, sliced A 24 26 c 1), (49, sliced A 26 28 c 1), (52, sliced A 28 30 c 1), (54, .slice (some ⟨b3, 0, none⟩) 0 0), (58, sliced A 32 (32 + (fld bs 30 2)) c 1)] [blk b4 (pcells 0 0 0 0 0 (.slice none 0 0)) 24, own (.slice (some ⟨b3, 0, none⟩) 0 0) 5 1 0 [], rd (.slice A 256 c) 1 256 (bvs bs), rd (sliced A 32 (32 + (fld bs 30 2)) c 1) 1 (32 + (fld bs 30 2) - 32) (bvs ((bs.drop 32).take (32 + (fld bs 30 2) - 32))), rd (sliced A 16 20 c 1) 1 (20 - 16) (bvs ((bs.drop 16).take (20 - 16))), rd (sliced A 20 24 c 1) 1 (24 - 20) (bvs ((bs.drop 20).take (24 - 20))), rd (sliced A 24 26 c 1) 1 (26 - 24) (bvs ((bs.drop 24).take (26 - 24))), rd (sliced A 26 28 c 1) 1 (28 - 26) (bvs ((bs.drop 26).take (28 - 26))), rd (sliced A 28 30 c 1) 1 (30 - 28) (bvs ((bs.drop 28).take (30 - 28))), rd (sliced A 30 32 c 1) 1 (32 - 30) (bvs ((bs.drop 30).take (32 - 30))), blk b2 (bvs (sha (bs.drop 16))) 108, blk b1 (pcells 0 0 0 0 0 (.slice none 0 0)) 24, frameC w0 (MutF [])] := by
            intro b3 b4
            subst hW
            refine WA.pick (l := [8]) (by kernel_rfl) rfl (fun i hi => ?_)
            simp only [List.mem_cons, List.not_mem_nil, or_false] at hi
            subst hi
            ·
              refine WA.onex rfl rfl (op_call (f57_spec _ 2 _ ((bs.drop 24).take 2) (by simp; omega) (by decide)) ca57 (by decide) rfl (by apply Give.mk; (repeat (first | exact Takes.nil | exact Take.here | apply Takes.cons | apply Take.there)); repeat (first | exact Reads.nil | (apply Reads.rd; (focus (repeat (first | exact List.Mem.head _ | apply List.Mem.tail)); done)) | (apply Reads.own; (focus (repeat (first | exact List.Mem.head _ | apply List.Mem.tail)); done)) | (apply Reads.rx; (focus (repeat (first | exact List.Mem.head _ | apply List.Mem.tail)); done)) | (apply Reads.rows (e := false); (focus (repeat (first | exact List.Mem.head _ | apply List.Mem.tail)); done)) | (apply Reads.rows (e := true); (focus (repeat (first | exact List.Mem.head _ | apply List.Mem.tail)); done))))) (fun _ r => (by repeat (first | exact Takes.nil | exact Take.here | apply Takes.cons | apply Take.there))) ?_
              rintro _ _
              exact WA.conv (by first | rfl | kernel_rfl) (by repeat (first | exact RS.nil | refine RS.cons rfl ?_)) (by repeat (first | exact Takes.nil | exact Take.here | apply Takes.cons | apply Take.there)) (st111111111110110111110010 b3 b4)
          have st111111110110110111110000 : ∀ (b3 : Nat), W 7 #[true, true, true, true, true, true, true, true, false, true, true, false, true, true, false, true, true, true, true, true, false, false, false, false] 78 [(0, .slice A 256 c), (2, .pointer (some ⟨b1, 0, none⟩)), (6, .int .i64 (((fld bs 30 2) : Nat) : Int)), (41, .int .i64 ((fld bs 16 4 : Nat) : Int)), (44, .int .i64 ((fld bs 20 4 : Nat) : Int)), (46, sliced A 24 26 c 1), (49, sliced A 26 28 c 1), (52, sliced A 28 30 c 1), (54, .slice (some ⟨b3, 0, none⟩) 0 0), (58, sliced A 32 (32 + (fld bs 30 2)) c 1)] [own (.slice (some ⟨b3, 0, none⟩) 0 0) 5 1 0 [], rd (.slice A 256 c) 1 256 (bvs bs), rd (sliced A 32 (32 + (fld bs 30 2)) c 1) 1 (32 + (fld bs 30 2) - 32) (bvs ((bs.drop 32).take (32 + (fld bs 30 2) - 32))), rd (sliced A 16 20 c 1) 1 (20 - 16) (bvs ((bs.drop 16).take (20 - 16))), rd (sliced A 20 24 c 1) 1 (24 - 20) (bvs ((bs.drop 20).take (24 - 20))), rd (sliced A 24 26 c 1) 1 (26 - 24) (bvs ((bs.drop 24).take (26 - 24))), rd (sliced A 26 28 c 1) 1 (28 - 26) (bvs ((bs.drop 26).take (28 - 26))), rd (sliced A 28 30 c 1) 1 (30 - 28) (bvs ((bs.drop 28).take (30 - 28))), rd (sliced A 30 32 c 1) 1 (32 - 30) (bvs ((bs.drop 30).take (32 - 30))), blk b2 (bvs (sha (bs.drop 16))) 108, blk b1 (pcells 0 0 0 0 0 (.slice none 0 0)) 24, frameC w0 (MutF [])] := by
            intro b3
            subst hW
            refine WA.pick (l := [8, 22]) (by kernel_rfl) rfl (fun i hi => ?_)
            simp only [List.mem_cons, List.not_mem_nil, or_false] at hi
            rcases hi with rfl | rfl
            ·
              refine WA.onex rfl rfl (op_call (f57_spec _ 2 _ ((bs.drop 24).take 2) (by simp; omega) (by decide)) ca57 (by decide) rfl (by apply Give.mk; (repeat (first | exact Takes.nil | exact Take.here | apply Takes.cons | apply Take.there)); repeat (first | exact Reads.nil | (apply Reads.rd; (focus (repeat (first | exact List.Mem.head _ | apply List.Mem.tail)); done)) | (apply Reads.own; (focus (repeat (first | exact List.Mem.head _ | apply List.Mem.tail)); done)) | (apply Reads.rx; (focus (repeat (first | exact List.Mem.head _ | apply List.Mem.tail)); done)) | (apply Reads.rows (e := false); (focus (repeat (first | exact List.Mem.head _ | apply List.Mem.tail)); done)) | (apply Reads.rows (e := true); (focus (repeat (first | exact List.Mem.head _ | apply List.Mem.tail)); done))))) (fun _ r => (by repeat (first | exact Takes.nil | exact Take.here | apply Takes.cons | apply Take.there))) ?_
              rintro _ _
              exact WA.conv (by first | rfl | kernel_rfl) (by repeat (first | exact RS.nil | refine RS.cons rfl ?_)) (by repeat (first | exact Takes.nil | exact Take.here | apply Takes.cons | apply Take.there)) (st111111111110110111110000 b3)
            ·
              refine WA.one1 rfl rfl (op_alloc ti24 (by decide)) (fun _ b => (by repeat (first | exact Takes.nil | exact Take.here | apply Takes.cons | apply Take.there))) fun b4 => ?_
              exact WA.conv (by first | rfl | kernel_rfl) (by repeat (first | exact RS.nil | refine RS.cons rfl ?_)) (by repeat (first | exact Takes.nil | exact Take.here | apply Takes.cons | apply Take.there)) (st111111110110110111110010 b3 b4)
          have st111111110110110011110010 : ∀ (b4 : Nat), W 7 #[true, true, true, true, true, true, true, true, false, true, true, false, true, true, false, false, true, true, true, true, false, false, true, false] 78 [(0, .slice A 256 c), (2, .pointer (some ⟨b1, 0, none⟩)), (6, .int .i64 (((fld bs 30 2) : Nat) : Int)), (7, .pointer (some ⟨b4, 0, none⟩)), (41, .int .i64 ((fld bs 16 4 : Nat) : Int)), (44, .int .i64 ((fld bs 20 4 : Nat) : Int)), (46, sliced A 24 26 c 1), (49, sliced A 26 28 c 1), (52, sliced A 28 30 c 1), (58, sliced A 32 (32 + (fld bs 30 2)) c 1)] [blk b4 (pcells 0 0 0 0 0 (.slice none 0 0)) 24, rd (.slice A 256 c) 1 256 (bvs bs), rd (sliced A 32 (32 + (fld bs 30 2)) c 1) 1 (32 + (fld bs 30 2) - 32) (bvs ((bs.drop 32).take (32 + (fld bs 30 2) - 32))), rd (sliced A 16 20 c 1) 1 (20 - 16) (bvs ((bs.drop 16).take (20 - 16))), rd (sliced A 20 24 c 1) 1 (24 - 20) (bvs ((bs.drop 20).take (24 - 20))), rd (sliced A 24 26 c 1) 1 (26 - 24) (bvs ((bs.drop 24).take (26 - 24))), rd (sliced A 26 28 c 1) 1 (28 - 26) (bvs ((bs.drop 26).take (28 - 26))), rd (sliced A 28 30 c 1) 1 (30 - 28) (bvs ((bs.drop 28).take (30 - 28))), rd (sliced A 30 32 c 1) 1 (32 - 30) (bvs ((bs.drop 30).take (32 - 30))), blk b2 (bvs (sha (bs.drop 16))) 108, blk b1 (pcells 0 0 0 0 0 (.slice none 0 0)) 24, frameC w0 (MutF [])] := by
            intro b4
            subst hW
            refine WA.pick (l := [8, 15]) (by kernel_rfl) rfl (fun i hi => ?_)
            simp only [List.mem_cons, List.not_mem_nil, or_false] at hi
            rcases hi with rfl | rfl
            ·
              refine WA.onex rfl rfl (op_call (f57_spec _ 2 _ ((bs.drop 24).take 2) (by simp; omega) (by decide)) ca57 (by decide) rfl (by apply Give.mk; (repeat (first | exact Takes.nil | exact Take.here | apply Takes.cons | apply Take.there)); repeat (first | exact Reads.nil | (apply Reads.rd; (focus (repeat (first | exact List.Mem.head _ | apply List.Mem.tail)); done)) | (apply Reads.own; (focus (repeat (first | exact List.Mem.head _ | apply List.Mem.tail)); done)) | (apply Reads.rx; (focus (repeat (first | exact List.Mem.head _ | apply List.Mem.tail)); done)) | (apply Reads.rows (e := false); (focus (repeat (first | exact List.Mem.head _ | apply List.Mem.tail)); done)) | (apply Reads.rows (e := true); (focus (repeat (first | exact List.Mem.head _ | apply List.Mem.tail)); done))))) (fun _ r => (by repeat (first | exact Takes.nil | exact Take.here | apply Takes.cons | apply Take.there))) ?_
              rintro _ _
              exact WA.conv (by first | rfl | kernel_rfl) (by repeat (first | exact RS.nil | refine RS.cons rfl ?_)) (by repeat (first | exact Takes.nil | exact Take.here | apply Takes.cons | apply Take.there)) (st111111111110110011110010 b4)
            ·
              refine WA.one1 rfl rfl (op_lit0 Try.underlying22 ti5 (by decide)) (fun _ b => (by repeat (first | exact Takes.nil | exact Take.here | apply Takes.cons | apply Take.there))) fun b3 => ?_
              exact WA.conv (by first | rfl | kernel_rfl) (by repeat (first | exact RS.nil | refine RS.cons rfl ?_)) (by repeat (first | exact Takes.nil | exact Take.here | apply Takes.cons | apply Take.there)) (st111111110110110111110010 b3 b4)
          have st111111110110110011110000 : ∀ (_u : Unit), W 8 #[true, true, true, true, true, true, true, true, false, true, true, false, true, true, false, false, true, true, true, true, false, false, false, false] 78 [(0, .slice A 256 c), (2, .pointer (some ⟨b1, 0, none⟩)), (6, .int .i64 (((fld bs 30 2) : Nat) : Int)), (41, .int .i64 ((fld bs 16 4 : Nat) : Int)), (44, .int .i64 ((fld bs 20 4 : Nat) : Int)), (46, sliced A 24 26 c 1), (49, sliced A 26 28 c 1), (52, sliced A 28 30 c 1), (58, sliced A 32 (32 + (fld bs 30 2)) c 1)] [rd (.slice A 256 c) 1 256 (bvs bs), rd (sliced A 32 (32 + (fld bs 30 2)) c 1) 1 (32 + (fld bs 30 2) - 32) (bvs ((bs.drop 32).take (32 + (fld bs 30 2) - 32))), rd (sliced A 16 20 c 1) 1 (20 - 16) (bvs ((bs.drop 16).take (20 - 16))), rd (sliced A 20 24 c 1) 1 (24 - 20) (bvs ((bs.drop 20).take (24 - 20))), rd (sliced A 24 26 c 1) 1 (26 - 24) (bvs ((bs.drop 24).take (26 - 24))), rd (sliced A 26 28 c 1) 1 (28 - 26) (bvs ((bs.drop 26).take (28 - 26))), rd (sliced A 28 30 c 1) 1 (30 - 28) (bvs ((bs.drop 28).take (30 - 28))), rd (sliced A 30 32 c 1) 1 (32 - 30) (bvs ((bs.drop 30).take (32 - 30))), blk b2 (bvs (sha (bs.drop 16))) 108, blk b1 (pcells 0 0 0 0 0 (.slice none 0 0)) 24, frameC w0 (MutF [])] := by
            intro _u
            subst hW
            refine WA.pick (l := [8, 15, 22]) (by kernel_rfl) rfl (fun i hi => ?_)
            simp only [List.mem_cons, List.not_mem_nil, or_false] at hi
            rcases hi with rfl | rfl | rfl
            ·
              refine WA.onex rfl rfl (op_call (f57_spec _ 2 _ ((bs.drop 24).take 2) (by simp; omega) (by decide)) ca57 (by decide) rfl (by apply Give.mk; (repeat (first | exact Takes.nil | exact Take.here | apply Takes.cons | apply Take.there)); repeat (first | exact Reads.nil | (apply Reads.rd; (focus (repeat (first | exact List.Mem.head _ | apply List.Mem.tail)); done)) | (apply Reads.own; (focus (repeat (first | exact List.Mem.head _ | apply List.Mem.tail)); done)) | (apply Reads.rx; (focus (repeat (first | exact List.Mem.head _ | apply List.Mem.tail)); done)) | (apply Reads.rows (e := false); (focus (repeat (first | exact List.Mem.head _ | apply List.Mem.tail)); done)) | (apply Reads.rows (e := true); (focus (repeat (first | exact List.Mem.head _ | apply List.Mem.tail)); done))))) (fun _ r => (by repeat (first | exact Takes.nil | exact Take.here | apply Takes.cons | apply Take.there))) ?_
              rintro _ _
              exact WA.conv (by first | rfl | kernel_rfl) (by repeat (first | exact RS.nil | refine RS.cons rfl ?_)) (by repeat (first | exact Takes.nil | exact Take.here | apply Takes.cons | apply Take.there)) (st111111111110110011110000 ())
            ·
              refine WA.one1 rfl rfl (op_lit0 Try.underlying22 ti5 (by decide)) (fun _ b => (by repeat (first | exact Takes.nil | exact Take.here | apply Takes.cons | apply Take.there))) fun b3 => ?_
              exact WA.conv (by first | rfl | kernel_rfl) (by repeat (first | exact RS.nil | refine RS.cons rfl ?_)) (by repeat (first | exact Takes.nil | exact Take.here | apply Takes.cons | apply Take.there)) (st111111110110110111110000 b3)
            ·
              refine WA.one1 rfl rfl (op_alloc ti24 (by decide)) (fun _ b => (by repeat (first | exact Takes.nil | exact Take.here | apply Takes.cons | apply Take.there))) fun b4 => ?_
              exact WA.conv (by first | rfl | kernel_rfl) (by repeat (first | exact RS.nil | refine RS.cons rfl ?_)) (by repeat (first | exact Takes.nil | exact Take.here | apply Takes.cons | apply Take.there)) (st111111110110110011110010 b4)
          have st111110110110110111110010 : ∀ (b3 : Nat) (b4 : Nat), W 7 #[true, true, true, true, true, false, true, true, false, true, true, false, true, true, false, true, true, true, true, true, false, false, true, false] 78 [(0, .slice A 256 c), (2, .pointer (some ⟨b1, 0, none⟩)), (6, .int .i64 (((fld bs 30 2) : Nat) : Int)), (7, .pointer (some ⟨b4, 0, none⟩)), (41, .int .i64 ((fld bs 16 4 : Nat) : Int)), (43, sliced A 20 24 c 1), (46, sliced A 24 26 c 1), (49, sliced A 26 28 c 1), (52, sliced A 28 30 c 1), (54, .slice (some ⟨b3, 0, none⟩) 0 0), (58, sliced A 32 (32 + (fld bs 30 2)) c 1)] [blk b4 (pcells 0 0 0 0 0 (.slice none 0 0)) 24, own (.slice (some ⟨b3, 0, none⟩) 0 0) 5 1 0 [], rd (.slice A 256 c) 1 256 (bvs bs), rd (sliced A 32 (32 + (fld bs 30 2)) c 1) 1 (32 + (fld bs 30 2) - 32) (bvs ((bs.drop 32).take (32 + (fld bs 30 2) - 32))), rd (sliced A 16 20 c 1) 1 (20 - 16) (bvs ((bs.drop 16).take (20 - 16))), rd (sliced A 20 24 c 1) 1 (24 - 20) (bvs ((bs.drop 20).take (24 - 20))), rd (sliced A 24 26 c 1) 1 (26 - 24) (bvs ((bs.drop 24).take (26 - 24))), rd (sliced A 26 28 c 1) 1 (28 - 26) (bvs ((bs.drop 26).take (28 - 26))), rd (sliced A 28 30 c 1) 1 (30 - 28) (bvs ((bs.drop 28).take (30 - 28))), rd (sliced A 30 32 c 1) 1 (32 - 30) (bvs ((bs.drop 30).take (32 - 30))), blk b2 (bvs (sha (bs.drop 16))) 108, blk b1 (pcells 0 0 0 0 0 (.slice none 0 0)) 24, frameC w0 (MutF [])] := by
            intro b3 b4
            subst hW
            refine WA.pick (l := [5]) (by kernel_rfl) rfl (fun i hi => ?_)
            simp only [List.mem_cons, List.not_mem_nil, or_false] at hi
            subst hi
            ·
              refine WA.onex rfl rfl (op_call (f57_spec _ 4 _ ((bs.drop 20).take 4) (by simp; omega) (by decide)) ca57 (by decide) rfl (by apply Give.mk; (repeat (first | exact Takes.nil | exact Take.here | apply Takes.cons | apply Take.there)); repeat (first | exact Reads.nil | (apply Reads.rd; (focus (repeat (first | exact List.Mem.head _ | apply List.Mem.tail)); done)) | (apply Reads.own; (focus (repeat (first | exact List.Mem.head _ | apply List.Mem.tail)); done)) | (apply Reads.rx; (focus (repeat (first | exact List.Mem.head _ | apply List.Mem.tail)); done)) | (apply Reads.rows (e := false); (focus (repeat (first | exact List.Mem.head _ | apply List.Mem.tail)); done)) | (apply Reads.rows (e := true); (focus (repeat (first | exact List.Mem.head _ | apply List.Mem.tail)); done))))) (fun _ r => (by repeat (first | exact Takes.nil | exact Take.here | apply Takes.cons | apply Take.there))) ?_
              rintro _ _
              exact WA.conv (by first | rfl | kernel_rfl) (by repeat (first | exact RS.nil | refine RS.cons rfl ?_)) (by repeat (first | exact Takes.nil | exact Take.here | apply Takes.cons | apply Take.there)) (st111111110110110111110010 b3 b4)
          have st111110110110110111110000 : ∀ (b3 : Nat), W 8 #[true, true, true, true, true, false, true, true, false, true, true, false, true, true, false, true, true, true, true, true, false, false, false, false] 78 [(0, .slice A 256 c), (2, .pointer (some ⟨b1, 0, none⟩)), (6, .int .i64 (((fld bs 30 2) : Nat) : Int)), (41, .int .i64 ((fld bs 16 4 : Nat) : Int)), (43, sliced A 20 24 c 1), (46, sliced A 24 26 c 1), (49, sliced A 26 28 c 1), (52, sliced A 28 30 c 1), (54, .slice (some ⟨b3, 0, none⟩) 0 0), (58, sliced A 32 (32 + (fld bs 30 2)) c 1)] [own (.slice (some ⟨b3, 0, none⟩) 0 0) 5 1 0 [], rd (.slice A 256 c) 1 256 (bvs bs), rd (sliced A 32 (32 + (fld bs 30 2)) c 1) 1 (32 + (fld bs 30 2) - 32) (bvs ((bs.drop 32).take (32 + (fld bs 30 2) - 32))), rd (sliced A 16 20 c 1) 1 (20 - 16) (bvs ((bs.drop 16).take (20 - 16))), rd (sliced A 20 24 c 1) 1 (24 - 20) (bvs ((bs.drop 20).take (24 - 20))), rd (sliced A 24 26 c 1) 1 (26 - 24) (bvs ((bs.drop 24).take (26 - 24))), rd (sliced A 26 28 c 1) 1 (28 - 26) (bvs ((bs.drop 26).take (28 - 26))), rd (sliced A 28 30 c 1) 1 (30 - 28) (bvs ((bs.drop 28).take (30 - 28))), rd (sliced A 30 32 c 1) 1 (32 - 30) (bvs ((bs.drop 30).take (32 - 30))), blk b2 (bvs (sha (bs.drop 16))) 108, blk b1 (pcells 0 0 0 0 0 (.slice none 0 0)) 24, frameC w0 (MutF [])] := by
            intro b3
            subst hW
            refine WA.pick (l := [5, 22]) (by kernel_rfl) rfl (fun i hi => ?_)
            simp only [List.mem_cons, List.not_mem_nil, or_false] at hi
            rcases hi with rfl | rfl
            ·
              refine WA.onex rfl rfl (op_call (f57_spec _ 4 _ ((bs.drop 20).take 4) (by simp; omega) (by decide)) ca57 (by decide) rfl (by apply Give.mk; (repeat (first | exact Takes.nil | exact Take.here | apply Takes.cons | apply Take.there)); repeat (first | exact Reads.nil | (apply Reads.rd; (focus (repeat (first | exact List.Mem.head _ | apply List.Mem.tail)); done)) | (apply Reads.own; (focus (repeat (first | exact List.Mem.head _ | apply List.Mem.tail)); done)) | (apply Reads.rx; (focus (repeat (first | exact List.Mem.head _ | apply List.Mem.tail)); done)) | (apply Reads.rows (e := false); (focus (repeat (first | exact List.Mem.head _ | apply List.Mem.tail)); done)) | (apply Reads.rows (e := true); (focus (repeat (first | exact List.Mem.head _ | apply List.Mem.tail)); done))))) (fun _ r => (by repeat (first | exact Takes.nil | exact Take.here | apply Takes.cons | apply Take.there))) ?_
              rintro _ _
              exact WA.conv (by first | rfl | kernel_rfl) (by repeat (first | exact RS.nil | refine RS.cons rfl ?_)) (by repeat (first | exact Takes.nil | exact Take.here | apply Takes.cons | apply Take.there)) (st111111110110110111110000 b3)
            ·
              refine WA.one1 rfl rfl (op_alloc ti24 (by decide)) (fun _ b => (by repeat (first | exact Takes.nil | exact Take.here | apply Takes.cons | apply Take.there))) fun b4 => ?_
              exact WA.conv (by first | rfl | kernel_rfl) (by repeat (first | exact RS.nil | refine RS.cons rfl ?_)) (by repeat (first | exact Takes.nil | exact Take.here | apply Takes.cons | apply Take.there)) (st111110110110110111110010 b3 b4)
          have st111110110110110011110010 : ∀ (b4 : Nat), W 8 #[true, true, true, true, true, false, true, true, false, true, true, false, true, true, false, false, true, true, true, true, false, false, true, false] 78 [(0, .slice A 256 c), (2, .pointer (some ⟨b1, 0, none⟩)), (6, .int .i64 (((fld bs 30 2) : Nat) : Int)), (7, .pointer (some ⟨b4, 0, none⟩)), (41, .int .i64 ((fld bs 16 4 : Nat) : Int)), (43, sliced A 20 24 c 1), (46, sliced A 24 26 c 1), (49, sliced A 26 28 c 1), (52, sliced A 28 30 c 1), (58, sliced A 32 (32 + (fld bs 30 2)) c 1)] [blk b4 (pcells 0 0 0 0 0 (.slice none 0 0)) 24, rd (.slice A 256 c) 1 256 (bvs bs), rd (sliced A 32 (32 + (fld bs 30 2)) c 1) 1 (32 + (fld bs 30 2) - 32) (bvs ((bs.drop 32).take (32 + (fld bs 30 2) - 32))), rd (sliced A 16 20 c 1) 1 (20 - 16) (bvs ((bs.drop 16).take (20 - 16))), rd (sliced A 20 24 c 1) 1 (24 - 20) (bvs ((bs.drop 20).take (24 - 20))), rd (sliced A 24 26 c 1) 1 (26 - 24) (bvs ((bs.drop 24).take (26 - 24))), rd (sliced A 26 28 c 1) 1 (28 - 26) (bvs ((bs.drop 26).take (28 - 26))), rd (sliced A 28 30 c 1) 1 (30 - 28) (bvs ((bs.drop 28).take (30 - 28))), rd (sliced A 30 32 c 1) 1 (32 - 30) (bvs ((bs.drop 30).take (32 - 30))), blk b2 (bvs (sha (bs.drop 16))) 108, blk b1 (pcells 0 0 0 0 0 (.slice none 0 0)) 24, frameC w0 (MutF [])] := by
            intro b4
            subst hW
            refine WA.pick (l := [5, 15]) (by kernel_rfl) rfl (fun i hi => ?_)
            simp only [List.mem_cons, List.not_mem_nil, or_false] at hi
            rcases hi with rfl | rfl
            ·
              refine WA.onex rfl rfl (op_call (f57_spec _ 4 _ ((bs.drop 20).take 4) (by simp; omega) (by decide)) ca57 (by decide) rfl (by apply Give.mk; (repeat (first | exact Takes.nil | exact Take.here | apply Takes.cons | apply Take.there)); repeat (first | exact Reads.nil | (apply Reads.rd; (focus (repeat (first | exact List.Mem.head _ | apply List.Mem.tail)); done)) | (apply Reads.own; (focus (repeat (first | exact List.Mem.head _ | apply List.Mem.tail)); done)) | (apply Reads.rx; (focus (repeat (first | exact List.Mem.head _ | apply List.Mem.tail)); done)) | (apply Reads.rows (e := false); (focus (repeat (first | exact List.Mem.head _ | apply List.Mem.tail)); done)) | (apply Reads.rows (e := true); (focus (repeat (first | exact List.Mem.head _ | apply List.Mem.tail)); done))))) (fun _ r => (by repeat (first | exact Takes.nil | exact Take.here | apply Takes.cons | apply Take.there))) ?_
              rintro _ _
              exact WA.conv (by first | rfl | kernel_rfl) (by repeat (first | exact RS.nil | refine RS.cons rfl ?_)) (by repeat (first | exact Takes.nil | exact Take.here | apply Takes.cons | apply Take.there)) (st111111110110110011110010 b4)
            ·
              refine WA.one1 rfl rfl (op_lit0 Try.underlying22 ti5 (by decide)) (fun _ b => (by repeat (first | exact Takes.nil | exact Take.here | apply Takes.cons | apply Take.there))) fun b3 => ?_
              exact WA.conv (by first | rfl | kernel_rfl) (by repeat (first | exact RS.nil | refine RS.cons rfl ?_)) (by repeat (first | exact Takes.nil | exact Take.here | apply Takes.cons | apply Take.there)) (st111110110110110111110010 b3 b4)
          have st111110110110110011110000 : ∀ (_u : Unit), W 9 #[true, true, true, true, true, false, true, true, false, true, true, false, true, true, false, false, true, true, true, true, false, false, false, false] 78 [(0, .slice A 256 c), (2, .pointer (some ⟨b1, 0, none⟩)), (6, .int .i64 (((fld bs 30 2) : Nat) : Int)), (41, .int .i64 ((fld bs 16 4 : Nat) : Int)), (43, sliced A 20 24 c 1), (46, sliced A 24 26 c 1), (49, sliced A 26 28 c 1), (52, sliced A 28 30 c 1), (58, sliced A 32 (32 + (fld bs 30 2)) c 1)] [rd (.slice A 256 c) 1 256 (bvs bs), rd (sliced A 32 (32 + (fld bs 30 2)) c 1) 1 (32 + (fld bs 30 2) - 32) (bvs ((bs.drop 32).take (32 + (fld bs 30 2) - 32))), rd (sliced A 16 20 c 1) 1 (20 - 16) (bvs ((bs.drop 16).take (20 - 16))), rd (sliced A 20 24 c 1) 1 (24 - 20) (bvs ((bs.drop 20).take (24 - 20))), rd (sliced A 24 26 c 1) 1 (26 - 24) (bvs ((bs.drop 24).take (26 - 24))), rd (sliced A 26 28 c 1) 1 (28 - 26) (bvs ((bs.drop 26).take (28 - 26))), rd (sliced A 28 30 c 1) 1 (30 - 28) (bvs ((bs.drop 28).take (30 - 28))), rd (sliced A 30 32 c 1) 1 (32 - 30) (bvs ((bs.drop 30).take (32 - 30))), blk b2 (bvs (sha (bs.drop 16))) 108, blk b1 (pcells 0 0 0 0 0 (.slice none 0 0)) 24, frameC w0 (MutF [])] := by
            intro _u
            subst hW
            refine WA.pick (l := [5, 15, 22]) (by kernel_rfl) rfl (fun i hi => ?_)
            simp only [List.mem_cons, List.not_mem_nil, or_false] at hi
            rcases hi with rfl | rfl | rfl
            ·
              refine WA.onex rfl rfl (op_call (f57_spec _ 4 _ ((bs.drop 20).take 4) (by simp; omega) (by decide)) ca57 (by decide) rfl (by apply Give.mk; (repeat (first | exact Takes.nil | exact Take.here | apply Takes.cons | apply Take.there)); repeat (first | exact Reads.nil | (apply Reads.rd; (focus (repeat (first | exact List.Mem.head _ | apply List.Mem.tail)); done)) | (apply Reads.own; (focus (repeat (first | exact List.Mem.head _ | apply List.Mem.tail)); done)) | (apply Reads.rx; (focus (repeat (first | exact List.Mem.head _ | apply List.Mem.tail)); done)) | (apply Reads.rows (e := false); (focus (repeat (first | exact List.Mem.head _ | apply List.Mem.tail)); done)) | (apply Reads.rows (e := true); (focus (repeat (first | exact List.Mem.head _ | apply List.Mem.tail)); done))))) (fun _ r => (by repeat (first | exact Takes.nil | exact Take.here | apply Takes.cons | apply Take.there))) ?_
              rintro _ _
              exact WA.conv (by first | rfl | kernel_rfl) (by repeat (first | exact RS.nil | refine RS.cons rfl ?_)) (by repeat (first | exact Takes.nil | exact Take.here | apply Takes.cons | apply Take.there)) (st111111110110110011110000 ())
            ·
              refine WA.one1 rfl rfl (op_lit0 Try.underlying22 ti5 (by decide)) (fun _ b => (by repeat (first | exact Takes.nil | exact Take.here | apply Takes.cons | apply Take.there))) fun b3 => ?_
              exact WA.conv (by first | rfl | kernel_rfl) (by repeat (first | exact RS.nil | refine RS.cons rfl ?_)) (by repeat (first | exact Takes.nil | exact Take.here | apply Takes.cons | apply Take.there)) (st111110110110110111110000 b3)
            ·
              refine WA.one1 rfl rfl (op_alloc ti24 (by decide)) (fun _ b => (by repeat (first | exact Takes.nil | exact Take.here | apply Takes.cons | apply Take.there))) fun b4 => ?_
              exact WA.conv (by first | rfl | kernel_rfl) (by repeat (first | exact RS.nil | refine RS.cons rfl ?_)) (by repeat (first | exact Takes.nil | exact Take.here | apply Takes.cons | apply Take.there)) (st111110110110110011110010 b4)
          have st110110110110110111110010 : ∀ (b3 : Nat) (b4 : Nat), W 8 #[true, true, false, true, true, false, true, true, false, true, true, false, true, true, false, true, true, true, true, true, false, false, true, false] 78 [(0, .slice A 256 c), (2, .pointer (some ⟨b1, 0, none⟩)), (6, .int .i64 (((fld bs 30 2) : Nat) : Int)), (7, .pointer (some ⟨b4, 0, none⟩)), (40, sliced A 16 20 c 1), (43, sliced A 20 24 c 1), (46, sliced A 24 26 c 1), (49, sliced A 26 28 c 1), (52, sliced A 28 30 c 1), (54, .slice (some ⟨b3, 0, none⟩) 0 0), (58, sliced A 32 (32 + (fld bs 30 2)) c 1)] [blk b4 (pcells 0 0 0 0 0 (.slice none 0 0)) 24, own (.slice (some ⟨b3, 0, none⟩) 0 0) 5 1 0 [], rd (.slice A 256 c) 1 256 (bvs bs), rd (sliced A 32 (32 + (fld bs 30 2)) c 1) 1 (32 + (fld bs 30 2) - 32) (bvs ((bs.drop 32).take (32 + (fld bs 30 2) - 32))), rd (sliced A 16 20 c 1) 1 (20 - 16) (bvs ((bs.drop 16).take (20 - 16))), rd (sliced A 20 24 c 1) 1 (24 - 20) (bvs ((bs.drop 20).take (24 - 20))), rd (sliced A 24 26 c 1) 1 (26 - 24) (bvs ((bs.drop 24).take (26 - 24))), rd (sliced A 26 28 c 1) 1 (28 - 26) (bvs ((bs.drop 26).take (28 - 26))), rd (sliced A 28 30 c 1) 1 (30 - 28) (bvs ((bs.drop 28).take (30 - 28))), rd (sliced A 30 32 c 1) 1 (32 - 30) (bvs ((bs.drop 30).take (32 - 30))), blk b2 (bvs (sha (bs.drop 16))) 108, blk b1 (pcells 0 0 0 0 0 (.slice none 0 0)) 24, frameC w0 (MutF [])] := by
            intro b3 b4
            subst hW
            refine WA.pick (l := [2]) (by kernel_rfl) rfl (fun i hi => ?_)
            simp only [List.mem_cons, List.not_mem_nil, or_false] at hi
            subst hi
            ·
              refine WA.onex rfl rfl (op_call (f57_spec _ 4 _ ((bs.drop 16).take 4) (by simp; omega) (by decide)) ca57 (by decide) rfl (by apply Give.mk; (repeat (first | exact Takes.nil | exact Take.here | apply Takes.cons | apply Take.there)); repeat (first | exact Reads.nil | (apply Reads.rd; (focus (repeat (first | exact List.Mem.head _ | apply List.Mem.tail)); done)) | (apply Reads.own; (focus (repeat (first | exact List.Mem.head _ | apply List.Mem.tail)); done)) | (apply Reads.rx; (focus (repeat (first | exact List.Mem.head _ | apply List.Mem.tail)); done)) | (apply Reads.rows (e := false); (focus (repeat (first | exact List.Mem.head _ | apply List.Mem.tail)); done)) | (apply Reads.rows (e := true); (focus (repeat (first | exact List.Mem.head _ | apply List.Mem.tail)); done))))) (fun _ r => (by repeat (first | exact Takes.nil | exact Take.here | apply Takes.cons | apply Take.there))) ?_
              rintro _ _
              exact WA.conv (by first | rfl | kernel_rfl) (by repeat (first | exact RS.nil | refine RS.cons rfl ?_)) (by repeat (first | exact Takes.nil | exact Take.here | apply Takes.cons | apply Take.there)) (st111110110110110111110010 b3 b4)
          have st110110110110110111110000 : ∀ (b3 : Nat), W 9 #[true, true, false, true, true, false, true, true, false, true, true, false, true, true, false, true, true, true, true, true, false, false, false, false] 78 [(0, .slice A 256 c), (2, .pointer (some ⟨b1, 0, none⟩)), (6, .int .i64 (((fld bs 30 2) : Nat) : Int)), (40, sliced A 16 20 c 1), (43, sliced A 20 24 c 1), (46, sliced A 24 26 c 1), (49, sliced A 26 28 c 1), (52, sliced A 28 30 c 1), (54, .slice (some ⟨b3, 0, none⟩) 0 0), (58, sliced A 32 (32 + (fld bs 30 2)) c 1)] [own (.slice (some ⟨b3, 0, none⟩) 0 0) 5 1 0 [], rd (.slice A 256 c) 1 256 (bvs bs), rd (sliced A 32 (32 + (fld bs 30 2)) c 1) 1 (32 + (fld bs 30 2) - 32) (bvs ((bs.drop 32).take (32 + (fld bs 30 2) - 32))), rd (sliced A 16 20 c 1) 1 (20 - 16) (bvs ((bs.drop 16).take (20 - 16))), rd (sliced A 20 24 c 1) 1 (24 - 20) (bvs ((bs.drop 20).take (24 - 20))), rd (sliced A 24 26 c 1) 1 (26 - 24) (bvs ((bs.drop 24).take (26 - 24))), rd (sliced A 26 28 c 1) 1 (28 - 26) (bvs ((bs.drop 26).take (28 - 26))), rd (sliced A 28 30 c 1) 1 (30 - 28) (bvs ((bs.drop 28).take (30 - 28))), rd (sliced A 30 32 c 1) 1 (32 - 30) (bvs ((bs.drop 30).take (32 - 30))), blk b2 (bvs (sha (bs.drop 16))) 108, blk b1 (pcells 0 0 0 0 0 (.slice none 0 0)) 24, frameC w0 (MutF [])] := by
            intro b3
            subst hW
            refine WA.pick (l := [2, 22]) (by kernel_rfl) rfl (fun i hi => ?_)
            simp only [List.mem_cons, List.not_mem_nil, or_false] at hi
            rcases hi with rfl | rfl
            ·
              refine WA.onex rfl rfl (op_call (f57_spec _ 4 _ ((bs.drop 16).take 4) (by simp; omega) (by decide)) ca57 (by decide) rfl (by apply Give.mk; (repeat (first | exact Takes.nil | exact Take.here | apply Takes.cons | apply Take.there)); repeat (first | exact Reads.nil | (apply Reads.rd; (focus (repeat (first | exact List.Mem.head _ | apply List.Mem.tail)); done)) | (apply Reads.own; (focus (repeat (first | exact List.Mem.head _ | apply List.Mem.tail)); done)) | (apply Reads.rx; (focus (repeat (first | exact List.Mem.head _ | apply List.Mem.tail)); done)) | (apply Reads.rows (e := false); (focus (repeat (first | exact List.Mem.head _ | apply List.Mem.tail)); done)) | (apply Reads.rows (e := true); (focus (repeat (first | exact List.Mem.head _ | apply List.Mem.tail)); done))))) (fun _ r => (by repeat (first | exact Takes.nil | exact Take.here | apply Takes.cons | apply Take.there))) ?_
              rintro _ _
              exact WA.conv (by first | rfl | kernel_rfl) (by repeat (first | exact RS.nil | refine RS.cons rfl ?_)) (by repeat (first | exact Takes.nil | exact Take.here | apply Takes.cons | apply Take.there)) (st111110110110110111110000 b3)
            ·
              refine WA.one1 rfl rfl (op_alloc ti24 (by decide)) (fun _ b => (by repeat (first | exact Takes.nil | exact Take.here | apply Takes.cons | apply Take.there))) fun b4 => ?_
              exact WA.conv (by first | rfl | kernel_rfl) (by repeat (first | exact RS.nil | refine RS.cons rfl ?_)) (by repeat (first | exact Takes.nil | exact Take.here | apply Takes.cons | apply Take.there)) (st110110110110110111110010 b3 b4)
          have st110110110110110011110010 : ∀ (b4 : Nat), W 9 #[true, true, false, true, true, false, true, true, false, true, true, false, true, true, false, false, true, true, true, true, false, false, true, false] 78 [(0, .slice A 256 c), (2, .pointer (some ⟨b1, 0, none⟩)), (6, .int .i64 (((fld bs 30 2) : Nat) : Int)), (7, .pointer (some ⟨b4, 0, none⟩)), (40, sliced A 16 20 c 1), (43, sliced A 20 24 c 1), (46, sliced A 24 26 c 1), (49, sliced A 26 28 c 1), (52, sliced A 28 30 c 1), (58, sliced A 32 (32 + (fld bs 30 2)) c 1)] [blk b4 (pcells 0 0 0 0 0 (.slice none 0 0)) 24, rd (.slice A 256 c) 1 256 (bvs bs), rd (sliced A 32 (32 + (fld bs 30 2)) c 1) 1 (32 + (fld bs 30 2) - 32) (bvs ((bs.drop 32).take (32 + (fld bs 30 2) - 32))), rd (sliced A 16 20 c 1) 1 (20 - 16) (bvs ((bs.drop 16).take (20 - 16))), rd (sliced A 20 24 c 1) 1 (24 - 20) (bvs ((bs.drop 20).take (24 - 20))), rd (sliced A 24 26 c 1) 1 (26 - 24) (bvs ((bs.drop 24).take (26 - 24))), rd (sliced A 26 28 c 1) 1 (28 - 26) (bvs ((bs.drop 26).take (28 - 26))), rd (sliced A 28 30 c 1) 1 (30 - 28) (bvs ((bs.drop 28).take (30 - 28))), rd (sliced A 30 32 c 1) 1 (32 - 30) (bvs ((bs.drop 30).take (32 - 30))), blk b2 (bvs (sha (bs.drop 16))) 108, blk b1 (pcells 0 0 0 0 0 (.slice none 0 0)) 24, frameC w0 (MutF [])] := by
            intro b4
            subst hW
            refine WA.pick (l := [2, 15]) (by kernel_rfl) rfl (fun i hi => ?_)
            simp only [List.mem_cons, List.not_mem_nil, or_false] at hi
            rcases hi with rfl | rfl
            ·
              refine WA.onex rfl rfl (op_call (f57_spec _ 4 _ ((bs.drop 16).take 4) (by simp; omega) (by decide)) ca57 (by decide) rfl (by apply Give.mk; (repeat (first | exact Takes.nil | exact Take.here | apply Takes.cons | apply Take.there)); repeat (first | exact Reads.nil | (apply Reads.rd; (focus (repeat (first | exact List.Mem.head _ | apply List.Mem.tail)); done)) | (apply Reads.own; (focus (repeat (first | exact List.Mem.head _ | apply List.Mem.tail)); done)) | (apply Reads.rx; (focus (repeat (first | exact List.Mem.head _ | apply List.Mem.tail)); done)) | (apply Reads.rows (e := false); (focus (repeat (first | exact List.Mem.head _ | apply List.Mem.tail)); done)) | (apply Reads.rows (e := true); (focus (repeat (first | exact List.Mem.head _ | apply List.Mem.tail)); done))))) (fun _ r => (by repeat (first | exact Takes.nil | exact Take.here | apply Takes.cons | apply Take.there))) ?_
              rintro _ _
              exact WA.conv (by first | rfl | kernel_rfl) (by repeat (first | exact RS.nil | refine RS.cons rfl ?_)) (by repeat (first | exact Takes.nil | exact Take.here | apply Takes.cons | apply Take.there)) (st111110110110110011110010 b4)
            ·
              refine WA.one1 rfl rfl (op_lit0 Try.underlying22 ti5 (by decide)) (fun _ b => (by repeat (first | exact Takes.nil | exact Take.here | apply Takes.cons | apply Take.there))) fun b3 => ?_
              exact WA.conv (by first | rfl | kernel_rfl) (by repeat (first | exact RS.nil | refine RS.cons rfl ?_)) (by repeat (first | exact Takes.nil | exact Take.here | apply Takes.cons | apply Take.there)) (st110110110110110111110010 b3 b4)
          subst hW
          refine WA.pick (l := [2, 15, 22]) (by kernel_rfl) rfl (fun i hi => ?_)
          simp only [List.mem_cons, List.not_mem_nil, or_false] at hi
          rcases hi with rfl | rfl | rfl
          ·
            refine WA.onex rfl rfl (op_call (f57_spec _ 4 _ ((bs.drop 16).take 4) (by simp; omega) (by decide)) ca57 (by decide) rfl (by apply Give.mk; (repeat (first | exact Takes.nil | exact Take.here | apply Takes.cons | apply Take.there)); repeat (first | exact Reads.nil | (apply Reads.rd; (focus (repeat (first | exact List.Mem.head _ | apply List.Mem.tail)); done)) | (apply Reads.own; (focus (repeat (first | exact List.Mem.head _ | apply List.Mem.tail)); done)) | (apply Reads.rx; (focus (repeat (first | exact List.Mem.head _ | apply List.Mem.tail)); done)) | (apply Reads.rows (e := false); (focus (repeat (first | exact List.Mem.head _ | apply List.Mem.tail)); done)) | (apply Reads.rows (e := true); (focus (repeat (first | exact List.Mem.head _ | apply List.Mem.tail)); done))))) (fun _ r => (by repeat (first | exact Takes.nil | exact Take.here | apply Takes.cons | apply Take.there))) ?_
            rintro _ _
            exact WA.conv (by first | rfl | kernel_rfl) (by repeat (first | exact RS.nil | refine RS.cons rfl ?_)) (by repeat (first | exact Takes.nil | exact Take.here | apply Takes.cons | apply Take.there)) (st111110110110110011110000 ())
          ·
            refine WA.one1 rfl rfl (op_lit0 Try.underlying22 ti5 (by decide)) (fun _ b => (by repeat (first | exact Takes.nil | exact Take.here | apply Takes.cons | apply Take.there))) fun b3 => ?_
            exact WA.conv (by first | rfl | kernel_rfl) (by repeat (first | exact RS.nil | refine RS.cons rfl ?_)) (by repeat (first | exact Takes.nil | exact Take.here | apply Takes.cons | apply Take.there)) (st110110110110110111110000 b3)
          ·
            refine WA.one1 rfl rfl (op_alloc ti24 (by decide)) (fun _ b => (by repeat (first | exact Takes.nil | exact Take.here | apply Takes.cons | apply Take.there))) fun b4 => ?_
            exact WA.conv (by first | rfl | kernel_rfl) (by repeat (first | exact RS.nil | refine RS.cons rfl ?_)) (by repeat (first | exact Takes.nil | exact Take.here | apply Takes.cons | apply Take.there)) (st110110110110110011110010 b4)
end Go.Proofs.Ythephcghglldaaa.Sx
