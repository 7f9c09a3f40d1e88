import Derived.Test.YthephcghglldaaaS29
set_option linter.unusedVariables false
set_option linter.unusedSimpArgs false
namespace Go.Proofs.Ythephcghglldaaa.Sx
open Go.RowKit Go.Proofs.Ythephcghglldaaa.Ty
attribute [local irreducible] blk own rd rx frameC

theorem scanF_len {ss : List (List UInt8)} {g n : Int} : ∀ (fuel pos : Nat) (acc : List Rcd), (scanF ss g n fuel pos acc).1.length ≤ acc.length + fuel := by
  intro fuel
  induction fuel with
  | zero => intro pos acc; exact Nat.le_refl _
  | succ fuel ih =>
    intro pos acc
    unfold scanF
    split
    · simp only []; omega
    · split
      · simp only []; omega
      · split
        · simp only []; omega
        · have := ih (pos + (join (ss.drop pos)).2.1.toNat) (acc ++ [(join (ss.drop pos)).1])
          rw [List.length_append, List.length_singleton] at this
          omega
theorem scan_len (g n : Int) (ss : List (List UInt8)) : (scan g n ss).1.length ≤ ss.length := by
  unfold scan
  split
  · exact Nat.zero_le _
  · have := scanF_len (ss := ss) (g := g) (n := n) ss.length 0 []
    simpa using this
theorem salvF_len {ss : List (List UInt8)} : ∀ (fuel pos : Nat) (acc : List Rcd), (salvF ss fuel pos acc).length ≤ acc.length + fuel := by
  intro fuel
  induction fuel with
  | zero => intro pos acc; exact Nat.le_refl _
  | succ fuel ih =>
    intro pos acc
    unfold salvF
    split
    · omega
    · split
      · have := ih (pos + 1) acc
        omega
      · have := ih (pos + (join (ss.drop pos)).2.1.toNat) (acc ++ [(join (ss.drop pos)).1])
        rw [List.length_append, List.length_singleton] at this
        omega
theorem salv_len (ss : List (List UInt8)) : (salv ss).length ≤ ss.length := by
  have := salvF_len (ss := ss) ss.length 0 []
  simpa [salv] using this
set_option maxHeartbeats 400000 in
set_option maxRecDepth 10000 in
theorem f11_spec (g n : Int) (AP AO AL : Option Addr) (MP cP MO cO ML cL : Nat) (ps : List Bs) (l : List Sc) (pl : List UInt8) (cut : UInt8) (hMP : ps.length = MP) (hMO : l.length = MO) (hML : pl.length = ML) (hy : ∀ s ∈ l, s.y.s.length ≤ 140737488355328) (z1 z2 : Int) :
    Spec Try.prog 11 [.agg #[.int .i64 g, .int .i64 n, .slice AP MP cP, .slice AO MO cO, .slice AL ML cL, bv cut], .int .i64 z1, .int .i64 z2] [] [rd (.slice AP MP cP) 1 MP (ps.map Bs.v), rowsC false ps, rd (.slice AO MO cO) 16 MO (l.flatMap Sc.cells), rowsC false (l.flatMap Sc.rows), rd (.slice AL ML cL) 1 ML (bvs pl)] (R := Bool) (fun b => b = true) (fun b => .bool b) (fun _ => []) := by
  refine Spec.intro Try.func11 Try.ntmps11 rfl (by simp) (by simp) fun w0 => ?_
  refine WC.seq ?_
  refine WC.region ?_
  refine wl1 (op_box (by decide) rfl rfl) rfl fun b1 => ?_
  refine wlv (op_assign (by decide) rfl) rfl ?_
  refine WL.nil ?_
  refine WX.regs (L' := [(1, _), (2, _), (3, _)]) (by repeat (first | exact RS.nil | refine RS.cons rfl ?_)) ?_
  refine WX.next ?_
  refine WC.seq ?_
  refine WC.region ?_
  refine wlv (op_loadAll ag75 (by decide) rfl (by repeat (first | exact List.Mem.head _ | apply List.Mem.tail)) (by first | rfl | (simp [Value.cells]; done) | (simp [Value.cells]; omega))) rfl ?_
  refine wlx (op_call (f38_spec g n AP AO AL MP cP MO cO ML cL ps l pl cut hMP hMO hML hy) ca38 (by decide) rfl (by apply Give.mk; (repeat (first | exact Takes.nil | exact Take.here | apply Takes.cons | apply Take.there)); repeat (first | exact Reads.nil | (apply Reads.rd; (focus (repeat (first | exact List.Mem.head _ | apply List.Mem.tail)); done)) | (apply Reads.own; (focus (repeat (first | exact List.Mem.head _ | apply List.Mem.tail)); done)) | (apply Reads.rx; (focus (repeat (first | exact List.Mem.head _ | apply List.Mem.tail)); done)) | (apply Reads.rows (e := false); (focus (repeat (first | exact List.Mem.head _ | apply List.Mem.tail)); done)) | (apply Reads.rows (e := true); (focus (repeat (first | exact List.Mem.head _ | apply List.Mem.tail)); done))))) rfl ?_
  rintro ⟨Ab, cb, rb⟩ ⟨hrb, _⟩
  dsimp only at hrb
  dsimp only
  refine wlv (op_assign (by decide) rfl) rfl ?_
  refine WL.nil ?_
  refine WX.regs (L' := [(1, _), (2, _), (7, _)]) (by repeat (first | exact RS.nil | refine RS.cons rfl ?_)) ?_
  refine WX.next ?_
  refine WC.seq ?_
  refine WC.region ?_
  refine wlv (op_move (by decide) rfl) rfl ?_
  refine wlv (op_move (by decide) rfl) rfl ?_
  refine wlv (op_move (by decide) rfl) rfl ?_
  refine wlx (op_call (f39_spec z1 z2 Ab rb.length cb rb rfl (by omega)) ca39 (by decide) rfl (by apply Give.mk; (repeat (first | exact Takes.nil | exact Take.here | apply Takes.cons | apply Take.there)); repeat (first | exact Reads.nil | (apply Reads.rd; (focus (repeat (first | exact List.Mem.head _ | apply List.Mem.tail)); done)) | (apply Reads.own; (focus (repeat (first | exact List.Mem.head _ | apply List.Mem.tail)); done)) | (apply Reads.rx; (focus (repeat (first | exact List.Mem.head _ | apply List.Mem.tail)); done)) | (apply Reads.rows (e := false); (focus (repeat (first | exact List.Mem.head _ | apply List.Mem.tail)); done)) | (apply Reads.rows (e := true); (focus (repeat (first | exact List.Mem.head _ | apply List.Mem.tail)); done))))) rfl ?_
  rintro ⟨As, cs, ls, ns, es⟩ hs1
  dsimp only at hs1
  have hls : ls.length ≤ rb.length := by
    have h1 := congrArg (fun q => q.1.length) hs1
    have h2 := scan_len z1 z2 (rb.map Bs.s)
    simp only [List.length_map] at h1 h2
    omega
  dsimp only
  refine wlv (op_move (by decide) rfl) rfl ?_
  refine wlv (op_extract (by decide) rfl rfl) rfl ?_
  refine wlv (op_extract (by decide) rfl rfl) rfl ?_
  refine wlv (op_extract (by decide) rfl rfl) rfl ?_
  refine wlv (op_assign (by decide) rfl) rfl ?_
  refine wlv (op_assign (by decide) rfl) rfl ?_
  refine wlv (op_assign (by decide) rfl) rfl ?_
  refine WL.nil ?_
  refine WX.regs (L' := [(1, _), (2, _), (7, _), (8, _), (9, _), (10, _)]) (by repeat (first | exact RS.nil | refine RS.cons rfl ?_)) ?_
  refine WX.next ?_
  refine WC.seq ?_
  refine WC.region ?_
  refine wlv (op_move (by decide) rfl) rfl ?_
  refine wlv (op_move (by decide) rfl) rfl ?_
  refine wlv (op_move (by decide) rfl) rfl ?_
  refine wlx (op_call (f40_spec z1 z2 Ab rb.length cb rb rfl (by omega)) ca40 (by decide) rfl (by apply Give.mk; (repeat (first | exact Takes.nil | exact Take.here | apply Takes.cons | apply Take.there)); repeat (first | exact Reads.nil | (apply Reads.rd; (focus (repeat (first | exact List.Mem.head _ | apply List.Mem.tail)); done)) | (apply Reads.own; (focus (repeat (first | exact List.Mem.head _ | apply List.Mem.tail)); done)) | (apply Reads.rx; (focus (repeat (first | exact List.Mem.head _ | apply List.Mem.tail)); done)) | (apply Reads.rows (e := false); (focus (repeat (first | exact List.Mem.head _ | apply List.Mem.tail)); done)) | (apply Reads.rows (e := true); (focus (repeat (first | exact List.Mem.head _ | apply List.Mem.tail)); done))))) rfl ?_
  rintro ⟨Ar, cr, lr, nr, er⟩ hs2
  dsimp only at hs2
  have hje := hs1.trans hs2.symm
  simp only [Prod.mk.injEq] at hje
  obtain ⟨hll, rfl, rfl⟩ := hje
  dsimp only
  refine wlv (op_move (by decide) rfl) rfl ?_
  refine wlv (op_extract (by decide) rfl rfl) rfl ?_
  refine wlv (op_extract (by decide) rfl rfl) rfl ?_
  refine wlv (op_extract (by decide) rfl rfl) rfl ?_
  refine wlv (op_assign (by decide) rfl) rfl ?_
  refine wlv (op_assign (by decide) rfl) rfl ?_
  refine wlv (op_assign (by decide) rfl) rfl ?_
  refine WL.nil ?_
  refine WX.regs (L' := [(8, _), (9, _), (10, _), (11, _), (12, _), (13, _)]) (by repeat (first | exact RS.nil | refine RS.cons rfl ?_)) ?_
  refine WX.next ?_
  refine WC.seq ?_
  refine WC.region ?_
  refine wlx (op_call (f18_spec) ca18 (by decide) rfl (by apply Give.mk; (repeat (first | exact Takes.nil | exact Take.here | apply Takes.cons | apply Take.there)); repeat (first | exact Reads.nil | (apply Reads.rd; (focus (repeat (first | exact List.Mem.head _ | apply List.Mem.tail)); done)) | (apply Reads.own; (focus (repeat (first | exact List.Mem.head _ | apply List.Mem.tail)); done)) | (apply Reads.rx; (focus (repeat (first | exact List.Mem.head _ | apply List.Mem.tail)); done)) | (apply Reads.rows (e := false); (focus (repeat (first | exact List.Mem.head _ | apply List.Mem.tail)); done)) | (apply Reads.rows (e := true); (focus (repeat (first | exact List.Mem.head _ | apply List.Mem.tail)); done))))) rfl ?_
  rintro _ _
  refine wlv (op_move (by decide) rfl) rfl ?_
  refine wlgv (op_move (by decide) rfl) rfl rfl rfl ?_
  refine wlgv (op_move (by decide) rfl) rfl rfl rfl ?_
  refine wlgx (op_call (f41_spec As Ar ls.length cs lr.length cr ls lr rfl rfl (by omega)) ca41 (by decide) rfl (by apply Give.mk; (repeat (first | exact Takes.nil | exact Take.here | apply Takes.cons | apply Take.there)); repeat (first | exact Reads.nil | (apply Reads.rd; (focus (repeat (first | exact List.Mem.head _ | apply List.Mem.tail)); done)) | (apply Reads.own; (focus (repeat (first | exact List.Mem.head _ | apply List.Mem.tail)); done)) | (apply Reads.rx; (focus (repeat (first | exact List.Mem.head _ | apply List.Mem.tail)); done)) | (apply Reads.rows (e := false); (focus (repeat (first | exact List.Mem.head _ | apply List.Mem.tail)); done)) | (apply Reads.rows (e := true); (focus (repeat (first | exact List.Mem.head _ | apply List.Mem.tail)); done))))) rfl rfl rfl ?_
  rintro bq hq
  have hq2 := hq hll
  subst hq2
  refine wlv (op_pickT (by decide) rfl rfl) rfl ?_
  refine wlv (op_move (by decide) rfl) rfl ?_
  refine wlgv (op_move (by decide) rfl) rfl rfl rfl ?_
  refine wlgv (op_move (by decide) rfl) rfl rfl rfl ?_
  refine wlgv (op_eql (by decide) rfl rfl) rfl rfl rfl ?_
  refine wlv (op_pickT (by decide) rfl rfl) rfl ?_
  refine wlv (op_move (by decide) rfl) rfl ?_
  refine WL.split (t := 43) rfl (fun g43 => ?_) (fun g43 => ?_)
  ·
    refine wlgv (op_move (by decide) rfl) rfl rfl rfl ?_
    refine wlgv (op_move (by decide) rfl) rfl rfl rfl ?_
    refine wlgv (op_eql (by decide) rfl rfl) rfl rfl rfl ?_
    refine wlv (op_pickT (by decide) rfl rfl) rfl ?_
    refine wlv (op_assign (by decide) rfl) rfl ?_
    refine WL.nil ?_
    refine WX.regs (L' := [(6, _)]) (by repeat (first | exact RS.nil | refine RS.cons rfl ?_)) ?_
    refine WX.next ?_
    refine WC.ret ?_
    exact Fin.ret1 (by first | exact .inl rfl | exact .inr rfl) (_) (decide_eq_true rfl) Try.results11 (.tmp rfl) (by repeat (first | exact Takes.nil | exact Take.here | apply Takes.cons | apply Take.there)) (by simp)
  ·
    exact absurd rfl g43
end Go.Proofs.Ythephcghglldaaa.Sx
