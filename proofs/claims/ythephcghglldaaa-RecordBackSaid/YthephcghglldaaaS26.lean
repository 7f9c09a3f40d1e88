import Derived.Test.YthephcghglldaaaS20
set_option linter.unusedVariables false
set_option linter.unusedSimpArgs false
namespace Go.Proofs.Ythephcghglldaaa.Sx
open Go.RowKit Go.Proofs.Ythephcghglldaaa.Ty
attribute [local irreducible] blk own rd rx frameC

theorem sc16 (s : Sc) : s.cells.length = 16 := rfl
set_option maxHeartbeats 400000 in
set_option maxRecDepth 10000 in
theorem f35_spec (A : Option Addr) (M c : Nat) (l : List Sc) (hM : l.length = M) (hy : ∀ s ∈ l, s.y.s.length ≤ 140737488355328) :
    Spec Try.prog 35 [.slice A M c] [] [rd (.slice A M c) 16 M (l.flatMap Sc.cells), rowsC false (l.flatMap Sc.rows)] (R := Option Addr × Nat × List Bs)
      (fun q => q.2.2.length ≤ 12 ∧ ∀ r ∈ q.2.2, r.s.length = 256) (fun q => .slice q.1 q.2.2.length q.2.1)
      (fun q => [own (.slice q.1 q.2.2.length q.2.1) 22 1 q.2.2.length (q.2.2.map Bs.v), rowsC true q.2.2]) := by
  refine Spec.intro Try.func35 Try.ntmps35 rfl (by simp) (by simp) fun w0 => ?_
  refine WC.seq ?_
  refine WC.region ?_
  refine wlv (op_assign (by decide) rfl) rfl ?_
  refine WL.nil ?_
  refine WX.regs (L' := [(0, _)]) (by repeat (first | exact RS.nil | refine RS.cons rfl ?_)) ?_
  refine WX.next ?_
  refine WC.seq ?_
  refine WC.region ?_
  refine wlv (op_assign (by decide) rfl) rfl ?_
  refine WL.nil ?_
  refine WX.regs (L' := [(0, _), (3, _)]) (by repeat (first | exact RS.nil | refine RS.cons rfl ?_)) ?_
  refine WX.next ?_
  refine WC.seq ?_
  refine WC.seq ?_
  refine WC.region ?_
  refine wlv (op_assign (by decide) rfl) rfl ?_
  refine WL.nil ?_
  refine WX.regs (L' := [(0, _), (3, _), (4, _)]) (by repeat (first | exact RS.nil | refine RS.cons rfl ?_)) ?_
  refine WX.next ?_
  refine WC.block ?_
  refine WC.nilrows true ?_
  refine WC.nilslice 22 1 ?_
  refine WC.loop (X := Nat × List Bs × Option Addr × Nat) (fun q => 12 - q.1) (fun q => q.1 ≤ 12 ∧ q.2.1.length = q.1 ∧ ∀ r ∈ q.2.1, r.s.length = 256) (fun q => [(0, .slice A M c), (3, .slice q.2.2.1 q.2.1.length q.2.2.2), (4, .int .i64 (q.1 : Int))]) (fun q => [own (.slice q.2.2.1 q.2.1.length q.2.2.2) 22 1 q.2.1.length (q.2.1.map Bs.v), rowsC true q.2.1, rd (.slice A M c) 16 M (l.flatMap Sc.cells), rowsC false (l.flatMap Sc.rows), frameC w0 (MutF [])]) ((0, [], none, 0)) (⟨Nat.zero_le _, rfl, fun r hr => (by cases hr)⟩) (fun a w hs => hs.sub (by repeat (first | exact RS.nil | refine RS.cons (by first | rfl | exact congrArg (fun z : Int => some (Value.int .i64 z)) (by omega)) ?_)) (by repeat (first | exact Takes.nil | exact Take.here | apply Takes.cons | apply Take.there))) ?_
  rintro ⟨i, rs, Ao, co⟩ ⟨hi, hrl, hr⟩
  try dsimp only at hi hrl hr ⊢
  refine WC.seq ?_
  refine WC.seq ?_
  refine WC.region ?_
  refine wlv (op_move (by decide) rfl) rfl ?_
  refine wlv (op_move (by decide) rfl) rfl ?_
  refine wlv (op_len Try.underlying67 (by decide) rfl) rfl ?_
  refine wlv (op_lss (by decide) rfl rfl) rfl ?_
  refine wlv (op_move (by decide) rfl) rfl ?_
  refine WL.split (t := 9) rfl (fun g9 => ?_) (fun g9 => ?_)
  ·
    refine wlgv (op_move (by decide) rfl) rfl rfl rfl ?_
    refine wlgv (op_lss (by decide) rfl rfl) rfl rfl rfl ?_
    refine wlv (op_pickT (by decide) rfl rfl) rfl ?_
    refine WL.nil ?_
    refine WX.regs (L' := [(0, _), (3, _), (4, _), (12, _)]) (by repeat (first | exact RS.nil | refine RS.cons rfl ?_)) ?_
    refine WX.next ?_
    refine WC.cond rfl (fun h1 => ?_) (fun h1 => ?_)
    ·
      refine WC.skip ?_
      refine WX.next ?_
      refine WC.seq ?_
      refine WC.block ?_
      refine WC.region ?_
      obtain ⟨si, hsi⟩ : ∃ s, l[i]? = some s := ⟨l[i]'(by omega), List.getElem?_eq_getElem _⟩
      have hms : si ∈ l := List.mem_of_getElem? hsi
      have hx : ∀ j, j = i * 16 → ((l.flatMap Sc.cells).drop j).take 16 = si.cells := fun j hj => by rw [hj]; exact flat_at sc16 l i si hsi
      refine WL.dup (c := rowsC false (l.flatMap Sc.rows)) (d := rowsC false si.rows) (by repeat (first | exact List.Mem.head _ | apply List.Mem.tail)) rfl rfl (rowsC_read fun r hr => List.mem_flatMap.2 ⟨si, hms, hr⟩) ?_
      refine wlv (op_move (by decide) rfl) rfl ?_
      refine wlv (op_move (by decide) rfl) rfl ?_
      refine wlv (op_move (by decide) rfl) rfl ?_
      refine wlv (op_index Try.underlying67 sz40 (by decide) rfl rfl (by omega) (by omega) (by decide) (Src.rd (xs := l.flatMap Sc.cells) (by repeat (first | exact List.Mem.head _ | apply List.Mem.tail)))) rfl ?_
      refine wlv (op_loadSN ag40 (by decide) rfl (Src.rd (xs := l.flatMap Sc.cells) (by repeat (first | exact List.Mem.head _ | apply List.Mem.tail))) (by rw [hx _ (by omega)]; rfl) (by decide)) rfl ?_
      rw [hx _ (by omega)]
      refine wlx (op_call (f24_spec si (hy si hms)) ca24 (by decide) rfl (by apply Give.mk; (repeat (first | exact Takes.nil | exact Take.here | apply Takes.cons | apply Take.there)); repeat (first | exact Reads.nil | (apply Reads.rd; (focus (repeat (first | exact List.Mem.head _ | apply List.Mem.tail)); done)) | (apply Reads.own; (focus (repeat (first | exact List.Mem.head _ | apply List.Mem.tail)); done)) | (apply Reads.rx; (focus (repeat (first | exact List.Mem.head _ | apply List.Mem.tail)); done)) | (apply Reads.rows (e := false); (focus (repeat (first | exact List.Mem.head _ | apply List.Mem.tail)); done)) | (apply Reads.rows (e := true); (focus (repeat (first | exact List.Mem.head _ | apply List.Mem.tail)); done))))) rfl ?_
      rintro ⟨As, cs, ls⟩ hls
      dsimp only at hls
      dsimp only
      refine wl1 (op_lit1 Try.underlying52 ti22 rfl (by decide) (by decide) rfl rfl) rfl fun b1 => ?_
      refine wl2 (op_append Try.underlying52 ti22 rfl (by decide) (by decide) rfl rfl (by repeat (first | exact Take.here | apply Take.there)) (by first | (apply Src.rd; (repeat (first | exact List.Mem.head _ | apply List.Mem.tail)); done) | (apply Src.own; (repeat (first | exact List.Mem.head _ | apply List.Mem.tail)); done) | (apply Src.rx; (repeat (first | exact List.Mem.head _ | apply List.Mem.tail)); done)) (by rfl) (by omega) (by omega)) rfl fun A1 c1 => ?_
      refine wlv (op_assign (by decide) rfl) rfl ?_
      refine WL.nil ?_
      refine WX.regs (L' := [(0, _), (3, _), (4, _)]) (by repeat (first | exact RS.nil | refine RS.cons rfl ?_)) ?_
      refine WX.in_normal ?_
      refine WX.next ?_
      refine WC.region ?_
      refine wlv (op_move (by decide) rfl) rfl ?_
      refine wlv (op_add (by decide) rfl rfl (by omega)) rfl ?_
      refine wlv (op_assign (by decide) rfl) rfl ?_
      refine WL.nil ?_
      refine WX.regs (L' := [(0, _), (3, _), (4, _)]) (by repeat (first | exact RS.nil | refine RS.cons rfl ?_)) ?_
      refine WX.ownEq (v := .slice A1 (rs.length + 1) c1) ((rs ++ [(⟨As, cs, ls⟩ : Bs)]).map Bs.v) (by repeat (first | exact Take.here | apply Take.there)) (by rw [← map_push]; unfold Bs.v; rw [hls]; rfl) ?_
      refine WX.merge2 (c1 := rowsC true rs) (c2 := own (.slice As 256 cs) 5 1 256 (bvs ls)) (d := rowsC true (rs ++ [⟨As, cs, ls⟩])) (by repeat (first | exact Take.here | apply Take.there)) (by repeat (first | exact Take.here | apply Take.there)) (rowsC_snoc (own_le_bs hls) (fun _ => by simp)) ?_
      rw [len_push rs ⟨As, cs, ls⟩]
      refine WX.meet ((i + 1, rs ++ [⟨As, cs, ls⟩], A1, c1)) ⟨⟨by simp only []; omega, by simp [hrl], fun r h => (by rcases List.mem_append.1 h with h | h; exact hr r h; rw [List.mem_singleton.1 h]; exact hls)⟩, by simp only []; omega⟩ (fun a w hs => hs.sub (by repeat (first | exact RS.nil | refine RS.cons (by first | rfl | exact congrArg (fun z : Int => some (Value.int .i64 z)) (by omega)) ?_)) (by repeat (first | exact Takes.nil | exact Take.here | apply Takes.cons | apply Take.there)))
    ·
      refine WC.exit ?_
      refine WX.then_exit ?_
      refine WX.then_exit ?_
      refine WX.in_hit ?_
      refine WX.next ?_
      refine WC.seq ?_
      refine WC.region ?_
      refine wlv (op_move (by decide) rfl) rfl ?_
      refine wlv (op_assign (by decide) rfl) rfl ?_
      refine WL.nil ?_
      refine WX.regs (L' := [(2, _)]) (by repeat (first | exact RS.nil | refine RS.cons rfl ?_)) ?_
      refine WX.next ?_
      refine WC.ret ?_
      exact Fin.ret1 (by first | exact .inl rfl | exact .inr rfl) ((Ao, co, rs)) (⟨by dsimp only; omega, hr⟩) Try.results35 (.tmp rfl) (by repeat (first | exact Takes.nil | exact Take.here | apply Takes.cons | apply Take.there)) (by simp)
  ·
    refine wlg_no rfl rfl rfl rfl rfl (by decide) ?_
    refine wlg_no rfl rfl rfl rfl rfl (by decide) ?_
    refine wlv (op_pickF (by decide) rfl rfl) rfl ?_
    refine WL.nil ?_
    refine WX.regs (L' := [(0, _), (3, _), (4, _), (12, _)]) (by repeat (first | exact RS.nil | refine RS.cons rfl ?_)) ?_
    refine WX.next ?_
    refine WC.condF rfl ?_
    refine WC.exit ?_
    refine WX.then_exit ?_
    refine WX.then_exit ?_
    refine WX.in_hit ?_
    refine WX.next ?_
    refine WC.seq ?_
    refine WC.region ?_
    refine wlv (op_move (by decide) rfl) rfl ?_
    refine wlv (op_assign (by decide) rfl) rfl ?_
    refine WL.nil ?_
    refine WX.regs (L' := [(2, _)]) (by repeat (first | exact RS.nil | refine RS.cons rfl ?_)) ?_
    refine WX.next ?_
    refine WC.ret ?_
    exact Fin.ret1 (by first | exact .inl rfl | exact .inr rfl) ((Ao, co, rs)) (⟨by dsimp only; omega, hr⟩) Try.results35 (.tmp rfl) (by repeat (first | exact Takes.nil | exact Take.here | apply Takes.cons | apply Take.there)) (by simp)
end Go.Proofs.Ythephcghglldaaa.Sx
