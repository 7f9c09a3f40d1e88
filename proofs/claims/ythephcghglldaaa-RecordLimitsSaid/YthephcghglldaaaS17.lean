import Derived.Test.YthephcghglldaaaS16
import Derived.Test.YthephcghglldaaaSl
set_option linter.unusedVariables false
set_option linter.unusedSimpArgs false
namespace Go.Proofs.Ythephcghglldaaa.Sx
open Go.RowKit Go.Proofs.Ythephcghglldaaa.Ty
attribute [local irreducible] blk own rd rx frameC

def Rs.r (r : Rs) : Rcd := ⟨r.k, r.g, r.n, r.b.s⟩
theorem jf_ok {ss : List (List UInt8)} {f : Pt} : ∀ {r i : Nat} {acc : List UInt8} {q : Rcd} {c : Int}, jf ss f r i acc = (q, c, 0) → c = f.c ∧ (i ≤ ss.length → i + r ≤ ss.length) := by
  intro r
  induction r with
  | zero =>
    intro i acc q c h
    unfold jf at h
    cases h
    exact ⟨rfl, fun h => h⟩
  | succ r ih =>
    intro i acc q c h
    unfold jf at h
    split at h
    · cases h
    · split at h
      · rename_i h1 h2
        simp only [Prod.mk.injEq] at h
        exact absurd h.2.2 h2
      · split at h
        · cases h
        · have := ih h
          exact ⟨this.1, fun _ => by have := this.2 (by omega); omega⟩
theorem join_ok {ss : List (List UInt8)} {q : Rcd} {c : Int} (h : (q, c, 0) = join ss) : 1 ≤ c ∧ c ≤ ss.length := by
  have h := h.symm
  unfold join at h
  split at h
  · cases h
  · split at h
    · rename_i h1 h2
      simp only [Prod.mk.injEq] at h
      exact absurd h.2.2 h2
    · split at h
      · cases h
      · rename_i h1 h2 h3
        have h4 := jf_ok h
        have h5 := dec_fine (bs := ss.getD 0 []) (p := (dec (ss.getD 0 [])).1) (by rw [← Decidable.not_not.1 h2])
        have h6 := h5.1
        unfold Pt.chk at h6
        obtain ⟨_, h7, h8, _⟩ := chk_ok h6
        have h9 := h4.2 (by omega)
        omega
/-- The complete records of a generation from a place on. -/
def scanF (ss : List (List UInt8)) (g n : Int) : Nat → Nat → List Rcd → List Rcd × Int × Int
  | 0, at_, acc => (acc, (at_ : Int), 0)
  | fuel + 1, at_, acc =>
    if ¬ at_ < ss.length then (acc, (at_ : Int), 0)
    else if ¬ (join (ss.drop at_)).2.2 = 0 then (acc, (at_ : Int), (join (ss.drop at_)).2.2)
    else if ¬ ((join (ss.drop at_)).1.g = g ∧ (join (ss.drop at_)).1.n = n + acc.length) then (acc, (at_ : Int), 30)
    else scanF ss g n fuel (at_ + (join (ss.drop at_)).2.1.toNat) (acc ++ [(join (ss.drop at_)).1])
def scan (g n : Int) (ss : List (List UInt8)) : List Rcd × Int × Int := if ¬ fineP 0 g n then ([], 0, 2) else scanF ss g n ss.length 0 []
def salvF (ss : List (List UInt8)) : Nat → Nat → List Rcd → List Rcd
  | 0, _, acc => acc
  | fuel + 1, at_, acc =>
    if ¬ at_ < ss.length then acc
    else if ¬ (join (ss.drop at_)).2.2 = 0 then salvF ss fuel (at_ + 1) acc
    else salvF ss fuel (at_ + (join (ss.drop at_)).2.1.toNat) (acc ++ [(join (ss.drop at_)).1])
def salv (ss : List (List UInt8)) : List Rcd := salvF ss ss.length 0 []
section
variable {ss : List (List UInt8)} {g n : Int} {fuel at_ : Nat} {acc : List Rcd} {q : Rcd} {c e : Int}
theorem scanF_end (h : ¬ at_ < ss.length) : scanF ss g n fuel at_ acc = (acc, (at_ : Int), 0) := by
  cases fuel with
  | zero => rfl
  | succ f => unfold scanF; rw [if_pos h]
theorem scanF_err (h : at_ < ss.length) (hj : (q, c, e) = join (ss.drop at_)) (he : ¬ e = 0) : scanF ss g n (fuel + 1) at_ acc = (acc, (at_ : Int), e) := by
  unfold scanF; rw [← hj, if_neg (fun k => k h), if_pos he]
theorem scanF_seq (h : at_ < ss.length) (hj : (q, c, 0) = join (ss.drop at_)) (he : ¬ (q.g = g ∧ q.n = n + acc.length)) : scanF ss g n (fuel + 1) at_ acc = (acc, (at_ : Int), 30) := by
  unfold scanF; rw [← hj, if_neg (fun k => k h), if_neg (fun k => k rfl), if_pos he]
theorem scanF_go (h : at_ < ss.length) (hj : (q, c, 0) = join (ss.drop at_)) (he : q.g = g ∧ q.n = n + acc.length) : scanF ss g n (fuel + 1) at_ acc = scanF ss g n fuel (at_ + c.toNat) (acc ++ [q]) := by
  conv => lhs; unfold scanF
  rw [← hj, if_neg (fun k => k h), if_neg (fun k => k rfl), if_neg (fun k => k he)]
theorem salvF_end (h : ¬ at_ < ss.length) : salvF ss fuel at_ acc = acc := by
  cases fuel with
  | zero => rfl
  | succ f => unfold salvF; rw [if_pos h]
theorem salvF_err (h : at_ < ss.length) (hj : (q, c, e) = join (ss.drop at_)) (he : ¬ e = 0) : salvF ss (fuel + 1) at_ acc = salvF ss fuel (at_ + 1) acc := by
  conv => lhs; unfold salvF
  rw [← hj, if_neg (fun k => k h), if_pos he]
theorem salvF_go (h : at_ < ss.length) (hj : (q, c, 0) = join (ss.drop at_)) : salvF ss (fuel + 1) at_ acc = salvF ss fuel (at_ + c.toNat) (acc ++ [q]) := by
  conv => lhs; unfold salvF
  rw [← hj, if_neg (fun k => k h), if_neg (fun k => k rfl)]
end
set_option maxHeartbeats 400000 in
set_option maxRecDepth 10000 in
theorem f39_spec (g n : Int) (A : Option Addr) (M c : Nat) (rs : List Bs) (hM : rs.length = M) (hMx : M ≤ 1000000) :
    Spec Try.prog 39 [.int .i64 g, .int .i64 n, .slice A M c] [] [rd (.slice A M c) 1 M (rs.map Bs.v), rowsC false rs] (R := Option Addr × Nat × List Rs × Int × Int)
      (fun q => (q.2.2.1.map Rs.r, q.2.2.2) = scan g n (rs.map Bs.s))
      (fun q => .tuple #[.slice q.1 q.2.2.1.length q.2.1, .int .i64 q.2.2.2.1, .int .i64 q.2.2.2.2])
      (fun q => [own (.slice q.1 q.2.2.1.length q.2.1) 50 4 q.2.2.1.length (q.2.2.1.flatMap Rs.cells), rowsC true (q.2.2.1.map Rs.b)]) := by
  refine Spec.intro Try.func39 Try.ntmps39 rfl (by simp) (by simp) fun w0 => ?_
  refine WC.seq ?_
  refine WC.region ?_
  refine wlv (op_assign (by decide) rfl) rfl ?_
  refine wlv (op_assign (by decide) rfl) rfl ?_
  refine wlv (op_assign (by decide) rfl) rfl ?_
  refine WL.nil ?_
  refine WX.regs (L' := [(0, _), (1, _), (2, _), (6, _), (7, _), (8, _)]) (by repeat (first | exact RS.nil | refine RS.cons rfl ?_)) ?_
  refine WX.next ?_
  refine WC.scope ?_
  refine WC.seq ?_
  refine WC.seq ?_
  refine WC.region ?_
  refine wlv (op_move (by decide) rfl) rfl ?_
  refine wlx (op_call (f50_spec _ _) ca50 (by decide) rfl (by apply Give.mk; (repeat (first | exact Takes.nil | exact Take.here | apply Takes.cons | apply Take.there)); repeat (first | exact Reads.nil | (apply Reads.rd; (focus (repeat (first | exact List.Mem.head _ | apply List.Mem.tail)); done)) | (apply Reads.own; (focus (repeat (first | exact List.Mem.head _ | apply List.Mem.tail)); done)) | (apply Reads.rx; (focus (repeat (first | exact List.Mem.head _ | apply List.Mem.tail)); done)) | (apply Reads.rows (e := false); (focus (repeat (first | exact List.Mem.head _ | apply List.Mem.tail)); done)) | (apply Reads.rows (e := true); (focus (repeat (first | exact List.Mem.head _ | apply List.Mem.tail)); done))))) rfl ?_
  rintro _ rfl
  refine wlv (op_notp (by decide) rfl) rfl ?_
  refine wlv (op_move (by decide) rfl) rfl ?_
  refine WL.split (t := 15) rfl (fun g15 => ?_) (fun g15 => ?_)
  ·
    refine wlg_no rfl rfl rfl rfl rfl (by decide) ?_
    refine wlg_no rfl rfl rfl rfl rfl (by decide) ?_
    refine wlg_no rfl rfl rfl rfl rfl (by decide) ?_
    refine wlv (op_pickT (by decide) rfl rfl) rfl ?_
    refine WL.nil ?_
    refine WX.regs (L' := [(0, _), (1, _), (2, _), (6, _), (7, _), (8, _), (19, _)]) (by repeat (first | exact RS.nil | refine RS.cons rfl ?_)) ?_
    refine WX.next ?_
    refine WC.condT rfl ?_
    refine WC.seq ?_
    refine WC.region ?_
    refine wlv (op_assign (by decide) rfl) rfl ?_
    refine wlv (op_assign (by decide) rfl) rfl ?_
    refine wlv (op_assign (by decide) rfl) rfl ?_
    refine WL.nil ?_
    refine WX.nilrows true ?_
    refine WX.nilown 50 4 ?_
    refine WX.regs (L' := [(6, _), (7, _), (8, _)]) (by repeat (first | exact RS.nil | refine RS.cons rfl ?_)) ?_
    refine WX.next ?_
    refine WC.ret ?_
    refine WX.then_ret ?_
    refine WX.scope_ret ?_
    exact Fin.ret3 (by first | exact .inl rfl | exact .inr rfl) ((none, 0, [], 0, 2)) (by unfold scan; rw [if_pos (by simp only [fineP]; omega)]; rfl) Try.results39 rfl (.tmp rfl) (.tmp rfl) (.tmp rfl) (by repeat (first | exact Takes.nil | exact Take.here | apply Takes.cons | apply Take.there)) (by simp)
  ·
    refine wlgv (op_move (by decide) rfl) rfl rfl rfl ?_
    refine wlgx (op_call (f50_spec _ _) ca50 (by decide) rfl (by apply Give.mk; (repeat (first | exact Takes.nil | exact Take.here | apply Takes.cons | apply Take.there)); repeat (first | exact Reads.nil | (apply Reads.rd; (focus (repeat (first | exact List.Mem.head _ | apply List.Mem.tail)); done)) | (apply Reads.own; (focus (repeat (first | exact List.Mem.head _ | apply List.Mem.tail)); done)) | (apply Reads.rx; (focus (repeat (first | exact List.Mem.head _ | apply List.Mem.tail)); done)) | (apply Reads.rows (e := false); (focus (repeat (first | exact List.Mem.head _ | apply List.Mem.tail)); done)) | (apply Reads.rows (e := true); (focus (repeat (first | exact List.Mem.head _ | apply List.Mem.tail)); done))))) rfl rfl rfl ?_
    rintro _ rfl
    refine wlgv (op_notp (by decide) rfl) rfl rfl rfl ?_
    refine wlv (op_pickF (by decide) rfl rfl) rfl ?_
    refine WL.nil ?_
    refine WX.regs (L' := [(0, _), (1, _), (2, _), (6, _), (7, _), (8, _), (19, _)]) (by repeat (first | exact RS.nil | refine RS.cons rfl ?_)) ?_
    refine WX.next ?_
    refine WC.cond rfl (fun h1 => ?_) (fun h1 => ?_)
    ·
      refine WC.seq ?_
      refine WC.region ?_
      refine wlv (op_assign (by decide) rfl) rfl ?_
      refine wlv (op_assign (by decide) rfl) rfl ?_
      refine wlv (op_assign (by decide) rfl) rfl ?_
      refine WL.nil ?_
      refine WX.nilrows true ?_
      refine WX.nilown 50 4 ?_
      refine WX.regs (L' := [(6, _), (7, _), (8, _)]) (by repeat (first | exact RS.nil | refine RS.cons rfl ?_)) ?_
      refine WX.next ?_
      refine WC.ret ?_
      refine WX.then_ret ?_
      refine WX.scope_ret ?_
      exact Fin.ret3 (by first | exact .inl rfl | exact .inr rfl) ((none, 0, [], 0, 2)) (by unfold scan; rw [if_pos (by simp only [fineP]; omega)]; rfl) Try.results39 rfl (.tmp rfl) (.tmp rfl) (.tmp rfl) (by repeat (first | exact Takes.nil | exact Take.here | apply Takes.cons | apply Take.there)) (by simp)
    ·
      refine WC.skip ?_
      refine WX.next ?_
      refine WC.seq ?_
      refine WC.label ?_
      refine WX.next ?_
      refine WC.seq ?_
      refine WC.block ?_
      refine WC.nilrows true ?_
      refine WC.nilslice 50 4 ?_
      refine WC.loop (X := Nat × List Rs × Option Addr × Nat) (fun q => M - q.1) (fun q => q.1 ≤ M ∧ q.2.1.length ≤ q.1 ∧ ∃ fuel, M - q.1 ≤ fuel ∧ scan g n (rs.map Bs.s) = scanF (rs.map Bs.s) g n fuel q.1 (q.2.1.map Rs.r)) (fun q => [(0, .int .i64 g), (1, .int .i64 n), (2, .slice A M c), (6, .slice q.2.2.1 q.2.1.length q.2.2.2), (7, .int .i64 (q.1 : Int)), (8, .int .i64 0)]) (fun q => [own (.slice q.2.2.1 q.2.1.length q.2.2.2) 50 4 q.2.1.length (q.2.1.flatMap Rs.cells), rowsC true (q.2.1.map Rs.b), rd (.slice A M c) 1 M (rs.map Bs.v), rowsC false rs, frameC w0 (MutF [])]) ((0, [], none, 0)) (⟨Nat.zero_le _, Nat.le_refl _, M, Nat.le_refl _, by unfold scan; rw [if_neg (by simp only [fineP]; omega), List.length_map, hM]; rfl⟩) (fun a w hs => hs.sub (by repeat (first | exact RS.nil | refine RS.cons (by first | rfl | exact congrArg (fun z : Int => some (Value.int .i64 z)) (by omega)) ?_)) (by repeat (first | exact Takes.nil | exact Take.here | apply Takes.cons | apply Take.there))) ?_
      rintro ⟨pos, l, Ao, co⟩ ⟨hp, hll, fuel, hfu, hsc⟩
      try dsimp only at hp hll hfu hsc ⊢
      refine WC.seq ?_
      refine WC.seq ?_
      refine WC.region ?_
      refine wlv (op_move (by decide) rfl) rfl ?_
      refine wlv (op_move (by decide) rfl) rfl ?_
      refine wlv (op_len Try.underlying52 (by decide) rfl) rfl ?_
      refine wlv (op_lss (by decide) rfl rfl) rfl ?_
      refine WL.nil ?_
      refine WX.regs (L' := [(0, _), (1, _), (2, _), (6, _), (7, _), (8, _), (23, _)]) (by repeat (first | exact RS.nil | refine RS.cons rfl ?_)) ?_
      refine WX.next ?_
      refine WC.cond rfl (fun h2 => ?_) (fun h2 => ?_)
      ·
        have hlt : pos < (rs.map Bs.s).length := by rw [List.length_map]; omega
        obtain ⟨fu, rfl⟩ : ∃ fu, fuel = fu + 1 := ⟨fuel - 1, by omega⟩
        refine WC.skip ?_
        refine WX.next ?_
        refine WC.block ?_
        refine WC.seq ?_
        refine WC.region ?_
        refine WL.dup (c := rd (.slice A M c) 1 M (rs.map Bs.v)) (d := rd (sliced A pos M c 1) 1 (M - pos) ((rs.drop pos).map Bs.v)) (by repeat (first | exact List.Mem.head _ | apply List.Mem.tail)) (by simp) (by simp) (rd_dropR hM (by omega)) ?_
        refine WL.dup (c := rowsC false rs) (d := rowsC false (rs.drop pos)) (by repeat (first | exact List.Mem.head _ | apply List.Mem.tail)) rfl rfl rowsC_drop ?_
        refine wlv (op_move (by decide) rfl) rfl ?_
        refine wlv (op_move (by decide) rfl) rfl ?_
        refine wlv (op_slice_l Try.underlying52 sz22 (by decide) rfl rfl (by omega) (by omega)) rfl ?_
        refine wlx (op_call (f34_spec _ (M - pos) _ (rs.drop pos) (by simp; omega)) ca34 (by decide) rfl (by apply Give.mk; (repeat (first | exact Takes.nil | exact Take.here | apply Takes.cons | apply Take.there)); repeat (first | exact Reads.nil | (apply Reads.rd; (focus (repeat (first | exact List.Mem.head _ | apply List.Mem.tail)); done)) | (apply Reads.own; (focus (repeat (first | exact List.Mem.head _ | apply List.Mem.tail)); done)) | (apply Reads.rx; (focus (repeat (first | exact List.Mem.head _ | apply List.Mem.tail)); done)) | (apply Reads.rows (e := false); (focus (repeat (first | exact List.Mem.head _ | apply List.Mem.tail)); done)) | (apply Reads.rows (e := true); (focus (repeat (first | exact List.Mem.head _ | apply List.Mem.tail)); done))))) rfl ?_
        rintro ⟨Ar, cr, rec, cnt, e⟩ hj
        dsimp only at hj
        rw [List.map_drop] at hj
        dsimp only
        refine wlv (op_move (by decide) rfl) rfl ?_
        refine wlv (op_extract (by decide) rfl rfl) rfl ?_
        refine wlv (op_extract (by decide) rfl rfl) rfl ?_
        refine wlv (op_extract (by decide) rfl rfl) rfl ?_
        refine wl1 (op_alloc ti50 (by decide)) rfl fun b1 => ?_
        refine wl (op_storeAll sz50 rfl rfl (by repeat (first | exact Take.here | apply Take.there)) (by first | rfl | (simp [Value.cells]; done) | (simp [Value.cells]; omega)) (by first | rfl | exact wvs_one _ | exact bvs_one _) (by first | rfl | (simp [Value.cells]; done) | (simp [Value.cells]; omega))) rfl ?_
        change WL _ _ _ _ _ _ _
        refine wlv (op_assign (by decide) rfl) rfl ?_
        refine wlv (op_assign (by decide) rfl) rfl ?_
        refine WL.nil ?_
        refine WX.regs (L' := [(0, _), (1, _), (2, _), (6, _), (7, _), (8, _), (9, _), (10, _), (11, _)]) (by repeat (first | exact RS.nil | refine RS.cons rfl ?_)) ?_
        refine WX.next ?_
        refine WC.seq ?_
        refine WC.block ?_
        refine WC.seq ?_
        refine WC.region ?_
        refine wlv (op_move (by decide) rfl) rfl ?_
        refine wlv (op_neq (by decide) rfl rfl) rfl ?_
        refine wlv (op_assign (by decide) rfl) rfl ?_
        refine WL.nil ?_
        refine WX.regs (L' := [(0, _), (1, _), (2, _), (6, _), (7, _), (8, _), (9, _), (10, _), (11, _), (32, _)]) (by repeat (first | exact RS.nil | refine RS.cons rfl ?_)) ?_
        refine WX.next ?_
        refine WC.cond rfl (fun h3 => ?_) (fun h3 => ?_)
        ·
          refine WC.seq ?_
          refine WC.region ?_
          refine wlv (op_move (by decide) rfl) rfl ?_
          refine wlv (op_assign (by decide) rfl) rfl ?_
          refine WL.nil ?_
          refine WX.regs (L' := [(6, _), (7, _), (8, _)]) (by repeat (first | exact RS.nil | refine RS.cons rfl ?_)) ?_
          refine WX.next ?_
          refine WC.exit ?_
          refine WX.in_miss rfl ?_
          refine WX.then_exit ?_
          refine WX.in_miss rfl ?_
          refine WX.then_exit ?_
          refine WX.in_hit ?_
          refine WX.next ?_
          refine WC.seq ?_
          refine WC.region ?_
          refine wlv (op_move (by decide) rfl) rfl ?_
          refine wlv (op_move (by decide) rfl) rfl ?_
          refine wlv (op_move (by decide) rfl) rfl ?_
          refine wlv (op_assign (by decide) rfl) rfl ?_
          refine wlv (op_assign (by decide) rfl) rfl ?_
          refine wlv (op_assign (by decide) rfl) rfl ?_
          refine WL.nil ?_
          refine WX.regs (L' := [(6, _), (7, _), (8, _)]) (by repeat (first | exact RS.nil | refine RS.cons rfl ?_)) ?_
          refine WX.next ?_
          refine WC.ret ?_
          refine WX.scope_ret ?_
          exact Fin.ret3 (by first | exact .inl rfl | exact .inr rfl) ((_, _, l, pos, _)) (by dsimp only; rw [hsc]; first | exact (scanF_end (by rw [List.length_map]; omega)).symm | exact (scanF_err hlt hj (by omega)).symm | exact (scanF_seq hlt hj (by rw [List.length_map]; omega)).symm) Try.results39 rfl (.tmp rfl) (.tmp rfl) (.tmp rfl) (by repeat (first | exact Takes.nil | exact Take.here | apply Takes.cons | apply Take.there)) (by simp)
        ·
          obtain rfl : e = 0 := by omega
          obtain ⟨hc1, hc2⟩ := join_ok hj
          rw [List.length_drop, List.length_map] at hc2
          refine WC.seq ?_
          refine WC.region ?_
          refine wlv (op_fieldAddr fo50_1 (by decide) rfl) rfl ?_
          refine wlv (op_load1 fl3 (by decide) rfl (by repeat (first | exact List.Mem.head _ | apply List.Mem.tail)) rfl) rfl ?_
          refine wlv (op_move (by decide) rfl) rfl ?_
          refine wlv (op_neq (by decide) rfl rfl) rfl ?_
          refine wlv (op_move (by decide) rfl) rfl ?_
          refine WL.split (t := 41) rfl (fun g41 => ?_) (fun g41 => ?_)
          ·
            refine wlg_no rfl rfl rfl rfl rfl (by decide) ?_
            refine wlg_no rfl rfl rfl rfl rfl (by decide) ?_
            refine wlg_no rfl rfl rfl rfl rfl (by decide) ?_
            refine wlg_no rfl rfl rfl rfl rfl (by decide) ?_
            refine wlg_no rfl rfl rfl rfl rfl (by decide) ?_
            refine wlg_no rfl rfl rfl rfl rfl (by decide) ?_
            refine wlg_no rfl rfl rfl rfl rfl (by decide) ?_
            refine wlv (op_pickT (by decide) rfl rfl) rfl ?_
            refine wlv (op_assign (by decide) rfl) rfl ?_
            refine WL.nil ?_
            refine WX.regs (L' := [(0, _), (1, _), (2, _), (6, _), (7, _), (8, _), (9, _), (10, _), (36, _)]) (by repeat (first | exact RS.nil | refine RS.cons rfl ?_)) ?_
            refine WX.next ?_
            refine WC.condT rfl ?_
            refine WC.seq ?_
            refine WC.region ?_
            refine wlv (op_assign (by decide) rfl) rfl ?_
            refine WL.nil ?_
            refine WX.regs (L' := [(6, _), (7, _), (8, _)]) (by repeat (first | exact RS.nil | refine RS.cons rfl ?_)) ?_
            refine WX.next ?_
            refine WC.exit ?_
            refine WX.in_miss rfl ?_
            refine WX.then_exit ?_
            refine WX.in_miss rfl ?_
            refine WX.then_exit ?_
            refine WX.in_hit ?_
            refine WX.next ?_
            refine WC.seq ?_
            refine WC.region ?_
            refine wlv (op_move (by decide) rfl) rfl ?_
            refine wlv (op_move (by decide) rfl) rfl ?_
            refine wlv (op_move (by decide) rfl) rfl ?_
            refine wlv (op_assign (by decide) rfl) rfl ?_
            refine wlv (op_assign (by decide) rfl) rfl ?_
            refine wlv (op_assign (by decide) rfl) rfl ?_
            refine WL.nil ?_
            refine WX.regs (L' := [(6, _), (7, _), (8, _)]) (by repeat (first | exact RS.nil | refine RS.cons rfl ?_)) ?_
            refine WX.next ?_
            refine WC.ret ?_
            refine WX.scope_ret ?_
            exact Fin.ret3 (by first | exact .inl rfl | exact .inr rfl) ((_, _, l, pos, _)) (by dsimp only; rw [hsc]; first | exact (scanF_end (by rw [List.length_map]; omega)).symm | exact (scanF_err hlt hj (by omega)).symm | exact (scanF_seq hlt hj (by rw [List.length_map]; omega)).symm) Try.results39 rfl (.tmp rfl) (.tmp rfl) (.tmp rfl) (by repeat (first | exact Takes.nil | exact Take.here | apply Takes.cons | apply Take.there)) (by simp)
          ·
            refine wlgv (op_fieldAddr fo50_2 (by decide) rfl) rfl rfl rfl ?_
            refine wlgv (op_load1 fl3 (by decide) rfl (by repeat (first | exact List.Mem.head _ | apply List.Mem.tail)) rfl) rfl rfl rfl ?_
            refine wlgv (op_move (by decide) rfl) rfl rfl rfl ?_
            refine wlgv (op_move (by decide) rfl) rfl rfl rfl ?_
            refine wlgv (op_len Try.underlying77 (by decide) rfl) rfl rfl rfl ?_
            refine wlgv (op_add (by decide) rfl rfl (by omega)) rfl rfl rfl ?_
            refine wlgv (op_neq (by decide) rfl rfl) rfl rfl rfl ?_
            refine wlv (op_pickF (by decide) rfl rfl) rfl ?_
            refine wlv (op_assign (by decide) rfl) rfl ?_
            refine WL.nil ?_
            refine WX.regs (L' := [(0, _), (1, _), (2, _), (6, _), (7, _), (8, _), (9, _), (10, _), (36, _)]) (by repeat (first | exact RS.nil | refine RS.cons rfl ?_)) ?_
            refine WX.next ?_
            refine WC.cond rfl (fun h4 => ?_) (fun h4 => ?_)
            ·
              refine WC.seq ?_
              refine WC.region ?_
              refine wlv (op_assign (by decide) rfl) rfl ?_
              refine WL.nil ?_
              refine WX.regs (L' := [(6, _), (7, _), (8, _)]) (by repeat (first | exact RS.nil | refine RS.cons rfl ?_)) ?_
              refine WX.next ?_
              refine WC.exit ?_
              refine WX.in_miss rfl ?_
              refine WX.then_exit ?_
              refine WX.in_miss rfl ?_
              refine WX.then_exit ?_
              refine WX.in_hit ?_
              refine WX.next ?_
              refine WC.seq ?_
              refine WC.region ?_
              refine wlv (op_move (by decide) rfl) rfl ?_
              refine wlv (op_move (by decide) rfl) rfl ?_
              refine wlv (op_move (by decide) rfl) rfl ?_
              refine wlv (op_assign (by decide) rfl) rfl ?_
              refine wlv (op_assign (by decide) rfl) rfl ?_
              refine wlv (op_assign (by decide) rfl) rfl ?_
              refine WL.nil ?_
              refine WX.regs (L' := [(6, _), (7, _), (8, _)]) (by repeat (first | exact RS.nil | refine RS.cons rfl ?_)) ?_
              refine WX.next ?_
              refine WC.ret ?_
              refine WX.scope_ret ?_
              exact Fin.ret3 (by first | exact .inl rfl | exact .inr rfl) ((_, _, l, pos, _)) (by dsimp only; rw [hsc]; first | exact (scanF_end (by rw [List.length_map]; omega)).symm | exact (scanF_err hlt hj (by omega)).symm | exact (scanF_seq hlt hj (by rw [List.length_map]; omega)).symm) Try.results39 rfl (.tmp rfl) (.tmp rfl) (.tmp rfl) (by repeat (first | exact Takes.nil | exact Take.here | apply Takes.cons | apply Take.there)) (by simp)
            ·
              refine WC.skip ?_
              refine WX.in_normal ?_
              refine WX.next ?_
              refine WC.seq ?_
              refine WC.region ?_
              refine wlv (op_move (by decide) rfl) rfl ?_
              refine wlv (op_loadAll ag50 (by decide) rfl (by repeat (first | exact List.Mem.head _ | apply List.Mem.tail)) (by first | rfl | (simp [Value.cells]; done) | (simp [Value.cells]; omega))) rfl ?_
              refine wl1 (op_lit1 Try.underlying77 ti50 rfl (by decide) (by decide) rfl rfl) rfl fun b2 => ?_
              refine wl2 (op_append Try.underlying77 ti50 rfl (by decide) (by decide) rfl rfl (by repeat (first | exact Take.here | apply Take.there)) (by first | (apply Src.rd; (repeat (first | exact List.Mem.head _ | apply List.Mem.tail)); done) | (apply Src.own; (repeat (first | exact List.Mem.head _ | apply List.Mem.tail)); done) | (apply Src.rx; (repeat (first | exact List.Mem.head _ | apply List.Mem.tail)); done)) (by rfl) (by omega) (by omega)) rfl fun A1 c1 => ?_
              refine wlv (op_assign (by decide) rfl) rfl ?_
              refine WL.nil ?_
              refine WX.regs (L' := [(0, _), (1, _), (2, _), (6, _), (7, _), (8, _), (10, _)]) (by repeat (first | exact RS.nil | refine RS.cons rfl ?_)) ?_
              refine WX.next ?_
              refine WC.region ?_
              refine wlv (op_move (by decide) rfl) rfl ?_
              refine wlv (op_move (by decide) rfl) rfl ?_
              refine wlv (op_add (by decide) rfl rfl (by omega)) rfl ?_
              refine wlv (op_assign (by decide) rfl) rfl ?_
              refine WL.nil ?_
              refine WX.regs (L' := [(0, _), (1, _), (2, _), (6, _), (7, _), (8, _)]) (by repeat (first | exact RS.nil | refine RS.cons rfl ?_)) ?_
              refine WX.in_normal ?_
              refine WX.ownEq (v := .slice A1 (l.length + 1) c1) ((l ++ [(⟨rec.k, rec.g, rec.n, ⟨Ar, cr, rec.p⟩⟩ : Rs)]).flatMap Rs.cells) (by repeat (first | exact Take.here | apply Take.there)) (cells_push l ⟨rec.k, rec.g, rec.n, ⟨Ar, cr, rec.p⟩⟩) ?_
              refine WX.merge2 (c1 := rowsC true (l.map Rs.b)) (c2 := own (.slice Ar rec.p.length cr) 5 1 rec.p.length (bvs rec.p)) (d := rowsC true ((l ++ [(⟨rec.k, rec.g, rec.n, ⟨Ar, cr, rec.p⟩⟩ : Rs)]).map Rs.b)) (by repeat (first | exact Take.here | apply Take.there)) (by repeat (first | exact Take.here | apply Take.there)) (by rw [← bs_push]; exact rowsC_snoc (own_le_bs rfl) (fun _ => by simp)) ?_
              rw [show l.length + 1 = (l ++ [(⟨rec.k, rec.g, rec.n, ⟨Ar, cr, rec.p⟩⟩ : Rs)]).length by simp]
              refine WX.meet ((pos + cnt.toNat, l ++ [(⟨rec.k, rec.g, rec.n, ⟨Ar, cr, rec.p⟩⟩ : Rs)], A1, c1)) ⟨⟨by simp only []; omega, by simp only [List.length_append, List.length_singleton]; omega, fu, by simp only []; omega, by rw [hsc, scanF_go hlt hj (by rw [List.length_map]; omega), List.map_append]; rfl⟩, by simp only []; omega⟩ (fun a w hs => hs.sub (by repeat (first | exact RS.nil | refine RS.cons (by first | rfl | exact congrArg (fun z : Int => some (Value.int .i64 z)) (by omega)) ?_)) (by repeat (first | exact Takes.nil | exact Take.here | apply Takes.cons | apply Take.there)))
      ·
        refine WC.exit ?_
        refine WX.then_exit ?_
        refine WX.then_exit ?_
        refine WX.in_hit ?_
        refine WX.next ?_
        refine WC.seq ?_
        refine WC.region ?_
        refine wlv (op_move (by decide) rfl) rfl ?_
        refine wlv (op_move (by decide) rfl) rfl ?_
        refine wlv (op_move (by decide) rfl) rfl ?_
        refine wlv (op_assign (by decide) rfl) rfl ?_
        refine wlv (op_assign (by decide) rfl) rfl ?_
        refine wlv (op_assign (by decide) rfl) rfl ?_
        refine WL.nil ?_
        refine WX.regs (L' := [(6, _), (7, _), (8, _)]) (by repeat (first | exact RS.nil | refine RS.cons rfl ?_)) ?_
        refine WX.next ?_
        refine WC.ret ?_
        refine WX.scope_ret ?_
        exact Fin.ret3 (by first | exact .inl rfl | exact .inr rfl) ((_, _, l, pos, _)) (by dsimp only; rw [hsc]; first | exact (scanF_end (by rw [List.length_map]; omega)).symm | exact (scanF_err hlt hj (by omega)).symm | exact (scanF_seq hlt hj (by rw [List.length_map]; omega)).symm) Try.results39 rfl (.tmp rfl) (.tmp rfl) (.tmp rfl) (by repeat (first | exact Takes.nil | exact Take.here | apply Takes.cons | apply Take.there)) (by simp)
set_option maxHeartbeats 400000 in
set_option maxRecDepth 10000 in
theorem f40_spec (g n : Int) (A : Option Addr) (M c : Nat) (rs : List Bs) (hM : rs.length = M) (hMx : M ≤ 1000000) :
    Spec Try.prog 40 [.int .i64 g, .int .i64 n, .slice A M c] [] [rd (.slice A M c) 1 M (rs.map Bs.v), rowsC false rs] (R := Option Addr × Nat × List Rs × Int × Int)
      (fun q => (q.2.2.1.map Rs.r, q.2.2.2) = scan g n (rs.map Bs.s))
      (fun q => .tuple #[.slice q.1 q.2.2.1.length q.2.1, .int .i64 q.2.2.2.1, .int .i64 q.2.2.2.2])
      (fun q => [own (.slice q.1 q.2.2.1.length q.2.1) 49 4 q.2.2.1.length (q.2.2.1.flatMap Rs.cells), rowsC true (q.2.2.1.map Rs.b)]) := by
  refine Spec.intro Try.func40 Try.ntmps40 rfl (by simp) (by simp) fun w0 => ?_
  refine WC.seq ?_
  refine WC.region ?_
  refine wlv (op_assign (by decide) rfl) rfl ?_
  refine wlv (op_assign (by decide) rfl) rfl ?_
  refine wlv (op_assign (by decide) rfl) rfl ?_
  refine WL.nil ?_
  refine WX.regs (L' := [(0, _), (1, _), (2, _)]) (by repeat (first | exact RS.nil | refine RS.cons rfl ?_)) ?_
  refine WX.next ?_
  refine WC.seq ?_
  refine WC.seq ?_
  refine WC.region ?_
  refine wlv (op_move (by decide) rfl) rfl ?_
  refine wlv (op_move (by decide) rfl) rfl ?_
  refine wlx (op_call (f51_spec _ _ _) ca51 (by decide) rfl (by apply Give.mk; (repeat (first | exact Takes.nil | exact Take.here | apply Takes.cons | apply Take.there)); repeat (first | exact Reads.nil | (apply Reads.rd; (focus (repeat (first | exact List.Mem.head _ | apply List.Mem.tail)); done)) | (apply Reads.own; (focus (repeat (first | exact List.Mem.head _ | apply List.Mem.tail)); done)) | (apply Reads.rx; (focus (repeat (first | exact List.Mem.head _ | apply List.Mem.tail)); done)) | (apply Reads.rows (e := false); (focus (repeat (first | exact List.Mem.head _ | apply List.Mem.tail)); done)) | (apply Reads.rows (e := true); (focus (repeat (first | exact List.Mem.head _ | apply List.Mem.tail)); done))))) rfl ?_
  rintro _ rfl
  refine wlv (op_notp (by decide) rfl) rfl ?_
  refine WL.nil ?_
  refine WX.regs (L' := [(0, _), (1, _), (2, _), (17, _)]) (by repeat (first | exact RS.nil | refine RS.cons rfl ?_)) ?_
  refine WX.next ?_
  refine WC.cond rfl (fun h1 => ?_) (fun h1 => ?_)
  ·
    refine WC.seq ?_
    refine WC.region ?_
    refine wlv (op_assign (by decide) rfl) rfl ?_
    refine wlv (op_assign (by decide) rfl) rfl ?_
    refine wlv (op_assign (by decide) rfl) rfl ?_
    refine WL.nil ?_
    refine WX.nilrows true ?_
    refine WX.nilown 49 4 ?_
    refine WX.regs (L' := [(6, _), (7, _), (8, _)]) (by repeat (first | exact RS.nil | refine RS.cons rfl ?_)) ?_
    refine WX.next ?_
    refine WC.ret ?_
    refine WX.then_ret ?_
    exact Fin.ret3 (by first | exact .inl rfl | exact .inr rfl) ((none, 0, [], 0, 2)) (by unfold scan; rw [if_pos (by omega)]; rfl) Try.results40 rfl (.tmp rfl) (.tmp rfl) (.tmp rfl) (by repeat (first | exact Takes.nil | exact Take.here | apply Takes.cons | apply Take.there)) (by simp)
  ·
    refine WC.skip ?_
    refine WX.next ?_
    refine WC.seq ?_
    refine WC.region ?_
    refine wlv (op_assign (by decide) rfl) rfl ?_
    refine WL.nil ?_
    refine WX.regs (L' := [(0, _), (1, _), (2, _), (9, _)]) (by repeat (first | exact RS.nil | refine RS.cons rfl ?_)) ?_
    refine WX.next ?_
    refine WC.seq ?_
    refine WC.region ?_
    refine wlv (op_assign (by decide) rfl) rfl ?_
    refine WL.nil ?_
    refine WX.regs (L' := [(0, _), (1, _), (2, _), (9, _), (10, _)]) (by repeat (first | exact RS.nil | refine RS.cons rfl ?_)) ?_
    refine WX.next ?_
    refine WC.seq ?_
    refine WC.block ?_
    simp only [fineP] at h1
    refine WC.nilrows true ?_
    refine WC.nilslice 49 4 ?_
    refine WC.loop (X := Nat × List Rs × Option Addr × Nat) (fun q => M - q.1) (fun q => q.1 ≤ M ∧ q.2.1.length ≤ q.1 ∧ ∃ fuel, M - q.1 ≤ fuel ∧ scan g n (rs.map Bs.s) = scanF (rs.map Bs.s) g n fuel q.1 (q.2.1.map Rs.r)) (fun q => [(0, .int .i64 g), (1, .int .i64 n), (2, .slice A M c), (9, .slice q.2.2.1 q.2.1.length q.2.2.2), (10, .int .i64 (q.1 : Int))]) (fun q => [own (.slice q.2.2.1 q.2.1.length q.2.2.2) 49 4 q.2.1.length (q.2.1.flatMap Rs.cells), rowsC true (q.2.1.map Rs.b), rd (.slice A M c) 1 M (rs.map Bs.v), rowsC false rs, frameC w0 (MutF [])]) ((0, [], none, 0)) (⟨Nat.zero_le _, Nat.le_refl _, M, Nat.le_refl _, by unfold scan; rw [if_neg (by simp only [fineP]; omega), List.length_map, hM]; rfl⟩) (fun a w hs => hs.sub (by repeat (first | exact RS.nil | refine RS.cons (by first | rfl | exact congrArg (fun z : Int => some (Value.int .i64 z)) (by omega)) ?_)) (by repeat (first | exact Takes.nil | exact Take.here | apply Takes.cons | apply Take.there))) ?_
    rintro ⟨pos, l, Ao, co⟩ ⟨hp, hll, fuel, hfu, hsc⟩
    try dsimp only at hp hll hfu hsc ⊢
    refine WC.seq ?_
    refine WC.seq ?_
    refine WC.region ?_
    refine wlv (op_move (by decide) rfl) rfl ?_
    refine wlv (op_move (by decide) rfl) rfl ?_
    refine wlv (op_len Try.underlying52 (by decide) rfl) rfl ?_
    refine wlv (op_lss (by decide) rfl rfl) rfl ?_
    refine WL.nil ?_
    refine WX.regs (L' := [(0, _), (1, _), (2, _), (9, _), (10, _), (21, _)]) (by repeat (first | exact RS.nil | refine RS.cons rfl ?_)) ?_
    refine WX.next ?_
    refine WC.cond rfl (fun h2 => ?_) (fun h2 => ?_)
    ·
      have hlt : pos < (rs.map Bs.s).length := by rw [List.length_map]; omega
      obtain ⟨fu, rfl⟩ : ∃ fu, fuel = fu + 1 := ⟨fuel - 1, by omega⟩
      refine WC.skip ?_
      refine WX.next ?_
      refine WC.block ?_
      refine WC.seq ?_
      refine WC.region ?_
      refine WL.dup (c := rd (.slice A M c) 1 M (rs.map Bs.v)) (d := rd (sliced A pos M c 1) 1 (M - pos) ((rs.drop pos).map Bs.v)) (by repeat (first | exact List.Mem.head _ | apply List.Mem.tail)) (by simp) (by simp) (rd_dropR hM (by omega)) ?_
      refine WL.dup (c := rowsC false rs) (d := rowsC false (rs.drop pos)) (by repeat (first | exact List.Mem.head _ | apply List.Mem.tail)) rfl rfl rowsC_drop ?_
      refine wlv (op_move (by decide) rfl) rfl ?_
      refine wlv (op_move (by decide) rfl) rfl ?_
      refine wlv (op_slice_l Try.underlying52 sz22 (by decide) rfl rfl (by omega) (by omega)) rfl ?_
      refine wlx (op_call (f36_spec _ (M - pos) _ (rs.drop pos) (by simp; omega)) ca36 (by decide) rfl (by apply Give.mk; (repeat (first | exact Takes.nil | exact Take.here | apply Takes.cons | apply Take.there)); repeat (first | exact Reads.nil | (apply Reads.rd; (focus (repeat (first | exact List.Mem.head _ | apply List.Mem.tail)); done)) | (apply Reads.own; (focus (repeat (first | exact List.Mem.head _ | apply List.Mem.tail)); done)) | (apply Reads.rx; (focus (repeat (first | exact List.Mem.head _ | apply List.Mem.tail)); done)) | (apply Reads.rows (e := false); (focus (repeat (first | exact List.Mem.head _ | apply List.Mem.tail)); done)) | (apply Reads.rows (e := true); (focus (repeat (first | exact List.Mem.head _ | apply List.Mem.tail)); done))))) rfl ?_
      rintro ⟨Ar, cr, rec, cnt, e⟩ hj
      dsimp only at hj
      rw [List.map_drop] at hj
      dsimp only
      refine wlv (op_move (by decide) rfl) rfl ?_
      refine wlv (op_extract (by decide) rfl rfl) rfl ?_
      refine wlv (op_extract (by decide) rfl rfl) rfl ?_
      refine wlv (op_extract (by decide) rfl rfl) rfl ?_
      refine wl1 (op_alloc ti49 (by decide)) rfl fun b1 => ?_
      refine wl (op_storeAll sz49 rfl rfl (by repeat (first | exact Take.here | apply Take.there)) (by first | rfl | (simp [Value.cells]; done) | (simp [Value.cells]; omega)) (by first | rfl | exact wvs_one _ | exact bvs_one _) (by first | rfl | (simp [Value.cells]; done) | (simp [Value.cells]; omega))) rfl ?_
      change WL _ _ _ _ _ _ _
      refine wlv (op_assign (by decide) rfl) rfl ?_
      refine wlv (op_assign (by decide) rfl) rfl ?_
      refine WL.nil ?_
      refine WX.regs (L' := [(0, _), (1, _), (2, _), (9, _), (10, _), (11, _), (12, _), (13, _)]) (by repeat (first | exact RS.nil | refine RS.cons rfl ?_)) ?_
      refine WX.next ?_
      refine WC.seq ?_
      refine WC.seq ?_
      refine WC.region ?_
      refine wlv (op_move (by decide) rfl) rfl ?_
      refine wlv (op_neq (by decide) rfl rfl) rfl ?_
      refine WL.nil ?_
      refine WX.regs (L' := [(0, _), (1, _), (2, _), (9, _), (10, _), (11, _), (12, _), (13, _), (31, _)]) (by repeat (first | exact RS.nil | refine RS.cons rfl ?_)) ?_
      refine WX.next ?_
      refine WC.cond rfl (fun h3 => ?_) (fun h3 => ?_)
      ·
        refine WC.seq ?_
        refine WC.region ?_
        refine wlv (op_move (by decide) rfl) rfl ?_
        refine wlv (op_move (by decide) rfl) rfl ?_
        refine wlv (op_move (by decide) rfl) rfl ?_
        refine wlv (op_assign (by decide) rfl) rfl ?_
        refine wlv (op_assign (by decide) rfl) rfl ?_
        refine wlv (op_assign (by decide) rfl) rfl ?_
        refine WL.nil ?_
        refine WX.regs (L' := [(6, _), (7, _), (8, _)]) (by repeat (first | exact RS.nil | refine RS.cons rfl ?_)) ?_
        refine WX.next ?_
        refine WC.ret ?_
        refine WX.then_ret ?_
        refine WX.in_ret ?_
        refine WX.then_ret ?_
        refine WX.in_ret ?_
        refine WX.then_ret ?_
        exact Fin.ret3 (by first | exact .inl rfl | exact .inr rfl) ((_, _, l, pos, _)) (by dsimp only; rw [hsc]; exact (scanF_err hlt hj (by omega)).symm) Try.results40 rfl (.tmp rfl) (.tmp rfl) (.tmp rfl) (by repeat (first | exact Takes.nil | exact Take.here | apply Takes.cons | apply Take.there)) (by simp)
      ·
        obtain rfl : e = 0 := by omega
        obtain ⟨hc1, hc2⟩ := join_ok hj
        rw [List.length_drop, List.length_map] at hc2
        refine WC.skip ?_
        refine WX.next ?_
        refine WC.seq ?_
        refine WC.seq ?_
        refine WC.region ?_
        refine wlv (op_fieldAddr fo49_1 (by decide) rfl) rfl ?_
        refine wlv (op_load1 fl3 (by decide) rfl (by repeat (first | exact List.Mem.head _ | apply List.Mem.tail)) rfl) rfl ?_
        refine wlv (op_move (by decide) rfl) rfl ?_
        refine wlv (op_neq (by decide) rfl rfl) rfl ?_
        refine wlv (op_move (by decide) rfl) rfl ?_
        refine WL.split (t := 39) rfl (fun g39 => ?_) (fun g39 => ?_)
        ·
          refine wlg_no rfl rfl rfl rfl rfl (by decide) ?_
          refine wlg_no rfl rfl rfl rfl rfl (by decide) ?_
          refine wlg_no rfl rfl rfl rfl rfl (by decide) ?_
          refine wlg_no rfl rfl rfl rfl rfl (by decide) ?_
          refine wlg_no rfl rfl rfl rfl rfl (by decide) ?_
          refine wlg_no rfl rfl rfl rfl rfl (by decide) ?_
          refine wlg_no rfl rfl rfl rfl rfl (by decide) ?_
          refine wlv (op_pickT (by decide) rfl rfl) rfl ?_
          refine WL.nil ?_
          refine WX.regs (L' := [(0, _), (1, _), (2, _), (9, _), (10, _), (11, _), (12, _), (47, _)]) (by repeat (first | exact RS.nil | refine RS.cons rfl ?_)) ?_
          refine WX.next ?_
          refine WC.condT rfl ?_
          refine WC.seq ?_
          refine WC.region ?_
          refine wlv (op_move (by decide) rfl) rfl ?_
          refine wlv (op_move (by decide) rfl) rfl ?_
          refine wlv (op_assign (by decide) rfl) rfl ?_
          refine wlv (op_assign (by decide) rfl) rfl ?_
          refine wlv (op_assign (by decide) rfl) rfl ?_
          refine WL.nil ?_
          refine WX.regs (L' := [(6, _), (7, _), (8, _)]) (by repeat (first | exact RS.nil | refine RS.cons rfl ?_)) ?_
          refine WX.next ?_
          refine WC.ret ?_
          refine WX.then_ret ?_
          refine WX.in_ret ?_
          refine WX.then_ret ?_
          refine WX.in_ret ?_
          refine WX.then_ret ?_
          exact Fin.ret3 (by first | exact .inl rfl | exact .inr rfl) ((_, _, l, pos, _)) (by dsimp only; rw [hsc]; exact (scanF_seq hlt hj (by rw [List.length_map]; omega)).symm) Try.results40 rfl (.tmp rfl) (.tmp rfl) (.tmp rfl) (by repeat (first | exact Takes.nil | exact Take.here | apply Takes.cons | apply Take.there)) (by simp)
        ·
          refine wlgv (op_fieldAddr fo49_2 (by decide) rfl) rfl rfl rfl ?_
          refine wlgv (op_load1 fl3 (by decide) rfl (by repeat (first | exact List.Mem.head _ | apply List.Mem.tail)) rfl) rfl rfl rfl ?_
          refine wlgv (op_move (by decide) rfl) rfl rfl rfl ?_
          refine wlgv (op_move (by decide) rfl) rfl rfl rfl ?_
          refine wlgv (op_len Try.underlying80 (by decide) rfl) rfl rfl rfl ?_
          refine wlgv (op_add (by decide) rfl rfl (by omega)) rfl rfl rfl ?_
          refine wlgv (op_neq (by decide) rfl rfl) rfl rfl rfl ?_
          refine wlv (op_pickF (by decide) rfl rfl) rfl ?_
          refine WL.nil ?_
          refine WX.regs (L' := [(0, _), (1, _), (2, _), (9, _), (10, _), (11, _), (12, _), (47, _)]) (by repeat (first | exact RS.nil | refine RS.cons rfl ?_)) ?_
          refine WX.next ?_
          refine WC.cond rfl (fun h4 => ?_) (fun h4 => ?_)
          ·
            refine WC.seq ?_
            refine WC.region ?_
            refine wlv (op_move (by decide) rfl) rfl ?_
            refine wlv (op_move (by decide) rfl) rfl ?_
            refine wlv (op_assign (by decide) rfl) rfl ?_
            refine wlv (op_assign (by decide) rfl) rfl ?_
            refine wlv (op_assign (by decide) rfl) rfl ?_
            refine WL.nil ?_
            refine WX.regs (L' := [(6, _), (7, _), (8, _)]) (by repeat (first | exact RS.nil | refine RS.cons rfl ?_)) ?_
            refine WX.next ?_
            refine WC.ret ?_
            refine WX.then_ret ?_
            refine WX.in_ret ?_
            refine WX.then_ret ?_
            refine WX.in_ret ?_
            refine WX.then_ret ?_
            exact Fin.ret3 (by first | exact .inl rfl | exact .inr rfl) ((_, _, l, pos, _)) (by dsimp only; rw [hsc]; exact (scanF_seq hlt hj (by rw [List.length_map]; omega)).symm) Try.results40 rfl (.tmp rfl) (.tmp rfl) (.tmp rfl) (by repeat (first | exact Takes.nil | exact Take.here | apply Takes.cons | apply Take.there)) (by simp)
          ·
            refine WC.skip ?_
            refine WX.next ?_
            refine WC.seq ?_
            refine WC.region ?_
            refine wlv (op_move (by decide) rfl) rfl ?_
            refine wlv (op_loadAll ag49 (by decide) rfl (by repeat (first | exact List.Mem.head _ | apply List.Mem.tail)) (by first | rfl | (simp [Value.cells]; done) | (simp [Value.cells]; omega))) rfl ?_
            refine wl1 (op_lit1 Try.underlying80 ti49 rfl (by decide) (by decide) rfl rfl) rfl fun b2 => ?_
            refine wl2 (op_append Try.underlying80 ti49 rfl (by decide) (by decide) rfl rfl (by repeat (first | exact Take.here | apply Take.there)) (by first | (apply Src.rd; (repeat (first | exact List.Mem.head _ | apply List.Mem.tail)); done) | (apply Src.own; (repeat (first | exact List.Mem.head _ | apply List.Mem.tail)); done) | (apply Src.rx; (repeat (first | exact List.Mem.head _ | apply List.Mem.tail)); done)) (by rfl) (by omega) (by omega)) rfl fun A1 c1 => ?_
            refine wlv (op_assign (by decide) rfl) rfl ?_
            refine WL.nil ?_
            refine WX.regs (L' := [(0, _), (1, _), (2, _), (9, _), (10, _), (12, _)]) (by repeat (first | exact RS.nil | refine RS.cons rfl ?_)) ?_
            refine WX.next ?_
            refine WC.region ?_
            refine wlv (op_move (by decide) rfl) rfl ?_
            refine wlv (op_move (by decide) rfl) rfl ?_
            refine wlv (op_add (by decide) rfl rfl (by omega)) rfl ?_
            refine wlv (op_assign (by decide) rfl) rfl ?_
            refine WL.nil ?_
            refine WX.regs (L' := [(0, _), (1, _), (2, _), (9, _), (10, _)]) (by repeat (first | exact RS.nil | refine RS.cons rfl ?_)) ?_
            refine WX.in_normal ?_
            refine WX.ownEq (v := .slice A1 (l.length + 1) c1) ((l ++ [(⟨rec.k, rec.g, rec.n, ⟨Ar, cr, rec.p⟩⟩ : Rs)]).flatMap Rs.cells) (by repeat (first | exact Take.here | apply Take.there)) (cells_push l ⟨rec.k, rec.g, rec.n, ⟨Ar, cr, rec.p⟩⟩) ?_
            refine WX.merge2 (c1 := rowsC true (l.map Rs.b)) (c2 := own (.slice Ar rec.p.length cr) 5 1 rec.p.length (bvs rec.p)) (d := rowsC true ((l ++ [(⟨rec.k, rec.g, rec.n, ⟨Ar, cr, rec.p⟩⟩ : Rs)]).map Rs.b)) (by repeat (first | exact Take.here | apply Take.there)) (by repeat (first | exact Take.here | apply Take.there)) (by rw [← bs_push]; exact rowsC_snoc (own_le_bs rfl) (fun _ => by simp)) ?_
            rw [show l.length + 1 = (l ++ [(⟨rec.k, rec.g, rec.n, ⟨Ar, cr, rec.p⟩⟩ : Rs)]).length by simp]
            refine WX.meet ((pos + cnt.toNat, l ++ [(⟨rec.k, rec.g, rec.n, ⟨Ar, cr, rec.p⟩⟩ : Rs)], A1, c1)) ⟨⟨by simp only []; omega, by simp only [List.length_append, List.length_singleton]; omega, fu, by simp only []; omega, by rw [hsc, scanF_go hlt hj (by rw [List.length_map]; omega), List.map_append]; rfl⟩, by simp only []; omega⟩ (fun a w hs => hs.sub (by repeat (first | exact RS.nil | refine RS.cons (by first | rfl | exact congrArg (fun z : Int => some (Value.int .i64 z)) (by omega)) ?_)) (by repeat (first | exact Takes.nil | exact Take.here | apply Takes.cons | apply Take.there)))
    ·
      refine WC.exit ?_
      refine WX.then_exit ?_
      refine WX.then_exit ?_
      refine WX.in_hit ?_
      refine WX.next ?_
      refine WC.seq ?_
      refine WC.region ?_
      refine wlv (op_move (by decide) rfl) rfl ?_
      refine wlv (op_move (by decide) rfl) rfl ?_
      refine wlv (op_assign (by decide) rfl) rfl ?_
      refine wlv (op_assign (by decide) rfl) rfl ?_
      refine wlv (op_assign (by decide) rfl) rfl ?_
      refine WL.nil ?_
      refine WX.regs (L' := [(6, _), (7, _), (8, _)]) (by repeat (first | exact RS.nil | refine RS.cons rfl ?_)) ?_
      refine WX.next ?_
      refine WC.ret ?_
      exact Fin.ret3 (by first | exact .inl rfl | exact .inr rfl) ((_, _, l, pos, _)) (by dsimp only; rw [hsc]; exact (scanF_end (by rw [List.length_map]; omega)).symm) Try.results40 rfl (.tmp rfl) (.tmp rfl) (.tmp rfl) (by repeat (first | exact Takes.nil | exact Take.here | apply Takes.cons | apply Take.there)) (by simp)
set_option maxHeartbeats 400000 in
set_option maxRecDepth 10000 in
theorem f44_spec (A : Option Addr) (M c : Nat) (rs : List Bs) (hM : rs.length = M) (hMx : M ≤ 1000000) :
    Spec Try.prog 44 [.slice A M c] [] [rd (.slice A M c) 1 M (rs.map Bs.v), rowsC false rs] (R := Option Addr × Nat × List Rs)
      (fun q => q.2.2.map Rs.r = salv (rs.map Bs.s))
      (fun q => .slice q.1 q.2.2.length q.2.1)
      (fun q => [own (.slice q.1 q.2.2.length q.2.1) 50 4 q.2.2.length (q.2.2.flatMap Rs.cells), rowsC true (q.2.2.map Rs.b)]) := by
  refine Spec.intro Try.func44 Try.ntmps44 rfl (by simp) (by simp) fun w0 => ?_
  refine WC.seq ?_
  refine WC.region ?_
  refine wlv (op_assign (by decide) rfl) rfl ?_
  refine WL.nil ?_
  refine WX.regs (L' := [(0, _)]) (by repeat (first | exact RS.nil | refine RS.cons rfl ?_)) ?_
  refine WX.next ?_
  refine WC.seq ?_
  refine WC.region ?_
  refine wlv (op_assign (by decide) rfl) rfl ?_
  refine WL.nil ?_
  refine WX.regs (L' := [(0, _), (3, _)]) (by repeat (first | exact RS.nil | refine RS.cons rfl ?_)) ?_
  refine WX.next ?_
  refine WC.seq ?_
  refine WC.seq ?_
  refine WC.region ?_
  refine wlv (op_assign (by decide) rfl) rfl ?_
  refine WL.nil ?_
  refine WX.regs (L' := [(0, _), (3, _), (4, _)]) (by repeat (first | exact RS.nil | refine RS.cons rfl ?_)) ?_
  refine WX.next ?_
  refine WC.block ?_
  refine WC.nilrows true ?_
  refine WC.nilslice 50 4 ?_
  refine WC.loop (X := Nat × List Rs × Option Addr × Nat) (fun q => M - q.1) (fun q => q.1 ≤ M ∧ q.2.1.length ≤ q.1 ∧ ∃ fuel, M - q.1 ≤ fuel ∧ salv (rs.map Bs.s) = salvF (rs.map Bs.s) fuel q.1 (q.2.1.map Rs.r)) (fun q => [(0, .slice A M c), (3, .slice q.2.2.1 q.2.1.length q.2.2.2), (4, .int .i64 (q.1 : Int))]) (fun q => [own (.slice q.2.2.1 q.2.1.length q.2.2.2) 50 4 q.2.1.length (q.2.1.flatMap Rs.cells), rowsC true (q.2.1.map Rs.b), rd (.slice A M c) 1 M (rs.map Bs.v), rowsC false rs, frameC w0 (MutF [])]) ((0, [], none, 0)) (⟨Nat.zero_le _, Nat.le_refl _, M, Nat.le_refl _, by unfold salv; rw [List.length_map, hM]; rfl⟩) (fun a w hs => hs.sub (by repeat (first | exact RS.nil | refine RS.cons (by first | rfl | exact congrArg (fun z : Int => some (Value.int .i64 z)) (by omega)) ?_)) (by repeat (first | exact Takes.nil | exact Take.here | apply Takes.cons | apply Take.there))) ?_
  rintro ⟨pos, l, Ao, co⟩ ⟨hp, hll, fuel, hfu, hsc⟩
  try dsimp only at hp hll hfu hsc ⊢
  refine WC.seq ?_
  refine WC.seq ?_
  refine WC.region ?_
  refine wlv (op_move (by decide) rfl) rfl ?_
  refine wlv (op_move (by decide) rfl) rfl ?_
  refine wlv (op_len Try.underlying52 (by decide) rfl) rfl ?_
  refine wlv (op_lss (by decide) rfl rfl) rfl ?_
  refine WL.nil ?_
  refine WX.regs (L' := [(0, _), (3, _), (4, _), (11, _)]) (by repeat (first | exact RS.nil | refine RS.cons rfl ?_)) ?_
  refine WX.next ?_
  refine WC.cond rfl (fun h1 => ?_) (fun h1 => ?_)
  ·
    have hlt : pos < (rs.map Bs.s).length := by rw [List.length_map]; omega
    obtain ⟨fu, rfl⟩ : ∃ fu, fuel = fu + 1 := ⟨fuel - 1, by omega⟩
    refine WC.skip ?_
    refine WX.next ?_
    refine WC.block ?_
    refine WC.seq ?_
    refine WC.region ?_
    refine WL.dup (c := rd (.slice A M c) 1 M (rs.map Bs.v)) (d := rd (sliced A pos M c 1) 1 (M - pos) ((rs.drop pos).map Bs.v)) (by repeat (first | exact List.Mem.head _ | apply List.Mem.tail)) (by simp) (by simp) (rd_dropR hM (by omega)) ?_
    refine WL.dup (c := rowsC false rs) (d := rowsC false (rs.drop pos)) (by repeat (first | exact List.Mem.head _ | apply List.Mem.tail)) rfl rfl rowsC_drop ?_
    refine wlv (op_move (by decide) rfl) rfl ?_
    refine wlv (op_move (by decide) rfl) rfl ?_
    refine wlv (op_slice_l Try.underlying52 sz22 (by decide) rfl rfl (by omega) (by omega)) rfl ?_
    refine wlx (op_call (f34_spec _ (M - pos) _ (rs.drop pos) (by simp; omega)) ca34 (by decide) rfl (by apply Give.mk; (repeat (first | exact Takes.nil | exact Take.here | apply Takes.cons | apply Take.there)); repeat (first | exact Reads.nil | (apply Reads.rd; (focus (repeat (first | exact List.Mem.head _ | apply List.Mem.tail)); done)) | (apply Reads.own; (focus (repeat (first | exact List.Mem.head _ | apply List.Mem.tail)); done)) | (apply Reads.rx; (focus (repeat (first | exact List.Mem.head _ | apply List.Mem.tail)); done)) | (apply Reads.rows (e := false); (focus (repeat (first | exact List.Mem.head _ | apply List.Mem.tail)); done)) | (apply Reads.rows (e := true); (focus (repeat (first | exact List.Mem.head _ | apply List.Mem.tail)); done))))) rfl ?_
    rintro ⟨Ar, cr, rec, cnt, e⟩ hj
    dsimp only at hj
    rw [List.map_drop] at hj
    dsimp only
    refine wlv (op_move (by decide) rfl) rfl ?_
    refine wlv (op_extract (by decide) rfl rfl) rfl ?_
    refine wlv (op_extract (by decide) rfl rfl) rfl ?_
    refine wlv (op_extract (by decide) rfl rfl) rfl ?_
    refine wl1 (op_alloc ti50 (by decide)) rfl fun b1 => ?_
    refine wl (op_storeAll sz50 rfl rfl (by repeat (first | exact Take.here | apply Take.there)) (by first | rfl | (simp [Value.cells]; done) | (simp [Value.cells]; omega)) (by first | rfl | exact wvs_one _ | exact bvs_one _) (by first | rfl | (simp [Value.cells]; done) | (simp [Value.cells]; omega))) rfl ?_
    change WL _ _ _ _ _ _ _
    refine wlv (op_assign (by decide) rfl) rfl ?_
    refine wlv (op_assign (by decide) rfl) rfl ?_
    refine WL.nil ?_
    refine WX.regs (L' := [(0, _), (3, _), (4, _), (5, _), (6, _), (7, _)]) (by repeat (first | exact RS.nil | refine RS.cons rfl ?_)) ?_
    refine WX.next ?_
    refine WC.seq ?_
    refine WC.seq ?_
    refine WC.region ?_
    refine wlv (op_move (by decide) rfl) rfl ?_
    refine wlv (op_neq (by decide) rfl rfl) rfl ?_
    refine WL.nil ?_
    refine WX.regs (L' := [(0, _), (3, _), (4, _), (5, _), (6, _), (21, _)]) (by repeat (first | exact RS.nil | refine RS.cons rfl ?_)) ?_
    refine WX.next ?_
    refine WC.cond rfl (fun h2 => ?_) (fun h2 => ?_)
    ·
      refine WC.seq ?_
      refine WC.region ?_
      refine wlv (op_move (by decide) rfl) rfl ?_
      refine wlv (op_add (by decide) rfl rfl (by omega)) rfl ?_
      refine wlv (op_assign (by decide) rfl) rfl ?_
      refine WL.nil ?_
      refine WX.regs (L' := [(0, _), (3, _), (4, _)]) (by repeat (first | exact RS.nil | refine RS.cons rfl ?_)) ?_
      refine WX.next ?_
      refine WC.exit ?_
      refine WX.then_exit ?_
      refine WX.in_hit ?_
      refine WX.meet ((pos + 1, l, Ao, co)) ⟨⟨by simp only []; omega, by simp only []; omega, fu, by simp only []; omega, by rw [hsc, salvF_err hlt hj (by omega)]⟩, by simp only []; omega⟩ (fun a w hs => hs.sub (by repeat (first | exact RS.nil | refine RS.cons (by first | rfl | exact congrArg (fun z : Int => some (Value.int .i64 z)) (by omega)) ?_)) (by repeat (first | exact Takes.nil | exact Take.here | apply Takes.cons | apply Take.there)))
    ·
      obtain rfl : e = 0 := by omega
      obtain ⟨hc1, hc2⟩ := join_ok hj
      rw [List.length_drop, List.length_map] at hc2
      refine WC.skip ?_
      refine WX.next ?_
      refine WC.seq ?_
      refine WC.region ?_
      refine wlv (op_move (by decide) rfl) rfl ?_
      refine wlv (op_loadAll ag50 (by decide) rfl (by repeat (first | exact List.Mem.head _ | apply List.Mem.tail)) (by first | rfl | (simp [Value.cells]; done) | (simp [Value.cells]; omega))) rfl ?_
      refine wl1 (op_lit1 Try.underlying77 ti50 rfl (by decide) (by decide) rfl rfl) rfl fun b2 => ?_
      refine wl2 (op_append Try.underlying77 ti50 rfl (by decide) (by decide) rfl rfl (by repeat (first | exact Take.here | apply Take.there)) (by first | (apply Src.rd; (repeat (first | exact List.Mem.head _ | apply List.Mem.tail)); done) | (apply Src.own; (repeat (first | exact List.Mem.head _ | apply List.Mem.tail)); done) | (apply Src.rx; (repeat (first | exact List.Mem.head _ | apply List.Mem.tail)); done)) (by rfl) (by omega) (by omega)) rfl fun A1 c1 => ?_
      refine wlv (op_assign (by decide) rfl) rfl ?_
      refine WL.nil ?_
      refine WX.regs (L' := [(0, _), (3, _), (4, _), (6, _)]) (by repeat (first | exact RS.nil | refine RS.cons rfl ?_)) ?_
      refine WX.next ?_
      refine WC.region ?_
      refine wlv (op_move (by decide) rfl) rfl ?_
      refine wlv (op_move (by decide) rfl) rfl ?_
      refine wlv (op_add (by decide) rfl rfl (by omega)) rfl ?_
      refine wlv (op_assign (by decide) rfl) rfl ?_
      refine WL.nil ?_
      refine WX.regs (L' := [(0, _), (3, _), (4, _)]) (by repeat (first | exact RS.nil | refine RS.cons rfl ?_)) ?_
      refine WX.in_normal ?_
      refine WX.ownEq (v := .slice A1 (l.length + 1) c1) ((l ++ [(⟨rec.k, rec.g, rec.n, ⟨Ar, cr, rec.p⟩⟩ : Rs)]).flatMap Rs.cells) (by repeat (first | exact Take.here | apply Take.there)) (cells_push l ⟨rec.k, rec.g, rec.n, ⟨Ar, cr, rec.p⟩⟩) ?_
      refine WX.merge2 (c1 := rowsC true (l.map Rs.b)) (c2 := own (.slice Ar rec.p.length cr) 5 1 rec.p.length (bvs rec.p)) (d := rowsC true ((l ++ [(⟨rec.k, rec.g, rec.n, ⟨Ar, cr, rec.p⟩⟩ : Rs)]).map Rs.b)) (by repeat (first | exact Take.here | apply Take.there)) (by repeat (first | exact Take.here | apply Take.there)) (by rw [← bs_push]; exact rowsC_snoc (own_le_bs rfl) (fun _ => by simp)) ?_
      rw [show l.length + 1 = (l ++ [(⟨rec.k, rec.g, rec.n, ⟨Ar, cr, rec.p⟩⟩ : Rs)]).length by simp]
      refine WX.meet ((pos + cnt.toNat, l ++ [(⟨rec.k, rec.g, rec.n, ⟨Ar, cr, rec.p⟩⟩ : Rs)], A1, c1)) ⟨⟨by simp only []; omega, by simp only [List.length_append, List.length_singleton]; omega, fu, by simp only []; omega, by rw [hsc, salvF_go hlt hj, List.map_append]; rfl⟩, by simp only []; omega⟩ (fun a w hs => hs.sub (by repeat (first | exact RS.nil | refine RS.cons (by first | rfl | exact congrArg (fun z : Int => some (Value.int .i64 z)) (by omega)) ?_)) (by repeat (first | exact Takes.nil | exact Take.here | apply Takes.cons | apply Take.there)))
  ·
    refine WC.exit ?_
    refine WX.then_exit ?_
    refine WX.then_exit ?_
    refine WX.in_hit ?_
    refine WX.next ?_
    refine WC.seq ?_
    refine WC.region ?_
    refine wlv (op_move (by decide) rfl) rfl ?_
    refine wlv (op_assign (by decide) rfl) rfl ?_
    refine WL.nil ?_
    refine WX.regs (L' := [(2, _)]) (by repeat (first | exact RS.nil | refine RS.cons rfl ?_)) ?_
    refine WX.next ?_
    refine WC.ret ?_
    exact Fin.ret1 (by first | exact .inl rfl | exact .inr rfl) ((Ao, co, l)) (by dsimp only; rw [hsc]; exact (salvF_end (by rw [List.length_map]; omega)).symm) Try.results44 (.tmp rfl) (by repeat (first | exact Takes.nil | exact Take.here | apply Takes.cons | apply Take.there)) (by simp)
set_option maxHeartbeats 400000 in
set_option maxRecDepth 10000 in
theorem f45_spec (A : Option Addr) (M c : Nat) (rs : List Bs) (hM : rs.length = M) (hMx : M ≤ 1000000) :
    Spec Try.prog 45 [.slice A M c] [] [rd (.slice A M c) 1 M (rs.map Bs.v), rowsC false rs] (R := Option Addr × Nat × List Rs)
      (fun q => q.2.2.map Rs.r = salv (rs.map Bs.s))
      (fun q => .slice q.1 q.2.2.length q.2.1)
      (fun q => [own (.slice q.1 q.2.2.length q.2.1) 49 4 q.2.2.length (q.2.2.flatMap Rs.cells), rowsC true (q.2.2.map Rs.b)]) := by
  refine Spec.intro Try.func45 Try.ntmps45 rfl (by simp) (by simp) fun w0 => ?_
  refine WC.seq ?_
  refine WC.region ?_
  refine wlv (op_assign (by decide) rfl) rfl ?_
  refine WL.nil ?_
  refine WX.regs (L' := [(0, _)]) (by repeat (first | exact RS.nil | refine RS.cons rfl ?_)) ?_
  refine WX.next ?_
  refine WC.seq ?_
  refine WC.region ?_
  refine wlv (op_assign (by decide) rfl) rfl ?_
  refine WL.nil ?_
  refine WX.regs (L' := [(0, _), (3, _)]) (by repeat (first | exact RS.nil | refine RS.cons rfl ?_)) ?_
  refine WX.next ?_
  refine WC.seq ?_
  refine WC.seq ?_
  refine WC.region ?_
  refine wlv (op_assign (by decide) rfl) rfl ?_
  refine WL.nil ?_
  refine WX.regs (L' := [(0, _), (3, _), (4, _)]) (by repeat (first | exact RS.nil | refine RS.cons rfl ?_)) ?_
  refine WX.next ?_
  refine WC.block ?_
  refine WC.nilrows true ?_
  refine WC.nilslice 49 4 ?_
  refine WC.loop (X := Nat × List Rs × Option Addr × Nat) (fun q => M - q.1) (fun q => q.1 ≤ M ∧ q.2.1.length ≤ q.1 ∧ ∃ fuel, M - q.1 ≤ fuel ∧ salv (rs.map Bs.s) = salvF (rs.map Bs.s) fuel q.1 (q.2.1.map Rs.r)) (fun q => [(0, .slice A M c), (3, .slice q.2.2.1 q.2.1.length q.2.2.2), (4, .int .i64 (q.1 : Int))]) (fun q => [own (.slice q.2.2.1 q.2.1.length q.2.2.2) 49 4 q.2.1.length (q.2.1.flatMap Rs.cells), rowsC true (q.2.1.map Rs.b), rd (.slice A M c) 1 M (rs.map Bs.v), rowsC false rs, frameC w0 (MutF [])]) ((0, [], none, 0)) (⟨Nat.zero_le _, Nat.le_refl _, M, Nat.le_refl _, by unfold salv; rw [List.length_map, hM]; rfl⟩) (fun a w hs => hs.sub (by repeat (first | exact RS.nil | refine RS.cons (by first | rfl | exact congrArg (fun z : Int => some (Value.int .i64 z)) (by omega)) ?_)) (by repeat (first | exact Takes.nil | exact Take.here | apply Takes.cons | apply Take.there))) ?_
  rintro ⟨pos, l, Ao, co⟩ ⟨hp, hll, fuel, hfu, hsc⟩
  try dsimp only at hp hll hfu hsc ⊢
  refine WC.seq ?_
  refine WC.seq ?_
  refine WC.region ?_
  refine wlv (op_move (by decide) rfl) rfl ?_
  refine wlv (op_move (by decide) rfl) rfl ?_
  refine wlv (op_len Try.underlying52 (by decide) rfl) rfl ?_
  refine wlv (op_lss (by decide) rfl rfl) rfl ?_
  refine WL.nil ?_
  refine WX.regs (L' := [(0, _), (3, _), (4, _), (11, _)]) (by repeat (first | exact RS.nil | refine RS.cons rfl ?_)) ?_
  refine WX.next ?_
  refine WC.cond rfl (fun h1 => ?_) (fun h1 => ?_)
  ·
    have hlt : pos < (rs.map Bs.s).length := by rw [List.length_map]; omega
    obtain ⟨fu, rfl⟩ : ∃ fu, fuel = fu + 1 := ⟨fuel - 1, by omega⟩
    refine WC.skip ?_
    refine WX.next ?_
    refine WC.block ?_
    refine WC.seq ?_
    refine WC.region ?_
    refine WL.dup (c := rd (.slice A M c) 1 M (rs.map Bs.v)) (d := rd (sliced A pos M c 1) 1 (M - pos) ((rs.drop pos).map Bs.v)) (by repeat (first | exact List.Mem.head _ | apply List.Mem.tail)) (by simp) (by simp) (rd_dropR hM (by omega)) ?_
    refine WL.dup (c := rowsC false rs) (d := rowsC false (rs.drop pos)) (by repeat (first | exact List.Mem.head _ | apply List.Mem.tail)) rfl rfl rowsC_drop ?_
    refine wlv (op_move (by decide) rfl) rfl ?_
    refine wlv (op_move (by decide) rfl) rfl ?_
    refine wlv (op_slice_l Try.underlying52 sz22 (by decide) rfl rfl (by omega) (by omega)) rfl ?_
    refine wlx (op_call (f36_spec _ (M - pos) _ (rs.drop pos) (by simp; omega)) ca36 (by decide) rfl (by apply Give.mk; (repeat (first | exact Takes.nil | exact Take.here | apply Takes.cons | apply Take.there)); repeat (first | exact Reads.nil | (apply Reads.rd; (focus (repeat (first | exact List.Mem.head _ | apply List.Mem.tail)); done)) | (apply Reads.own; (focus (repeat (first | exact List.Mem.head _ | apply List.Mem.tail)); done)) | (apply Reads.rx; (focus (repeat (first | exact List.Mem.head _ | apply List.Mem.tail)); done)) | (apply Reads.rows (e := false); (focus (repeat (first | exact List.Mem.head _ | apply List.Mem.tail)); done)) | (apply Reads.rows (e := true); (focus (repeat (first | exact List.Mem.head _ | apply List.Mem.tail)); done))))) rfl ?_
    rintro ⟨Ar, cr, rec, cnt, e⟩ hj
    dsimp only at hj
    rw [List.map_drop] at hj
    dsimp only
    refine wlv (op_move (by decide) rfl) rfl ?_
    refine wlv (op_extract (by decide) rfl rfl) rfl ?_
    refine wlv (op_extract (by decide) rfl rfl) rfl ?_
    refine wlv (op_extract (by decide) rfl rfl) rfl ?_
    refine wl1 (op_alloc ti49 (by decide)) rfl fun b1 => ?_
    refine wl (op_storeAll sz49 rfl rfl (by repeat (first | exact Take.here | apply Take.there)) (by first | rfl | (simp [Value.cells]; done) | (simp [Value.cells]; omega)) (by first | rfl | exact wvs_one _ | exact bvs_one _) (by first | rfl | (simp [Value.cells]; done) | (simp [Value.cells]; omega))) rfl ?_
    change WL _ _ _ _ _ _ _
    refine wlv (op_assign (by decide) rfl) rfl ?_
    refine wlv (op_assign (by decide) rfl) rfl ?_
    refine WL.nil ?_
    refine WX.regs (L' := [(0, _), (3, _), (4, _), (5, _), (6, _), (7, _)]) (by repeat (first | exact RS.nil | refine RS.cons rfl ?_)) ?_
    refine WX.next ?_
    refine WC.cut (X := Nat × List Rs × Option Addr × Nat) (fun q => 1 ≤ q.1 ∧ pos + q.1 ≤ M ∧ q.2.1.length ≤ l.length + 1 ∧ salvF (rs.map Bs.s) (fu + 1) pos (l.map Rs.r) = salvF (rs.map Bs.s) fu (pos + q.1) (q.2.1.map Rs.r)) (fun q => [(0, .slice A M c), (3, .slice q.2.2.1 q.2.1.length q.2.2.2), (4, .int .i64 (pos : Int)), (6, .int .i64 (q.1 : Int))]) (fun q => [own (.slice q.2.2.1 q.2.1.length q.2.2.2) 49 4 q.2.1.length (q.2.1.flatMap Rs.cells), rowsC true (q.2.1.map Rs.b), rd (.slice A M c) 1 M (rs.map Bs.v), rowsC false rs, frameC w0 (MutF [])]) ?_ ?_
    ·
      refine WC.seq ?_
      refine WC.region ?_
      refine wlv (op_move (by decide) rfl) rfl ?_
      refine wlv (op_neq (by decide) rfl rfl) rfl ?_
      refine WL.nil ?_
      refine WX.regs (L' := [(0, _), (3, _), (4, _), (5, _), (6, _), (21, _)]) (by repeat (first | exact RS.nil | refine RS.cons rfl ?_)) ?_
      refine WX.next ?_
      refine WC.cond rfl (fun h2 => ?_) (fun h2 => ?_)
      ·
        refine WC.region ?_
        refine wlv (op_assign (by decide) rfl) rfl ?_
        refine WL.nil ?_
        refine WX.regs (L' := [(0, _), (3, _), (4, _), (6, _)]) (by repeat (first | exact RS.nil | refine RS.cons rfl ?_)) ?_
        refine WX.meet ((1, l, Ao, co)) (⟨Nat.le_refl _, by simp only []; omega, by simp only []; omega, salvF_err hlt hj (by omega)⟩) (fun a w hs => hs.sub (by repeat (first | exact RS.nil | refine RS.cons (by first | rfl | exact congrArg (fun z : Int => some (Value.int .i64 z)) (by omega)) ?_)) (by repeat (first | exact Takes.nil | exact Take.here | apply Takes.cons | apply Take.there)))
      ·
        obtain rfl : e = 0 := by omega
        obtain ⟨hc1, hc2⟩ := join_ok hj
        rw [List.length_drop, List.length_map] at hc2
        refine WC.region ?_
        refine wlv (op_move (by decide) rfl) rfl ?_
        refine wlv (op_loadAll ag49 (by decide) rfl (by repeat (first | exact List.Mem.head _ | apply List.Mem.tail)) (by first | rfl | (simp [Value.cells]; done) | (simp [Value.cells]; omega))) rfl ?_
        refine wl1 (op_lit1 Try.underlying80 ti49 rfl (by decide) (by decide) rfl rfl) rfl fun b2 => ?_
        refine wl2 (op_append Try.underlying80 ti49 rfl (by decide) (by decide) rfl rfl (by repeat (first | exact Take.here | apply Take.there)) (by first | (apply Src.rd; (repeat (first | exact List.Mem.head _ | apply List.Mem.tail)); done) | (apply Src.own; (repeat (first | exact List.Mem.head _ | apply List.Mem.tail)); done) | (apply Src.rx; (repeat (first | exact List.Mem.head _ | apply List.Mem.tail)); done)) (by rfl) (by omega) (by omega)) rfl fun A1 c1 => ?_
        refine wlv (op_assign (by decide) rfl) rfl ?_
        refine WL.nil ?_
        refine WX.regs (L' := [(0, _), (3, _), (4, _), (6, _)]) (by repeat (first | exact RS.nil | refine RS.cons rfl ?_)) ?_
        refine WX.ownEq (v := .slice A1 (l.length + 1) c1) ((l ++ [(⟨rec.k, rec.g, rec.n, ⟨Ar, cr, rec.p⟩⟩ : Rs)]).flatMap Rs.cells) (by repeat (first | exact Take.here | apply Take.there)) (cells_push l ⟨rec.k, rec.g, rec.n, ⟨Ar, cr, rec.p⟩⟩) ?_
        refine WX.merge2 (c1 := rowsC true (l.map Rs.b)) (c2 := own (.slice Ar rec.p.length cr) 5 1 rec.p.length (bvs rec.p)) (d := rowsC true ((l ++ [(⟨rec.k, rec.g, rec.n, ⟨Ar, cr, rec.p⟩⟩ : Rs)]).map Rs.b)) (by repeat (first | exact Take.here | apply Take.there)) (by repeat (first | exact Take.here | apply Take.there)) (by rw [← bs_push]; exact rowsC_snoc (own_le_bs rfl) (fun _ => by simp)) ?_
        rw [show l.length + 1 = (l ++ [(⟨rec.k, rec.g, rec.n, ⟨Ar, cr, rec.p⟩⟩ : Rs)]).length by simp]
        refine WX.meet ((cnt.toNat, l ++ [(⟨rec.k, rec.g, rec.n, ⟨Ar, cr, rec.p⟩⟩ : Rs)], A1, c1)) (⟨by simp only []; omega, by simp only []; omega, by simp, by rw [salvF_go hlt hj, List.map_append]; rfl⟩) (fun a w hs => hs.sub (by repeat (first | exact RS.nil | refine RS.cons (by first | rfl | exact congrArg (fun z : Int => some (Value.int .i64 z)) (by omega)) ?_)) (by repeat (first | exact Takes.nil | exact Take.here | apply Takes.cons | apply Take.there)))
    · rintro ⟨st, l2, A2, c2⟩ ⟨hst, hst2, hl2, hq⟩
      try dsimp only at hst hst2 hl2 hq ⊢
      refine WC.region ?_
      refine wlv (op_move (by decide) rfl) rfl ?_
      refine wlv (op_move (by decide) rfl) rfl ?_
      refine wlv (op_add (by decide) rfl rfl (by omega)) rfl ?_
      refine wlv (op_assign (by decide) rfl) rfl ?_
      refine WL.nil ?_
      refine WX.regs (L' := [(0, _), (3, _), (4, _)]) (by repeat (first | exact RS.nil | refine RS.cons rfl ?_)) ?_
      refine WX.in_normal ?_
      refine WX.meet ((pos + st, l2, A2, c2)) ⟨⟨by simp only []; omega, by simp only []; omega, fu, by simp only []; omega, by rw [hsc]; exact hq⟩, by simp only []; omega⟩ (fun a w hs => hs.sub (by repeat (first | exact RS.nil | refine RS.cons (by first | rfl | exact congrArg (fun z : Int => some (Value.int .i64 z)) (by omega)) ?_)) (by repeat (first | exact Takes.nil | exact Take.here | apply Takes.cons | apply Take.there)))
  ·
    refine WC.exit ?_
    refine WX.then_exit ?_
    refine WX.then_exit ?_
    refine WX.in_hit ?_
    refine WX.next ?_
    refine WC.seq ?_
    refine WC.region ?_
    refine wlv (op_move (by decide) rfl) rfl ?_
    refine wlv (op_assign (by decide) rfl) rfl ?_
    refine WL.nil ?_
    refine WX.regs (L' := [(2, _)]) (by repeat (first | exact RS.nil | refine RS.cons rfl ?_)) ?_
    refine WX.next ?_
    refine WC.ret ?_
    exact Fin.ret1 (by first | exact .inl rfl | exact .inr rfl) ((Ao, co, l)) (by dsimp only; rw [hsc]; exact (salvF_end (by rw [List.length_map]; omega)).symm) Try.results45 (.tmp rfl) (by repeat (first | exact Takes.nil | exact Take.here | apply Takes.cons | apply Take.there)) (by simp)
set_option maxHeartbeats 400000 in
set_option maxRecDepth 10000 in
theorem f43_spec (k g n k2 g2 n2 : Int) (A B : Option Addr) (m c m2 c2 : Nat) (p p2 : List UInt8) :
    Spec Try.prog 43 [.agg #[.int .i64 k, .int .i64 g, .int .i64 n, .slice A m c], .agg #[.int .i64 k2, .int .i64 g2, .int .i64 n2, .slice B m2 c2]] [] [rd (.slice A m c) 1 m (bvs p), rd (.slice B m2 c2) 1 m2 (bvs p2)]
      (R := Bool) (fun b => b = decide (k = k2 ∧ g = g2 ∧ n = n2 ∧ p = p2)) (fun b => .bool b) (fun _ => []) := by
  refine Spec.intro Try.func43 Try.ntmps43 rfl (by simp) (by simp) fun w0 => ?_
  refine WC.seq ?_
  refine WC.region ?_
  refine wl1 (op_box (by decide) rfl rfl) rfl fun b1 => ?_
  refine wl1 (op_box (by decide) rfl rfl) rfl fun b2 => ?_
  refine wlv (op_assign (by decide) rfl) rfl ?_
  refine WL.nil ?_
  refine WX.regs (L' := [(2, _), (3, _)]) (by repeat (first | exact RS.nil | refine RS.cons rfl ?_)) ?_
  refine WX.next ?_
  refine WC.seq ?_
  refine WC.region ?_
  refine wlv (op_fieldAddr fo50_0 (by decide) rfl) rfl ?_
  refine wlv (op_load1 fl3 (by decide) rfl (by repeat (first | exact List.Mem.head _ | apply List.Mem.tail)) rfl) rfl ?_
  refine wlv (op_fieldAddr fo50_0 (by decide) rfl) rfl ?_
  refine wlv (op_load1 fl3 (by decide) rfl (by repeat (first | exact List.Mem.head _ | apply List.Mem.tail)) rfl) rfl ?_
  refine wlv (op_eql (by decide) rfl rfl) rfl ?_
  refine wlv (op_move (by decide) rfl) rfl ?_
  refine WL.split (t := 10) rfl (fun g10 => ?_) (fun g10 => ?_)
  ·
    refine wlgv (op_fieldAddr fo50_1 (by decide) rfl) rfl rfl rfl ?_
    refine wlgv (op_load1 fl3 (by decide) rfl (by repeat (first | exact List.Mem.head _ | apply List.Mem.tail)) rfl) rfl rfl rfl ?_
    refine wlgv (op_fieldAddr fo50_1 (by decide) rfl) rfl rfl rfl ?_
    refine wlgv (op_load1 fl3 (by decide) rfl (by repeat (first | exact List.Mem.head _ | apply List.Mem.tail)) rfl) rfl rfl rfl ?_
    refine wlgv (op_eql (by decide) rfl rfl) rfl rfl rfl ?_
    refine wlv (op_pickT (by decide) rfl rfl) rfl ?_
    refine wlv (op_move (by decide) rfl) rfl ?_
    refine WL.split (t := 17) rfl (fun g17 => ?_) (fun g17 => ?_)
    ·
      refine wlgv (op_fieldAddr fo50_2 (by decide) rfl) rfl rfl rfl ?_
      refine wlgv (op_load1 fl3 (by decide) rfl (by repeat (first | exact List.Mem.head _ | apply List.Mem.tail)) rfl) rfl rfl rfl ?_
      refine wlgv (op_fieldAddr fo50_2 (by decide) rfl) rfl rfl rfl ?_
      refine wlgv (op_load1 fl3 (by decide) rfl (by repeat (first | exact List.Mem.head _ | apply List.Mem.tail)) rfl) rfl rfl rfl ?_
      refine wlgv (op_eql (by decide) rfl rfl) rfl rfl rfl ?_
      refine wlv (op_pickT (by decide) rfl rfl) rfl ?_
      refine wlv (op_move (by decide) rfl) rfl ?_
      refine WL.split (t := 24) rfl (fun g24 => ?_) (fun g24 => ?_)
      ·
        refine wlgv (op_fieldAddr fo50_3 (by decide) rfl) rfl rfl rfl ?_
        refine wlgv (op_load1 fl22 (by decide) rfl (by repeat (first | exact List.Mem.head _ | apply List.Mem.tail)) rfl) rfl rfl rfl ?_
        refine wlgv (op_fieldAddr fo50_3 (by decide) rfl) rfl rfl rfl ?_
        refine wlgv (op_load1 fl22 (by decide) rfl (by repeat (first | exact List.Mem.head _ | apply List.Mem.tail)) rfl) rfl rfl rfl ?_
        refine wlgx (op_call (f52_spec _ _ _ _ _ _ p p2) ca52 (by decide) rfl (by apply Give.mk; (repeat (first | exact Takes.nil | exact Take.here | apply Takes.cons | apply Take.there)); repeat (first | exact Reads.nil | (apply Reads.rd; (focus (repeat (first | exact List.Mem.head _ | apply List.Mem.tail)); done)) | (apply Reads.own; (focus (repeat (first | exact List.Mem.head _ | apply List.Mem.tail)); done)) | (apply Reads.rx; (focus (repeat (first | exact List.Mem.head _ | apply List.Mem.tail)); done)) | (apply Reads.rows (e := false); (focus (repeat (first | exact List.Mem.head _ | apply List.Mem.tail)); done)) | (apply Reads.rows (e := true); (focus (repeat (first | exact List.Mem.head _ | apply List.Mem.tail)); done))))) rfl rfl rfl ?_
        rintro _ _
        refine wlv (op_pickT (by decide) rfl rfl) rfl ?_
        refine wlv (op_assign (by decide) rfl) rfl ?_
        refine WL.nil ?_
        refine WX.regs (L' := [(4, _)]) (by repeat (first | exact RS.nil | refine RS.cons rfl ?_)) ?_
        refine WX.next ?_
        refine WC.ret ?_
        exact Fin.ret1 (by first | exact .inl rfl | exact .inr rfl) (_) (by simp only [true_eq_decide_iff, false_eq_decide_iff, decide_eq_decide]; simp_all) Try.results43 (.tmp rfl) (by repeat (first | exact Takes.nil | exact Take.here | apply Takes.cons | apply Take.there)) (by simp)
      ·
        refine wlg_no rfl rfl rfl rfl rfl (by decide) ?_
        refine wlg_no rfl rfl rfl rfl rfl (by decide) ?_
        refine wlg_no rfl rfl rfl rfl rfl (by decide) ?_
        refine wlg_no rfl rfl rfl rfl rfl (by decide) ?_
        refine wlg_no rfl rfl rfl rfl rfl (by decide) ?_
        refine wlv (op_pickF (by decide) rfl rfl) rfl ?_
        refine wlv (op_assign (by decide) rfl) rfl ?_
        refine WL.nil ?_
        refine WX.regs (L' := [(4, _)]) (by repeat (first | exact RS.nil | refine RS.cons rfl ?_)) ?_
        refine WX.next ?_
        refine WC.ret ?_
        exact Fin.ret1 (by first | exact .inl rfl | exact .inr rfl) (_) (by simp only [true_eq_decide_iff, false_eq_decide_iff, decide_eq_decide]; simp_all) Try.results43 (.tmp rfl) (by repeat (first | exact Takes.nil | exact Take.here | apply Takes.cons | apply Take.there)) (by simp)
    ·
      refine wlg_no rfl rfl rfl rfl rfl (by decide) ?_
      refine wlg_no rfl rfl rfl rfl rfl (by decide) ?_
      refine wlg_no rfl rfl rfl rfl rfl (by decide) ?_
      refine wlg_no rfl rfl rfl rfl rfl (by decide) ?_
      refine wlg_no rfl rfl rfl rfl rfl (by decide) ?_
      refine wlv (op_pickF (by decide) rfl rfl) rfl ?_
      refine wlv (op_move (by decide) rfl) rfl ?_
      refine wlg_no rfl rfl rfl rfl rfl (by decide) ?_
      refine wlg_no rfl rfl rfl rfl rfl (by decide) ?_
      refine wlg_no rfl rfl rfl rfl rfl (by decide) ?_
      refine wlg_no rfl rfl rfl rfl rfl (by decide) ?_
      refine wlg_no rfl rfl rfl rfl rfl (by decide) ?_
      refine wlv (op_pickF (by decide) rfl rfl) rfl ?_
      refine wlv (op_assign (by decide) rfl) rfl ?_
      refine WL.nil ?_
      refine WX.regs (L' := [(4, _)]) (by repeat (first | exact RS.nil | refine RS.cons rfl ?_)) ?_
      refine WX.next ?_
      refine WC.ret ?_
      exact Fin.ret1 (by first | exact .inl rfl | exact .inr rfl) (_) (by simp only [true_eq_decide_iff, false_eq_decide_iff, decide_eq_decide]; simp_all) Try.results43 (.tmp rfl) (by repeat (first | exact Takes.nil | exact Take.here | apply Takes.cons | apply Take.there)) (by simp)
  ·
    refine wlg_no rfl rfl rfl rfl rfl (by decide) ?_
    refine wlg_no rfl rfl rfl rfl rfl (by decide) ?_
    refine wlg_no rfl rfl rfl rfl rfl (by decide) ?_
    refine wlg_no rfl rfl rfl rfl rfl (by decide) ?_
    refine wlg_no rfl rfl rfl rfl rfl (by decide) ?_
    refine wlv (op_pickF (by decide) rfl rfl) rfl ?_
    refine wlv (op_move (by decide) rfl) rfl ?_
    refine wlg_no rfl rfl rfl rfl rfl (by decide) ?_
    refine wlg_no rfl rfl rfl rfl rfl (by decide) ?_
    refine wlg_no rfl rfl rfl rfl rfl (by decide) ?_
    refine wlg_no rfl rfl rfl rfl rfl (by decide) ?_
    refine wlg_no rfl rfl rfl rfl rfl (by decide) ?_
    refine wlv (op_pickF (by decide) rfl rfl) rfl ?_
    refine wlv (op_move (by decide) rfl) rfl ?_
    refine wlg_no rfl rfl rfl rfl rfl (by decide) ?_
    refine wlg_no rfl rfl rfl rfl rfl (by decide) ?_
    refine wlg_no rfl rfl rfl rfl rfl (by decide) ?_
    refine wlg_no rfl rfl rfl rfl rfl (by decide) ?_
    refine wlg_no rfl rfl rfl rfl rfl (by decide) ?_
    refine wlv (op_pickF (by decide) rfl rfl) rfl ?_
    refine wlv (op_assign (by decide) rfl) rfl ?_
    refine WL.nil ?_
    refine WX.regs (L' := [(4, _)]) (by repeat (first | exact RS.nil | refine RS.cons rfl ?_)) ?_
    refine WX.next ?_
    refine WC.ret ?_
    exact Fin.ret1 (by first | exact .inl rfl | exact .inr rfl) (_) (by simp only [true_eq_decide_iff, false_eq_decide_iff, decide_eq_decide]; simp_all) Try.results43 (.tmp rfl) (by repeat (first | exact Takes.nil | exact Take.here | apply Takes.cons | apply Take.there)) (by simp)
set_option maxHeartbeats 400000 in
set_option maxRecDepth 10000 in
theorem f37_spec (k g n k2 g2 n2 : Int) (A B : Option Addr) (m c m2 c2 : Nat) (p p2 : List UInt8) :
    Spec Try.prog 37 [.agg #[.int .i64 k, .int .i64 g, .int .i64 n, .slice A m c], .agg #[.int .i64 k2, .int .i64 g2, .int .i64 n2, .slice B m2 c2]] [] [rd (.slice A m c) 1 m (bvs p), rd (.slice B m2 c2) 1 m2 (bvs p2)]
      (R := Bool) (fun b => b = decide (k = k2 ∧ g = g2 ∧ n = n2 ∧ p = p2)) (fun b => .bool b) (fun _ => []) := by
  refine Spec.intro Try.func37 Try.ntmps37 rfl (by simp) (by simp) fun w0 => ?_
  refine WC.seq ?_
  refine WC.region ?_
  refine wl1 (op_box (by decide) rfl rfl) rfl fun b1 => ?_
  refine wl1 (op_box (by decide) rfl rfl) rfl fun b2 => ?_
  refine wlv (op_assign (by decide) rfl) rfl ?_
  refine WL.nil ?_
  refine WX.regs (L' := [(2, _), (3, _)]) (by repeat (first | exact RS.nil | refine RS.cons rfl ?_)) ?_
  refine WX.next ?_
  refine WC.seq ?_
  refine WC.region ?_
  refine wlv (op_fieldAddr fo49_0 (by decide) rfl) rfl ?_
  refine wlv (op_load1 fl3 (by decide) rfl (by repeat (first | exact List.Mem.head _ | apply List.Mem.tail)) rfl) rfl ?_
  refine wlv (op_fieldAddr fo49_0 (by decide) rfl) rfl ?_
  refine wlv (op_load1 fl3 (by decide) rfl (by repeat (first | exact List.Mem.head _ | apply List.Mem.tail)) rfl) rfl ?_
  refine wlv (op_eql (by decide) rfl rfl) rfl ?_
  refine wlv (op_move (by decide) rfl) rfl ?_
  refine WL.split (t := 10) rfl (fun g10 => ?_) (fun g10 => ?_)
  ·
    refine wlgv (op_fieldAddr fo49_1 (by decide) rfl) rfl rfl rfl ?_
    refine wlgv (op_load1 fl3 (by decide) rfl (by repeat (first | exact List.Mem.head _ | apply List.Mem.tail)) rfl) rfl rfl rfl ?_
    refine wlgv (op_fieldAddr fo49_1 (by decide) rfl) rfl rfl rfl ?_
    refine wlgv (op_load1 fl3 (by decide) rfl (by repeat (first | exact List.Mem.head _ | apply List.Mem.tail)) rfl) rfl rfl rfl ?_
    refine wlgv (op_eql (by decide) rfl rfl) rfl rfl rfl ?_
    refine wlv (op_pickT (by decide) rfl rfl) rfl ?_
    refine wlv (op_move (by decide) rfl) rfl ?_
    refine WL.split (t := 17) rfl (fun g17 => ?_) (fun g17 => ?_)
    ·
      refine wlgv (op_fieldAddr fo49_2 (by decide) rfl) rfl rfl rfl ?_
      refine wlgv (op_load1 fl3 (by decide) rfl (by repeat (first | exact List.Mem.head _ | apply List.Mem.tail)) rfl) rfl rfl rfl ?_
      refine wlgv (op_fieldAddr fo49_2 (by decide) rfl) rfl rfl rfl ?_
      refine wlgv (op_load1 fl3 (by decide) rfl (by repeat (first | exact List.Mem.head _ | apply List.Mem.tail)) rfl) rfl rfl rfl ?_
      refine wlgv (op_eql (by decide) rfl rfl) rfl rfl rfl ?_
      refine wlv (op_pickT (by decide) rfl rfl) rfl ?_
      refine wlv (op_move (by decide) rfl) rfl ?_
      refine WL.split (t := 24) rfl (fun g24 => ?_) (fun g24 => ?_)
      ·
        refine wlgv (op_fieldAddr fo49_3 (by decide) rfl) rfl rfl rfl ?_
        refine wlgv (op_load1 fl22 (by decide) rfl (by repeat (first | exact List.Mem.head _ | apply List.Mem.tail)) rfl) rfl rfl rfl ?_
        refine wlgv (op_bytesStr Try.underlying22 Try.underlying5 Try.underlying9 (by decide) rfl (by first | (apply Src.rd; (repeat (first | exact List.Mem.head _ | apply List.Mem.tail)); done) | (apply Src.own; (repeat (first | exact List.Mem.head _ | apply List.Mem.tail)); done) | (apply Src.rx; (repeat (first | exact List.Mem.head _ | apply List.Mem.tail)); done))) rfl rfl rfl ?_
        refine wlgv (op_fieldAddr fo49_3 (by decide) rfl) rfl rfl rfl ?_
        refine wlgv (op_load1 fl22 (by decide) rfl (by repeat (first | exact List.Mem.head _ | apply List.Mem.tail)) rfl) rfl rfl rfl ?_
        refine wlgv (op_bytesStr Try.underlying22 Try.underlying5 Try.underlying9 (by decide) rfl (by first | (apply Src.rd; (repeat (first | exact List.Mem.head _ | apply List.Mem.tail)); done) | (apply Src.own; (repeat (first | exact List.Mem.head _ | apply List.Mem.tail)); done) | (apply Src.rx; (repeat (first | exact List.Mem.head _ | apply List.Mem.tail)); done))) rfl rfl rfl ?_
        refine wlgv (op_eqls (by decide) rfl rfl) rfl rfl rfl ?_
        refine wlv (op_pickT (by decide) rfl rfl) rfl ?_
        refine wlv (op_assign (by decide) rfl) rfl ?_
        refine WL.nil ?_
        refine WX.regs (L' := [(4, _)]) (by repeat (first | exact RS.nil | refine RS.cons rfl ?_)) ?_
        refine WX.next ?_
        refine WC.ret ?_
        exact Fin.ret1 (by first | exact .inl rfl | exact .inr rfl) (_) (by simp only [true_eq_decide_iff, false_eq_decide_iff, decide_eq_decide]; simp_all) Try.results37 (.tmp rfl) (by repeat (first | exact Takes.nil | exact Take.here | apply Takes.cons | apply Take.there)) (by simp)
      ·
        refine wlg_no rfl rfl rfl rfl rfl (by decide) ?_
        refine wlg_no rfl rfl rfl rfl rfl (by decide) ?_
        refine wlg_no rfl rfl rfl rfl rfl (by decide) ?_
        refine wlg_no rfl rfl rfl rfl rfl (by decide) ?_
        refine wlg_no rfl rfl rfl rfl rfl (by decide) ?_
        refine wlg_no rfl rfl rfl rfl rfl (by decide) ?_
        refine wlg_no rfl rfl rfl rfl rfl (by decide) ?_
        refine wlv (op_pickF (by decide) rfl rfl) rfl ?_
        refine wlv (op_assign (by decide) rfl) rfl ?_
        refine WL.nil ?_
        refine WX.regs (L' := [(4, _)]) (by repeat (first | exact RS.nil | refine RS.cons rfl ?_)) ?_
        refine WX.next ?_
        refine WC.ret ?_
        exact Fin.ret1 (by first | exact .inl rfl | exact .inr rfl) (_) (by simp only [true_eq_decide_iff, false_eq_decide_iff, decide_eq_decide]; simp_all) Try.results37 (.tmp rfl) (by repeat (first | exact Takes.nil | exact Take.here | apply Takes.cons | apply Take.there)) (by simp)
    ·
      refine wlg_no rfl rfl rfl rfl rfl (by decide) ?_
      refine wlg_no rfl rfl rfl rfl rfl (by decide) ?_
      refine wlg_no rfl rfl rfl rfl rfl (by decide) ?_
      refine wlg_no rfl rfl rfl rfl rfl (by decide) ?_
      refine wlg_no rfl rfl rfl rfl rfl (by decide) ?_
      refine wlv (op_pickF (by decide) rfl rfl) rfl ?_
      refine wlv (op_move (by decide) rfl) rfl ?_
      refine wlg_no rfl rfl rfl rfl rfl (by decide) ?_
      refine wlg_no rfl rfl rfl rfl rfl (by decide) ?_
      refine wlg_no rfl rfl rfl rfl rfl (by decide) ?_
      refine wlg_no rfl rfl rfl rfl rfl (by decide) ?_
      refine wlg_no rfl rfl rfl rfl rfl (by decide) ?_
      refine wlg_no rfl rfl rfl rfl rfl (by decide) ?_
      refine wlg_no rfl rfl rfl rfl rfl (by decide) ?_
      refine wlv (op_pickF (by decide) rfl rfl) rfl ?_
      refine wlv (op_assign (by decide) rfl) rfl ?_
      refine WL.nil ?_
      refine WX.regs (L' := [(4, _)]) (by repeat (first | exact RS.nil | refine RS.cons rfl ?_)) ?_
      refine WX.next ?_
      refine WC.ret ?_
      exact Fin.ret1 (by first | exact .inl rfl | exact .inr rfl) (_) (by simp only [true_eq_decide_iff, false_eq_decide_iff, decide_eq_decide]; simp_all) Try.results37 (.tmp rfl) (by repeat (first | exact Takes.nil | exact Take.here | apply Takes.cons | apply Take.there)) (by simp)
  ·
    refine wlg_no rfl rfl rfl rfl rfl (by decide) ?_
    refine wlg_no rfl rfl rfl rfl rfl (by decide) ?_
    refine wlg_no rfl rfl rfl rfl rfl (by decide) ?_
    refine wlg_no rfl rfl rfl rfl rfl (by decide) ?_
    refine wlg_no rfl rfl rfl rfl rfl (by decide) ?_
    refine wlv (op_pickF (by decide) rfl rfl) rfl ?_
    refine wlv (op_move (by decide) rfl) rfl ?_
    refine wlg_no rfl rfl rfl rfl rfl (by decide) ?_
    refine wlg_no rfl rfl rfl rfl rfl (by decide) ?_
    refine wlg_no rfl rfl rfl rfl rfl (by decide) ?_
    refine wlg_no rfl rfl rfl rfl rfl (by decide) ?_
    refine wlg_no rfl rfl rfl rfl rfl (by decide) ?_
    refine wlv (op_pickF (by decide) rfl rfl) rfl ?_
    refine wlv (op_move (by decide) rfl) rfl ?_
    refine wlg_no rfl rfl rfl rfl rfl (by decide) ?_
    refine wlg_no rfl rfl rfl rfl rfl (by decide) ?_
    refine wlg_no rfl rfl rfl rfl rfl (by decide) ?_
    refine wlg_no rfl rfl rfl rfl rfl (by decide) ?_
    refine wlg_no rfl rfl rfl rfl rfl (by decide) ?_
    refine wlg_no rfl rfl rfl rfl rfl (by decide) ?_
    refine wlg_no rfl rfl rfl rfl rfl (by decide) ?_
    refine wlv (op_pickF (by decide) rfl rfl) rfl ?_
    refine wlv (op_assign (by decide) rfl) rfl ?_
    refine WL.nil ?_
    refine WX.regs (L' := [(4, _)]) (by repeat (first | exact RS.nil | refine RS.cons rfl ?_)) ?_
    refine WX.next ?_
    refine WC.ret ?_
    exact Fin.ret1 (by first | exact .inl rfl | exact .inr rfl) (_) (by simp only [true_eq_decide_iff, false_eq_decide_iff, decide_eq_decide]; simp_all) Try.results37 (.tmp rfl) (by repeat (first | exact Takes.nil | exact Take.here | apply Takes.cons | apply Take.there)) (by simp)
end Go.Proofs.Ythephcghglldaaa.Sx
