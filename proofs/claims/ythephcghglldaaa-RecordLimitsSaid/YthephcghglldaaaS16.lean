import Derived.Test.YthephcghglldaaaS15
set_option linter.unusedVariables false
set_option linter.unusedSimpArgs false
namespace Go.Proofs.Ythephcghglldaaa.Sx
open Go.RowKit Go.Proofs.Ythephcghglldaaa.Ty
attribute [local irreducible] blk own rd rx frameC
section
variable {n : Nat} {L : List (Nat × Value)} {H : List Ch} {d : Nat} {ty : TypeId} {pos : String} {af : Array Edge} {g : Option (Nat × Bool)} {x y : Operand} {yt : TypeId}
theorem key_eq (w : World) (a b c a' b' c' : Int) : (Op.equalIn 10000 101 (.agg #[.int .i64 a, .int .i64 b, .int .i64 c]) (.agg #[.int .i64 a', .int .i64 b', .int .i64 c'])).run Try.prog w = .ok (decide (a = a' ∧ b = b' ∧ c = c')) w := by
  have hf : Try.prog.fieldsOf 101 = #[⟨"kind", 3, 0, false, "", "bulletin/record", 0⟩, ⟨"generation", 3, 1, false, "", "bulletin/record", 8⟩, ⟨"number", 3, 2, false, "", "bulletin/record", 16⟩] := by
    unfold Program.fieldsOf
    rw [Try.underlying101]
  rw [run_equalIn_struct w 9999 101 _ _ (by rw [hf]; exact Try.underlying101) (by kernel_rfl), hf]
  have he : ∀ (u v : Int) (w' : World), (Op.equalIn 9999 3 (.int .i64 u) (.int .i64 v)).run Try.prog w' = .ok (u == v) w' := fun u v w' => run_equalIn_int w' 9998 3 .i64 .i64 u v Try.underlying3
  have hp : ∀ (xs : Array Value) (o : Nat) (v : Value) (w' : World), xs[o]? = some v → (part 3 xs o).run Try.prog w' = .ok v w' := fun xs o v w' h => by simp [part, Sem.run_bind, fl3.isAgg, h]
  have p0 := fun (u v z : Int) (w' : World) => hp #[.int .i64 u, .int .i64 v, .int .i64 z] 0 _ w' rfl
  have p1 := fun (u v z : Int) (w' : World) => hp #[.int .i64 u, .int .i64 v, .int .i64 z] 1 _ w' rfl
  have p2 := fun (u v z : Int) (w' : World) => hp #[.int .i64 u, .int .i64 v, .int .i64 z] 2 _ w' rfl
  simp only [Op.eqFields, ne_eq, String.reduceEq, not_false_eq_true, if_true, Sem.run_bind, p0, Result.andThen_ok, he]
  by_cases h1 : a = a' <;> by_cases h2 : b = b' <;> by_cases h3 : c = c' <;> simp [h1, h2, h3, p0, p1, p2, he]
theorem op_neqkey {a b c a' b' c' : Int} (hn : d < n) (hx : evr L x = some (.agg #[.int .i64 a, .int .i64 b, .int .i64 c])) (hy : evr L y = some (.agg #[.int .i64 a', .int .i64 b', .int .i64 c'])) :
    Val Try.prog ⟨some d, .binOp .neq 101 x y yt, ty, pos, af, g⟩ n L H d (.bool (decide (¬ (a = a' ∧ b = b' ∧ c = c')))) :=
  Val.mk rfl hn fun w0 w hs => by
    have hg := fun X Y => run_eqGuard_agg (P := Try.prog) w .neq 101 X Y #[.int .i64 a, .int .i64 b, .int .i64 c] #[.int .i64 a', .int .i64 b', .int .i64 c'] (by kernel_rfl)
    simp only [execOp, hs.eval hx, hs.eval hy, Sem.run_bind, hg, Result.andThen_ok, run_neq_struct, key_eq, Sem.run_pure, ← decide_not]
end

theorem dec_fine {bs : List UInt8} {p : Pt} (h : (p, 0) = dec bs) : p.chk = 0 ∧ bs.length = 256 := by
  unfold dec at h
  split at h
  · cases h
  · split at h
    · cases h
    · split at h
      · cases h
      · split at h
        · cases h
        · split at h
          · cases h
          · rename_i h1 h2 h3 h4 h5
            cases h
            exact ⟨Decidable.byContradiction fun k => h5 (.inl k), by omega⟩
structure Rcd where
  (k g n : Int)
  p : List UInt8
def rc0 : Rcd := ⟨0, 0, 0, []⟩
def jbad (f p : Pt) (i : Nat) : Prop := ¬ p.i = (i : Int) ∨ ¬ (p.k = f.k ∧ p.g = f.g ∧ p.n = f.n) ∨ ¬ p.c = f.c
instance (f p : Pt) (i : Nat) : Decidable (jbad f p i) := by unfold jbad; infer_instance
/-- The parts that follow the first one. -/
def jf (ss : List (List UInt8)) (f : Pt) : Nat → Nat → List UInt8 → Rcd × Int × Int
  | 0, _, acc => (⟨f.k, f.g, f.n, acc⟩, f.c, 0)
  | r + 1, i, acc =>
    if ss.length ≤ i then (rc0, 0, 23)
    else if ¬ (dec (ss.getD i [])).2 = 0 then (rc0, 0, (dec (ss.getD i [])).2)
    else if jbad f (dec (ss.getD i [])).1 i then (rc0, 0, 30)
    else jf ss f r (i + 1) (acc ++ (dec (ss.getD i [])).1.b)
/-- The record at the beginning, the number of its sectors, the error. -/
def join (ss : List (List UInt8)) : Rcd × Int × Int :=
  if ss.length = 0 then (rc0, 0, 4)
  else if ¬ (dec (ss.getD 0 [])).2 = 0 then (rc0, 0, (dec (ss.getD 0 [])).2)
  else if ¬ (dec (ss.getD 0 [])).1.i = 0 then (rc0, 0, 30)
  else jf ss (dec (ss.getD 0 [])).1 ((dec (ss.getD 0 [])).1.c.toNat - 1) 1 (dec (ss.getD 0 [])).1.b
section
variable {ss : List (List UInt8)} {s : List UInt8} {p f : Pt} {e : Int} {i r : Nat} {acc : List UInt8}
theorem ss_at {rs : List Bs} {i : Nat} {r : Bs} (h : rs[i]? = some r) : (rs.map Bs.s).getD i [] = r.s := by simp [List.getD_eq_getElem?_getD, h]
theorem rows_at {rs : List Bs} {i : Nat} {r : Bs} (h : rs[i]? = some r) : (rs.map Bs.v)[i]? = some r.v := by simp [h]
theorem rows_at' {rs : List Bs} {i j : Nat} {r : Bs} (h : rs[i]? = some r) (hj : j = i) : (rs.map Bs.v)[j]? = some r.v := by subst hj; exact rows_at h
theorem join_first (h0 : ¬ ss.length = 0) (hs : ss.getD 0 [] = s) (hd : (p, e) = dec s) (he : ¬ e = 0) : join ss = (rc0, 0, e) := by
  unfold join; rw [hs, ← hd, if_neg h0, if_pos he]
theorem join_seq (h0 : ¬ ss.length = 0) (hs : ss.getD 0 [] = s) (hd : (p, 0) = dec s) (hi : ¬ p.i = 0) : join ss = (rc0, 0, 30) := by
  unfold join; rw [hs, ← hd, if_neg h0, if_neg (fun k => k rfl), if_pos hi]
theorem join_go (h0 : ¬ ss.length = 0) (hs : ss.getD 0 [] = s) (hd : (p, 0) = dec s) (hi : p.i = 0) : join ss = jf ss p (p.c.toNat - 1) 1 p.b := by
  unfold join; rw [hs, ← hd, if_neg h0, if_neg (fun k => k rfl), if_neg (fun k => k hi)]
theorem jf_short (h : ss.length ≤ i) : jf ss f (r + 1) i acc = (rc0, 0, 23) := by unfold jf; rw [if_pos h]
theorem jf_err (h : ¬ ss.length ≤ i) (hs : ss.getD i [] = s) (hd : (p, e) = dec s) (he : ¬ e = 0) : jf ss f (r + 1) i acc = (rc0, 0, e) := by
  unfold jf; rw [hs, ← hd, if_neg h, if_pos he]
theorem jf_bad (h : ¬ ss.length ≤ i) (hs : ss.getD i [] = s) (hd : (p, 0) = dec s) (hb : jbad f p i) : jf ss f (r + 1) i acc = (rc0, 0, 30) := by
  unfold jf; rw [hs, ← hd, if_neg h, if_neg (fun k => k rfl), if_pos hb]
theorem jf_next (h : ¬ ss.length ≤ i) (hs : ss.getD i [] = s) (hd : (p, 0) = dec s) (hb : ¬ jbad f p i) : jf ss f (r + 1) i acc = jf ss f r (i + 1) (acc ++ p.b) := by
  conv => lhs; unfold jf
  rw [hs, ← hd, if_neg h, if_neg (fun k => k rfl), if_neg hb]
end
set_option maxHeartbeats 400000 in
set_option maxRecDepth 10000 in
theorem f34_spec (A : Option Addr) (M c : Nat) (rs : List Bs) (hM : rs.length = M) :
    Spec Try.prog 34 [.slice A M c] [] [rd (.slice A M c) 1 M (rs.map Bs.v), rowsC false rs] (R := Option Addr × Nat × Rcd × Int × Int)
      (fun q => q.2.2 = join (rs.map Bs.s))
      (fun q => .tuple #[.agg #[.int .i64 q.2.2.1.k, .int .i64 q.2.2.1.g, .int .i64 q.2.2.1.n, .slice q.1 q.2.2.1.p.length q.2.1], .int .i64 q.2.2.2.1, .int .i64 q.2.2.2.2])
      (fun q => [own (.slice q.1 q.2.2.1.p.length q.2.1) 5 1 q.2.2.1.p.length (bvs q.2.2.1.p)]) := by
  refine Spec.intro Try.func34 Try.ntmps34 rfl (by simp) (by simp) fun w0 => ?_
  refine WC.seq ?_
  refine WC.region ?_
  refine wl1 (op_alloc ti50 (by decide)) rfl fun b1 => ?_
  refine wlv (op_assign (by decide) rfl) rfl ?_
  refine wlv (op_assign (by decide) rfl) rfl ?_
  refine WL.nil ?_
  refine WX.regs (L' := [(0, _), (2, _)]) (by repeat (first | exact RS.nil | refine RS.cons rfl ?_)) ?_
  refine WX.next ?_
  refine WC.seq ?_
  refine WC.seq ?_
  refine WC.region ?_
  refine wlv (op_move (by decide) rfl) rfl ?_
  refine wlv (op_len Try.underlying52 (by decide) rfl) rfl ?_
  refine wlv (op_eql (by decide) rfl rfl) rfl ?_
  refine WL.nil ?_
  refine WX.regs (L' := [(0, _), (2, _), (11, _)]) (by repeat (first | exact RS.nil | refine RS.cons rfl ?_)) ?_
  refine WX.next ?_
  refine WC.cond rfl (fun h1 => ?_) (fun h1 => ?_)
  ·
    refine WC.seq ?_
    refine WC.region ?_
    refine wlv (op_build (cs := [.int .i64 0, .int .i64 0, .int .i64 0, .slice none 0 0]) (pv := []) (by decide) rfl (by kernel_rfl)) rfl ?_
    refine wl (op_storeAll sz50 rfl rfl (by repeat (first | exact Take.here | apply Take.there)) (by first | rfl | (simp [Value.cells]; done) | (simp [Value.cells]; omega)) (by first | rfl | exact wvs_one _ | exact bvs_one _) (by first | rfl | (simp [Value.cells]; done) | (simp [Value.cells]; omega))) rfl ?_
    change WL _ _ _ _ _ _ _
    refine wlv (op_assign (by decide) rfl) rfl ?_
    refine wlv (op_assign (by decide) rfl) rfl ?_
    refine WL.nil ?_
    refine WX.nilown 5 1 ?_
    refine WX.regs (L' := [(2, _), (3, _), (4, _)]) (by repeat (first | exact RS.nil | refine RS.cons rfl ?_)) ?_
    refine WX.next ?_
    refine WC.ret ?_
    refine WX.then_ret ?_
    exact Fin.ret3 (by first | exact .inl rfl | exact .inr rfl) ((none, 0, rc0, 0, 4)) (Eq.symm (by unfold join; rw [if_pos (by rw [List.length_map]; omega)])) Try.results34 rfl (.cellN rfl ag50 (by repeat (first | exact List.Mem.head _ | apply List.Mem.tail)) (by first | rfl | (simp [Value.cells]; done) | (simp [Value.cells]; omega))) (.tmp rfl) (.tmp rfl) (by repeat (first | exact Takes.nil | exact Take.here | apply Takes.cons | apply Take.there)) (by simp)
  ·
    have hM1 : 0 < M := by omega
    have h0 : ¬ (rs.map Bs.s).length = 0 := by rw [List.length_map]; omega
    obtain ⟨r0, hr0⟩ : ∃ r0, rs[0]? = some r0 := ⟨rs[0]'(by omega), List.getElem?_eq_getElem _⟩
    have hm0 : r0 ∈ rs := List.mem_of_getElem? hr0
    refine WC.skip ?_
    refine WX.next ?_
    refine WC.seq ?_
    refine WC.region ?_
    refine WL.dup (c := rowsC false rs) (d := rd (.slice r0.A r0.s.length r0.c) 1 r0.s.length (bvs r0.s)) (by repeat (first | exact List.Mem.head _ | apply List.Mem.tail)) (by rfl) (by simp) (rowsC_get (r := r0) hm0) ?_
    refine wlv (op_move (by decide) rfl) rfl ?_
    refine wlv (op_index Try.underlying52 sz22 (by decide) rfl rfl (by omega) (by omega) (by decide) (Src.rd (by repeat (first | exact List.Mem.head _ | apply List.Mem.tail)))) rfl ?_
    refine wlv (op_loadS fl22 (by decide) rfl (Src.rd (by repeat (first | exact List.Mem.head _ | apply List.Mem.tail))) (rows_at hr0)) rfl ?_
    refine wlx (op_call (f21_spec r0.A r0.s.length r0.c r0.s rfl) ca21 (by decide) rfl (by apply Give.mk; (repeat (first | exact Takes.nil | exact Take.here | apply Takes.cons | apply Take.there)); repeat (first | exact Reads.nil | (apply Reads.rd; (focus (repeat (first | exact List.Mem.head _ | apply List.Mem.tail)); done)) | (apply Reads.own; (focus (repeat (first | exact List.Mem.head _ | apply List.Mem.tail)); done)) | (apply Reads.rx; (focus (repeat (first | exact List.Mem.head _ | apply List.Mem.tail)); done)) | (apply Reads.rows (e := false); (focus (repeat (first | exact List.Mem.head _ | apply List.Mem.tail)); done)) | (apply Reads.rows (e := true); (focus (repeat (first | exact List.Mem.head _ | apply List.Mem.tail)); done))))) rfl ?_
    rintro ⟨Af, cf, mf, pf, ef⟩ ⟨hdf, hmf⟩
    dsimp only at hdf hmf
    subst hmf
    dsimp only
    refine wlv (op_move (by decide) rfl) rfl ?_
    refine wlv (op_extract (by decide) rfl rfl) rfl ?_
    refine wlv (op_extract (by decide) rfl rfl) rfl ?_
    refine wl1 (op_alloc ti25 (by decide)) rfl fun b2 => ?_
    refine wl (op_storeAll sz25 rfl rfl (by repeat (first | exact Take.here | apply Take.there)) (by first | rfl | (simp [Value.cells]; done) | (simp [Value.cells]; omega)) (by first | rfl | exact wvs_one _ | exact bvs_one _) (by first | rfl | (simp [Value.cells]; done) | (simp [Value.cells]; omega))) rfl ?_
    change WL _ _ _ _ _ _ _
    refine wlv (op_assign (by decide) rfl) rfl ?_
    refine WL.nil ?_
    refine WX.regs (L' := [(0, _), (2, _), (4, _), (5, _)]) (by repeat (first | exact RS.nil | refine RS.cons rfl ?_)) ?_
    refine WX.next ?_
    refine WC.seq ?_
    refine WC.block ?_
    refine WC.seq ?_
    refine WC.region ?_
    refine wlv (op_move (by decide) rfl) rfl ?_
    refine wlv (op_neq (by decide) rfl rfl) rfl ?_
    refine wlv (op_assign (by decide) rfl) rfl ?_
    refine WL.nil ?_
    refine WX.regs (L' := [(0, _), (2, _), (4, _), (5, _), (20, _)]) (by repeat (first | exact RS.nil | refine RS.cons rfl ?_)) ?_
    refine WX.next ?_
    refine WC.cond rfl (fun h2 => ?_) (fun h2 => ?_)
    ·
      refine WC.seq ?_
      refine WC.region ?_
      refine wlv (op_build (cs := [.int .i64 0, .int .i64 0, .int .i64 0, .slice none 0 0]) (pv := []) (by decide) rfl (by kernel_rfl)) rfl ?_
      refine wlv (op_move (by decide) rfl) rfl ?_
      refine wl (op_storeAll sz50 rfl rfl (by repeat (first | exact Take.here | apply Take.there)) (by first | rfl | (simp [Value.cells]; done) | (simp [Value.cells]; omega)) (by first | rfl | exact wvs_one _ | exact bvs_one _) (by first | rfl | (simp [Value.cells]; done) | (simp [Value.cells]; omega))) rfl ?_
      change WL _ _ _ _ _ _ _
      refine wlv (op_assign (by decide) rfl) rfl ?_
      refine wlv (op_assign (by decide) rfl) rfl ?_
      refine WL.nil ?_
      refine WX.nilown 5 1 ?_
      refine WX.regs (L' := [(2, _), (3, _), (4, _)]) (by repeat (first | exact RS.nil | refine RS.cons rfl ?_)) ?_
      refine WX.next ?_
      refine WC.ret ?_
      refine WX.in_ret ?_
      refine WX.then_ret ?_
      exact Fin.ret3 (by first | exact .inl rfl | exact .inr rfl) ((none, 0, rc0, 0, ef)) (Eq.symm (join_first h0 (ss_at hr0) hdf (by omega))) Try.results34 rfl (.cellN rfl ag50 (by repeat (first | exact List.Mem.head _ | apply List.Mem.tail)) (by first | rfl | (simp [Value.cells]; done) | (simp [Value.cells]; omega))) (.tmp rfl) (.tmp rfl) (by repeat (first | exact Takes.nil | exact Take.here | apply Takes.cons | apply Take.there)) (by simp)
    ·
      obtain rfl : ef = 0 := by omega
      obtain ⟨hchk, hl0⟩ := dec_fine hdf
      unfold Pt.chk at hchk
      obtain ⟨hff, hc1, hc2, hi1, hi2, hb2⟩ := chk_ok hchk
      have hs0 := ss_at hr0
      refine WC.seq ?_
      refine WC.region ?_
      refine wlv (op_fieldAddr fo25_3 (by decide) rfl) rfl ?_
      refine wlv (op_load1 fl3 (by decide) rfl (by repeat (first | exact List.Mem.head _ | apply List.Mem.tail)) rfl) rfl ?_
      refine wlv (op_neq (by decide) rfl rfl) rfl ?_
      refine wlv (op_assign (by decide) rfl) rfl ?_
      refine WL.nil ?_
      refine WX.regs (L' := [(0, _), (2, _), (5, _), (25, _)]) (by repeat (first | exact RS.nil | refine RS.cons rfl ?_)) ?_
      refine WX.next ?_
      refine WC.cond rfl (fun h3 => ?_) (fun h3 => ?_)
      ·
        refine WC.seq ?_
        refine WC.region ?_
        refine wlv (op_build (cs := [.int .i64 0, .int .i64 0, .int .i64 0, .slice none 0 0]) (pv := []) (by decide) rfl (by kernel_rfl)) rfl ?_
        refine wl (op_storeAll sz50 rfl rfl (by repeat (first | exact Take.here | apply Take.there)) (by first | rfl | (simp [Value.cells]; done) | (simp [Value.cells]; omega)) (by first | rfl | exact wvs_one _ | exact bvs_one _) (by first | rfl | (simp [Value.cells]; done) | (simp [Value.cells]; omega))) rfl ?_
        change WL _ _ _ _ _ _ _
        refine wlv (op_assign (by decide) rfl) rfl ?_
        refine wlv (op_assign (by decide) rfl) rfl ?_
        refine WL.nil ?_
        refine WX.nilown 5 1 ?_
        refine WX.regs (L' := [(2, _), (3, _), (4, _)]) (by repeat (first | exact RS.nil | refine RS.cons rfl ?_)) ?_
        refine WX.next ?_
        refine WC.ret ?_
        refine WX.in_ret ?_
        refine WX.then_ret ?_
        exact Fin.ret3 (by first | exact .inl rfl | exact .inr rfl) ((none, 0, rc0, 0, 30)) (Eq.symm (join_seq h0 hs0 hdf (by omega))) Try.results34 rfl (.cellN rfl ag50 (by repeat (first | exact List.Mem.head _ | apply List.Mem.tail)) (by first | rfl | (simp [Value.cells]; done) | (simp [Value.cells]; omega))) (.tmp rfl) (.tmp rfl) (by repeat (first | exact Takes.nil | exact Take.here | apply Takes.cons | apply Take.there)) (by simp)
      ·
        refine WC.skip ?_
        refine WX.in_normal ?_
        refine WX.next ?_
        refine WC.seq ?_
        refine WC.region ?_
        refine wlv (op_fieldAddr fo25_0 (by decide) rfl) rfl ?_
        refine wlv (op_load1 fl3 (by decide) rfl (by repeat (first | exact List.Mem.head _ | apply List.Mem.tail)) rfl) rfl ?_
        refine wlv (op_fieldAddr fo25_1 (by decide) rfl) rfl ?_
        refine wlv (op_load1 fl3 (by decide) rfl (by repeat (first | exact List.Mem.head _ | apply List.Mem.tail)) rfl) rfl ?_
        refine wlv (op_fieldAddr fo25_2 (by decide) rfl) rfl ?_
        refine wlv (op_load1 fl3 (by decide) rfl (by repeat (first | exact List.Mem.head _ | apply List.Mem.tail)) rfl) rfl ?_
        refine wlv (op_fieldAddr fo25_5 (by decide) rfl) rfl ?_
        refine wlv (op_load1 fl22 (by decide) rfl (by repeat (first | exact List.Mem.head _ | apply List.Mem.tail)) rfl) rfl ?_
        refine wlv (op_build (cs := [.int .i64 pf.k, .int .i64 pf.g, .int .i64 pf.n, .slice Af pf.b.length cf]) (pv := [(0, _), (1, _), (2, _), (3, _)]) (by decide) rfl (by kernel_rfl)) rfl ?_
        refine wl (op_storeAll sz50 rfl rfl (by repeat (first | exact Take.here | apply Take.there)) (by first | rfl | (simp [Value.cells]; done) | (simp [Value.cells]; omega)) (by first | rfl | exact wvs_one _ | exact bvs_one _) (by first | rfl | (simp [Value.cells]; done) | (simp [Value.cells]; omega))) rfl ?_
        change WL _ _ _ _ _ _ _
        refine WL.nil ?_
        refine WX.regs (L' := [(0, _), (2, _), (5, _)]) (by repeat (first | exact RS.nil | refine RS.cons rfl ?_)) ?_
        refine WX.next ?_
        refine WC.seq ?_
        refine WC.seq ?_
        refine WC.region ?_
        refine wlv (op_assign (by decide) rfl) rfl ?_
        refine WL.nil ?_
        refine WX.regs (L' := [(0, _), (2, _), (5, _), (6, _)]) (by repeat (first | exact RS.nil | refine RS.cons rfl ?_)) ?_
        refine WX.next ?_
        refine WC.block ?_
        refine WC.loop (X := Nat × List UInt8 × Option Addr × Nat) (fun q => pf.c.toNat - q.1) (fun q => 1 ≤ q.1 ∧ q.1 ≤ pf.c.toNat ∧ q.2.1.length ≤ 224 * q.1 ∧ join (rs.map Bs.s) = jf (rs.map Bs.s) pf (pf.c.toNat - q.1) q.1 q.2.1) (fun q => [(0, .slice A M c), (2, .pointer (some ⟨b1, 0, none⟩)), (5, .pointer (some ⟨b2, 0, none⟩)), (6, .int .i64 (q.1 : Int))]) (fun q => [own (.slice q.2.2.1 q.2.1.length q.2.2.2) 5 1 q.2.1.length (bvs q.2.1), blk b1 [.int .i64 pf.k, .int .i64 pf.g, .int .i64 pf.n, .slice q.2.2.1 q.2.1.length q.2.2.2] 50, blk b2 (pcells pf.k pf.g pf.n pf.i pf.c (.slice Af pf.b.length cf)) 25, rd (.slice A M c) 1 M (rs.map Bs.v), rowsC false rs, frameC w0 (MutF [])]) ((1, pf.b, Af, cf)) (⟨Nat.le_refl _, by simp only []; omega, by simp only []; omega, join_go h0 hs0 hdf (by omega)⟩) (fun a w hs => hs.sub (by repeat (first | exact RS.nil | refine RS.cons (by first | rfl | exact congrArg (fun z : Int => some (Value.int .i64 z)) (by omega)) ?_)) (by repeat (first | exact Takes.nil | exact Take.here | apply Takes.cons | apply Take.there))) ?_
        rintro ⟨i, acc, Aa, ca⟩ ⟨hi, hic, hal, hj⟩
        try dsimp only at hi hic hal hj ⊢
        refine WC.seq ?_
        refine WC.seq ?_
        refine WC.region ?_
        refine wlv (op_move (by decide) rfl) rfl ?_
        refine wlv (op_fieldAddr fo25_4 (by decide) rfl) rfl ?_
        refine wlv (op_load1 fl3 (by decide) rfl (by repeat (first | exact List.Mem.head _ | apply List.Mem.tail)) rfl) rfl ?_
        refine wlv (op_lss (by decide) rfl rfl) rfl ?_
        refine WL.nil ?_
        refine WX.regs (L' := [(0, _), (2, _), (5, _), (6, _), (42, _)]) (by repeat (first | exact RS.nil | refine RS.cons rfl ?_)) ?_
        refine WX.next ?_
        refine WC.cond rfl (fun h4 => ?_) (fun h4 => ?_)
        ·
          refine WC.skip ?_
          refine WX.next ?_
          refine WC.seq ?_
          refine WC.block ?_
          refine WC.seq ?_
          refine WC.seq ?_
          refine WC.region ?_
          refine wlv (op_move (by decide) rfl) rfl ?_
          refine wlv (op_move (by decide) rfl) rfl ?_
          refine wlv (op_len Try.underlying52 (by decide) rfl) rfl ?_
          refine wlv (op_geq (by decide) rfl rfl) rfl ?_
          refine WL.nil ?_
          refine WX.regs (L' := [(0, _), (2, _), (5, _), (6, _), (48, _)]) (by repeat (first | exact RS.nil | refine RS.cons rfl ?_)) ?_
          refine WX.next ?_
          refine WC.cond rfl (fun h5 => ?_) (fun h5 => ?_)
          ·
            refine WC.seq ?_
            refine WC.region ?_
            refine wlv (op_build (cs := [.int .i64 0, .int .i64 0, .int .i64 0, .slice none 0 0]) (pv := []) (by decide) rfl (by kernel_rfl)) rfl ?_
            refine wl (op_storeAll sz50 rfl rfl (by repeat (first | exact Take.here | apply Take.there)) (by first | rfl | (simp [Value.cells]; done) | (simp [Value.cells]; omega)) (by first | rfl | exact wvs_one _ | exact bvs_one _) (by first | rfl | (simp [Value.cells]; done) | (simp [Value.cells]; omega))) rfl ?_
            change WL _ _ _ _ _ _ _
            refine wlv (op_assign (by decide) rfl) rfl ?_
            refine wlv (op_assign (by decide) rfl) rfl ?_
            refine WL.nil ?_
            refine WX.nilown 5 1 ?_
            refine WX.regs (L' := [(2, _), (3, _), (4, _)]) (by repeat (first | exact RS.nil | refine RS.cons rfl ?_)) ?_
            refine WX.next ?_
            refine WC.ret ?_
            refine WX.then_ret ?_
            refine WX.in_ret ?_
            refine WX.then_ret ?_
            refine WX.then_ret ?_
            refine WX.in_ret ?_
            refine WX.then_ret ?_
            obtain ⟨r, hrr⟩ : ∃ r, pf.c.toNat - i = r + 1 := ⟨pf.c.toNat - i - 1, by omega⟩
            exact Fin.ret3 (by first | exact .inl rfl | exact .inr rfl) ((none, 0, rc0, 0, 23)) (by rw [hj, hrr, jf_short (by rw [List.length_map]; omega)]) Try.results34 rfl (.cellN rfl ag50 (by repeat (first | exact List.Mem.head _ | apply List.Mem.tail)) (by first | rfl | (simp [Value.cells]; done) | (simp [Value.cells]; omega))) (.tmp rfl) (.tmp rfl) (by repeat (first | exact Takes.nil | exact Take.here | apply Takes.cons | apply Take.there)) (by simp)
          ·
            have hlen : ¬ (rs.map Bs.s).length ≤ i := by rw [List.length_map]; omega
            obtain ⟨ri, hri⟩ : ∃ ri, rs[i]? = some ri := ⟨rs[i]'(by omega), List.getElem?_eq_getElem _⟩
            have hmi : ri ∈ rs := List.mem_of_getElem? hri
            refine WC.skip ?_
            refine WX.next ?_
            refine WC.seq ?_
            refine WC.region ?_
            refine WL.dup (c := rowsC false rs) (d := rd (.slice ri.A ri.s.length ri.c) 1 ri.s.length (bvs ri.s)) (by repeat (first | exact List.Mem.head _ | apply List.Mem.tail)) (by rfl) (by simp) (rowsC_get (r := ri) hmi) ?_
            refine wlv (op_move (by decide) rfl) rfl ?_
            refine wlv (op_move (by decide) rfl) rfl ?_
            refine wlv (op_index Try.underlying52 sz22 (by decide) rfl rfl (by omega) (by omega) (by decide) (by first | (apply Src.rd; (repeat (first | exact List.Mem.head _ | apply List.Mem.tail)); done) | (apply Src.own; (repeat (first | exact List.Mem.head _ | apply List.Mem.tail)); done) | (apply Src.rx; (repeat (first | exact List.Mem.head _ | apply List.Mem.tail)); done))) rfl ?_
            refine wlv (op_loadS fl22 (by decide) rfl (by first | (apply Src.rd; (repeat (first | exact List.Mem.head _ | apply List.Mem.tail)); done) | (apply Src.own; (repeat (first | exact List.Mem.head _ | apply List.Mem.tail)); done) | (apply Src.rx; (repeat (first | exact List.Mem.head _ | apply List.Mem.tail)); done)) (rows_at' hri (by omega))) rfl ?_
            refine wlx (op_call (f21_spec ri.A ri.s.length ri.c ri.s rfl) ca21 (by decide) rfl (by apply Give.mk; (repeat (first | exact Takes.nil | exact Take.here | apply Takes.cons | apply Take.there)); repeat (first | exact Reads.nil | (apply Reads.rd; (focus (repeat (first | exact List.Mem.head _ | apply List.Mem.tail)); done)) | (apply Reads.own; (focus (repeat (first | exact List.Mem.head _ | apply List.Mem.tail)); done)) | (apply Reads.rx; (focus (repeat (first | exact List.Mem.head _ | apply List.Mem.tail)); done)) | (apply Reads.rows (e := false); (focus (repeat (first | exact List.Mem.head _ | apply List.Mem.tail)); done)) | (apply Reads.rows (e := true); (focus (repeat (first | exact List.Mem.head _ | apply List.Mem.tail)); done))))) rfl ?_
            rintro ⟨Ap, cp, mp, pp, ep⟩ ⟨hdp, hmp⟩
            dsimp only at hdp hmp
            subst hmp
            dsimp only
            refine wlv (op_move (by decide) rfl) rfl ?_
            refine wlv (op_extract (by decide) rfl rfl) rfl ?_
            refine wlv (op_extract (by decide) rfl rfl) rfl ?_
            refine wl1 (op_alloc ti25 (by decide)) rfl fun b3 => ?_
            refine wl (op_storeAll sz25 rfl rfl (by repeat (first | exact Take.here | apply Take.there)) (by first | rfl | (simp [Value.cells]; done) | (simp [Value.cells]; omega)) (by first | rfl | exact wvs_one _ | exact bvs_one _) (by first | rfl | (simp [Value.cells]; done) | (simp [Value.cells]; omega))) rfl ?_
            change WL _ _ _ _ _ _ _
            refine wlv (op_assign (by decide) rfl) rfl ?_
            refine WL.nil ?_
            refine WX.regs (L' := [(0, _), (2, _), (5, _), (6, _), (7, _), (8, _)]) (by repeat (first | exact RS.nil | refine RS.cons rfl ?_)) ?_
            refine WX.next ?_
            refine WC.seq ?_
            refine WC.block ?_
            refine WC.seq ?_
            refine WC.region ?_
            refine wlv (op_move (by decide) rfl) rfl ?_
            refine wlv (op_neq (by decide) rfl rfl) rfl ?_
            refine wlv (op_assign (by decide) rfl) rfl ?_
            refine WL.nil ?_
            refine WX.regs (L' := [(0, _), (2, _), (5, _), (6, _), (7, _), (8, _), (58, _)]) (by repeat (first | exact RS.nil | refine RS.cons rfl ?_)) ?_
            refine WX.next ?_
            refine WC.cond rfl (fun h6 => ?_) (fun h6 => ?_)
            ·
              refine WC.seq ?_
              refine WC.region ?_
              refine wlv (op_build (cs := [.int .i64 0, .int .i64 0, .int .i64 0, .slice none 0 0]) (pv := []) (by decide) rfl (by kernel_rfl)) rfl ?_
              refine wlv (op_move (by decide) rfl) rfl ?_
              refine wl (op_storeAll sz50 rfl rfl (by repeat (first | exact Take.here | apply Take.there)) (by first | rfl | (simp [Value.cells]; done) | (simp [Value.cells]; omega)) (by first | rfl | exact wvs_one _ | exact bvs_one _) (by first | rfl | (simp [Value.cells]; done) | (simp [Value.cells]; omega))) rfl ?_
              change WL _ _ _ _ _ _ _
              refine wlv (op_assign (by decide) rfl) rfl ?_
              refine wlv (op_assign (by decide) rfl) rfl ?_
              refine WL.nil ?_
              refine WX.nilown 5 1 ?_
              refine WX.regs (L' := [(2, _), (3, _), (4, _)]) (by repeat (first | exact RS.nil | refine RS.cons rfl ?_)) ?_
              refine WX.next ?_
              refine WC.ret ?_
              refine WX.in_ret ?_
              refine WX.then_ret ?_
              refine WX.in_ret ?_
              refine WX.then_ret ?_
              refine WX.then_ret ?_
              refine WX.in_ret ?_
              refine WX.then_ret ?_
              obtain ⟨r, hrr⟩ : ∃ r, pf.c.toNat - i = r + 1 := ⟨pf.c.toNat - i - 1, by omega⟩
              exact Fin.ret3 (by first | exact .inl rfl | exact .inr rfl) ((none, 0, rc0, 0, ep)) (by rw [hj, hrr, jf_err hlen (ss_at hri) hdp (by omega)]) Try.results34 rfl (.cellN rfl ag50 (by repeat (first | exact List.Mem.head _ | apply List.Mem.tail)) (by first | rfl | (simp [Value.cells]; done) | (simp [Value.cells]; omega))) (.tmp rfl) (.tmp rfl) (by repeat (first | exact Takes.nil | exact Take.here | apply Takes.cons | apply Take.there)) (by simp)
            ·
              obtain rfl : ep = 0 := by omega
              obtain ⟨hchkp, hlp⟩ := dec_fine hdp
              unfold Pt.chk at hchkp
              obtain ⟨_, _, _, _, _, hbp⟩ := chk_ok hchkp
              refine WC.seq ?_
              refine WC.drawnH mo 999 ?_
              refine WA.take (i := 0) rfl (by kernel_rfl) (fun _ _ _ h => h) rfl (op_fieldAddr fo25_3 (by decide) rfl) (by repeat (first | exact Takes.nil | exact Take.here | apply Takes.cons | apply Take.there)) ?_
              refine WA.take (i := 1) rfl (by kernel_rfl) (fun _ _ _ h => h) rfl (op_load1 fl3 (by decide) rfl (by repeat (first | exact List.Mem.head _ | apply List.Mem.tail)) rfl) (by repeat (first | exact Takes.nil | exact Take.here | apply Takes.cons | apply Take.there)) ?_
              refine WA.take (i := 2) rfl (by kernel_rfl) (fun _ _ _ h => h) rfl (op_move (by decide) rfl) (by repeat (first | exact Takes.nil | exact Take.here | apply Takes.cons | apply Take.there)) ?_
              refine WA.take (i := 3) rfl (by kernel_rfl) (fun _ _ _ h => h) rfl (op_neq (by decide) rfl rfl) (by repeat (first | exact Takes.nil | exact Take.here | apply Takes.cons | apply Take.there)) ?_
              refine WA.take (i := 4) rfl (by kernel_rfl) (fun _ _ _ h => h) rfl (op_move (by decide) rfl) (by repeat (first | exact Takes.nil | exact Take.here | apply Takes.cons | apply Take.there)) ?_
              refine WA.split (t := 68) rfl (fun g68 => ?_) (fun g68 => ?_)
              ·
                refine WA.skipG (i := 5) rfl (by kernel_rfl) (fun _ _ _ h => h) rfl rfl rfl (by first | exact .inl rfl | exact .inr rfl) rfl (by decide) (by repeat (first | exact Takes.nil | exact Take.here | apply Takes.cons | apply Take.there)) ?_
                refine WA.skipG (i := 6) rfl (by kernel_rfl) (fun _ _ _ h => h) rfl rfl rfl (by first | exact .inl rfl | exact .inr rfl) rfl (by decide) (by repeat (first | exact Takes.nil | exact Take.here | apply Takes.cons | apply Take.there)) ?_
                refine WA.skipG (i := 7) rfl (by kernel_rfl) (fun _ _ _ h => h) rfl rfl rfl (by first | exact .inl rfl | exact .inr rfl) rfl (by decide) (by repeat (first | exact Takes.nil | exact Take.here | apply Takes.cons | apply Take.there)) ?_
                refine WA.skipG (i := 8) rfl (by kernel_rfl) (fun _ _ _ h => h) rfl rfl rfl (by first | exact .inl rfl | exact .inr rfl) rfl (by decide) (by repeat (first | exact Takes.nil | exact Take.here | apply Takes.cons | apply Take.there)) ?_
                refine WA.skipG (i := 9) rfl (by kernel_rfl) (fun _ _ _ h => h) rfl rfl rfl (by first | exact .inl rfl | exact .inr rfl) rfl (by decide) (by repeat (first | exact Takes.nil | exact Take.here | apply Takes.cons | apply Take.there)) ?_
                refine WA.take (i := 10) rfl (by kernel_rfl) (fun _ _ _ h => h) rfl (op_pickT (by decide) rfl rfl) (by repeat (first | exact Takes.nil | exact Take.here | apply Takes.cons | apply Take.there)) ?_
                refine WA.take (i := 11) rfl (by kernel_rfl) (fun _ _ _ h => h) rfl (op_move (by decide) rfl) (by repeat (first | exact Takes.nil | exact Take.here | apply Takes.cons | apply Take.there)) ?_
                refine WA.skipG (i := 12) rfl (by kernel_rfl) (fun _ _ _ h => h) rfl rfl rfl (by first | exact .inl rfl | exact .inr rfl) rfl (by decide) (by repeat (first | exact Takes.nil | exact Take.here | apply Takes.cons | apply Take.there)) ?_
                refine WA.skipG (i := 13) rfl (by kernel_rfl) (fun _ _ _ h => h) rfl rfl rfl (by first | exact .inl rfl | exact .inr rfl) rfl (by decide) (by repeat (first | exact Takes.nil | exact Take.here | apply Takes.cons | apply Take.there)) ?_
                refine WA.skipG (i := 14) rfl (by kernel_rfl) (fun _ _ _ h => h) rfl rfl rfl (by first | exact .inl rfl | exact .inr rfl) rfl (by decide) (by repeat (first | exact Takes.nil | exact Take.here | apply Takes.cons | apply Take.there)) ?_
                refine WA.skipG (i := 15) rfl (by kernel_rfl) (fun _ _ _ h => h) rfl rfl rfl (by first | exact .inl rfl | exact .inr rfl) rfl (by decide) (by repeat (first | exact Takes.nil | exact Take.here | apply Takes.cons | apply Take.there)) ?_
                refine WA.skipG (i := 16) rfl (by kernel_rfl) (fun _ _ _ h => h) rfl rfl rfl (by first | exact .inl rfl | exact .inr rfl) rfl (by decide) (by repeat (first | exact Takes.nil | exact Take.here | apply Takes.cons | apply Take.there)) ?_
                refine WA.take (i := 17) rfl (by kernel_rfl) (fun _ _ _ h => h) rfl (op_pickT (by decide) rfl rfl) (by repeat (first | exact Takes.nil | exact Take.here | apply Takes.cons | apply Take.there)) ?_
                refine WA.take (i := 18) rfl (by kernel_rfl) (fun _ _ _ h => h) rfl (op_assign (by decide) rfl) (by repeat (first | exact Takes.nil | exact Take.here | apply Takes.cons | apply Take.there)) ?_
                refine WA.done (by kernel_rfl) ?_
                refine WX.regs (L' := [(0, _), (2, _), (5, _), (6, _), (7, _), (63, _)]) (by repeat (first | exact RS.nil | refine RS.cons rfl ?_)) ?_
                refine WX.next ?_
                refine WC.condT rfl ?_
                refine WC.seq ?_
                refine WC.region ?_
                refine wlv (op_build (cs := [.int .i64 0, .int .i64 0, .int .i64 0, .slice none 0 0]) (pv := []) (by decide) rfl (by kernel_rfl)) rfl ?_
                refine wl (op_storeAll sz50 rfl rfl (by repeat (first | exact Take.here | apply Take.there)) (by first | rfl | (simp [Value.cells]; done) | (simp [Value.cells]; omega)) (by first | rfl | exact wvs_one _ | exact bvs_one _) (by first | rfl | (simp [Value.cells]; done) | (simp [Value.cells]; omega))) rfl ?_
                change WL _ _ _ _ _ _ _
                refine wlv (op_assign (by decide) rfl) rfl ?_
                refine wlv (op_assign (by decide) rfl) rfl ?_
                refine WL.nil ?_
                refine WX.nilown 5 1 ?_
                refine WX.regs (L' := [(2, _), (3, _), (4, _)]) (by repeat (first | exact RS.nil | refine RS.cons rfl ?_)) ?_
                refine WX.next ?_
                refine WC.ret ?_
                refine WX.in_ret ?_
                refine WX.then_ret ?_
                refine WX.in_ret ?_
                refine WX.then_ret ?_
                refine WX.then_ret ?_
                refine WX.in_ret ?_
                refine WX.then_ret ?_
                obtain ⟨r, hrr⟩ : ∃ r, pf.c.toNat - i = r + 1 := ⟨pf.c.toNat - i - 1, by omega⟩
                exact Fin.ret3 (by first | exact .inl rfl | exact .inr rfl) ((none, 0, rc0, 0, 30)) (by rw [hj, hrr, jf_bad hlen (ss_at hri) hdp (by unfold jbad; omega)]) Try.results34 rfl (.cellN rfl ag50 (by repeat (first | exact List.Mem.head _ | apply List.Mem.tail)) (by first | rfl | (simp [Value.cells]; done) | (simp [Value.cells]; omega))) (.tmp rfl) (.tmp rfl) (by repeat (first | exact Takes.nil | exact Take.here | apply Takes.cons | apply Take.there)) (by simp)
              ·
                refine WA.takeG (i := 5) rfl (by kernel_rfl) (fun _ _ _ h => h) rfl rfl rfl (op_loadAll ag25 (by decide) rfl (by repeat (first | exact List.Mem.head _ | apply List.Mem.tail)) (by first | rfl | (simp [Value.cells]; done) | (simp [Value.cells]; omega))) (by repeat (first | exact Takes.nil | exact Take.here | apply Takes.cons | apply Take.there)) ?_
                refine WA.takeG (i := 7) rfl (by kernel_rfl) (fun _ _ _ h => h) rfl rfl rfl (op_loadAll ag25 (by decide) rfl (by repeat (first | exact List.Mem.head _ | apply List.Mem.tail)) (by first | rfl | (simp [Value.cells]; done) | (simp [Value.cells]; omega))) (by repeat (first | exact Takes.nil | exact Take.here | apply Takes.cons | apply Take.there)) ?_
                refine WA.stepGx (i := 6) (by kernel_rfl) rfl rfl rfl rfl (op_call (f48_spec _ _ _ _ _ _) ca48 (by decide) rfl (by apply Give.mk; (repeat (first | exact Takes.nil | exact Take.here | apply Takes.cons | apply Take.there)); repeat (first | exact Reads.nil | (apply Reads.rd; (focus (repeat (first | exact List.Mem.head _ | apply List.Mem.tail)); done)) | (apply Reads.own; (focus (repeat (first | exact List.Mem.head _ | apply List.Mem.tail)); done)) | (apply Reads.rx; (focus (repeat (first | exact List.Mem.head _ | apply List.Mem.tail)); done)) | (apply Reads.rows (e := false); (focus (repeat (first | exact List.Mem.head _ | apply List.Mem.tail)); done)) | (apply Reads.rows (e := true); (focus (repeat (first | exact List.Mem.head _ | apply List.Mem.tail)); done))))) (fun _ r => (by repeat (first | exact Takes.nil | exact Take.here | apply Takes.cons | apply Take.there))) ?_
                rintro _ _
                refine WA.stepGx (i := 8) (by kernel_rfl) rfl rfl rfl rfl (op_call (f48_spec _ _ _ _ _ _) ca48 (by decide) rfl (by apply Give.mk; (repeat (first | exact Takes.nil | exact Take.here | apply Takes.cons | apply Take.there)); repeat (first | exact Reads.nil | (apply Reads.rd; (focus (repeat (first | exact List.Mem.head _ | apply List.Mem.tail)); done)) | (apply Reads.own; (focus (repeat (first | exact List.Mem.head _ | apply List.Mem.tail)); done)) | (apply Reads.rx; (focus (repeat (first | exact List.Mem.head _ | apply List.Mem.tail)); done)) | (apply Reads.rows (e := false); (focus (repeat (first | exact List.Mem.head _ | apply List.Mem.tail)); done)) | (apply Reads.rows (e := true); (focus (repeat (first | exact List.Mem.head _ | apply List.Mem.tail)); done))))) (fun _ r => (by repeat (first | exact Takes.nil | exact Take.here | apply Takes.cons | apply Take.there))) ?_
                rintro _ _
                refine WA.takeG (i := 9) rfl (by kernel_rfl) (fun _ _ _ h => h) rfl rfl rfl (op_neqkey (by decide) rfl rfl) (by repeat (first | exact Takes.nil | exact Take.here | apply Takes.cons | apply Take.there)) ?_
                refine WA.take (i := 10) rfl (by kernel_rfl) (fun _ _ _ h => h) rfl (op_pickF (by decide) rfl rfl) (by repeat (first | exact Takes.nil | exact Take.here | apply Takes.cons | apply Take.there)) ?_
                refine WA.take (i := 11) rfl (by kernel_rfl) (fun _ _ _ h => h) rfl (op_move (by decide) rfl) (by repeat (first | exact Takes.nil | exact Take.here | apply Takes.cons | apply Take.there)) ?_
                refine WA.split (t := 75) rfl (fun g75 => ?_) (fun g75 => ?_)
                ·
                  refine WA.skipG (i := 12) rfl (by kernel_rfl) (fun _ _ _ h => h) rfl rfl rfl (by first | exact .inl rfl | exact .inr rfl) rfl (by decide) (by repeat (first | exact Takes.nil | exact Take.here | apply Takes.cons | apply Take.there)) ?_
                  refine WA.skipG (i := 13) rfl (by kernel_rfl) (fun _ _ _ h => h) rfl rfl rfl (by first | exact .inl rfl | exact .inr rfl) rfl (by decide) (by repeat (first | exact Takes.nil | exact Take.here | apply Takes.cons | apply Take.there)) ?_
                  refine WA.skipG (i := 14) rfl (by kernel_rfl) (fun _ _ _ h => h) rfl rfl rfl (by first | exact .inl rfl | exact .inr rfl) rfl (by decide) (by repeat (first | exact Takes.nil | exact Take.here | apply Takes.cons | apply Take.there)) ?_
                  refine WA.skipG (i := 15) rfl (by kernel_rfl) (fun _ _ _ h => h) rfl rfl rfl (by first | exact .inl rfl | exact .inr rfl) rfl (by decide) (by repeat (first | exact Takes.nil | exact Take.here | apply Takes.cons | apply Take.there)) ?_
                  refine WA.skipG (i := 16) rfl (by kernel_rfl) (fun _ _ _ h => h) rfl rfl rfl (by first | exact .inl rfl | exact .inr rfl) rfl (by decide) (by repeat (first | exact Takes.nil | exact Take.here | apply Takes.cons | apply Take.there)) ?_
                  refine WA.take (i := 17) rfl (by kernel_rfl) (fun _ _ _ h => h) rfl (op_pickT (by decide) rfl rfl) (by repeat (first | exact Takes.nil | exact Take.here | apply Takes.cons | apply Take.there)) ?_
                  refine WA.take (i := 18) rfl (by kernel_rfl) (fun _ _ _ h => h) rfl (op_assign (by decide) rfl) (by repeat (first | exact Takes.nil | exact Take.here | apply Takes.cons | apply Take.there)) ?_
                  refine WA.done (by kernel_rfl) ?_
                  refine WX.regs (L' := [(0, _), (2, _), (5, _), (6, _), (7, _), (63, _)]) (by repeat (first | exact RS.nil | refine RS.cons rfl ?_)) ?_
                  refine WX.next ?_
                  refine WC.condT rfl ?_
                  refine WC.seq ?_
                  refine WC.region ?_
                  refine wlv (op_build (cs := [.int .i64 0, .int .i64 0, .int .i64 0, .slice none 0 0]) (pv := []) (by decide) rfl (by kernel_rfl)) rfl ?_
                  refine wl (op_storeAll sz50 rfl rfl (by repeat (first | exact Take.here | apply Take.there)) (by first | rfl | (simp [Value.cells]; done) | (simp [Value.cells]; omega)) (by first | rfl | exact wvs_one _ | exact bvs_one _) (by first | rfl | (simp [Value.cells]; done) | (simp [Value.cells]; omega))) rfl ?_
                  change WL _ _ _ _ _ _ _
                  refine wlv (op_assign (by decide) rfl) rfl ?_
                  refine wlv (op_assign (by decide) rfl) rfl ?_
                  refine WL.nil ?_
                  refine WX.nilown 5 1 ?_
                  refine WX.regs (L' := [(2, _), (3, _), (4, _)]) (by repeat (first | exact RS.nil | refine RS.cons rfl ?_)) ?_
                  refine WX.next ?_
                  refine WC.ret ?_
                  refine WX.in_ret ?_
                  refine WX.then_ret ?_
                  refine WX.in_ret ?_
                  refine WX.then_ret ?_
                  refine WX.then_ret ?_
                  refine WX.in_ret ?_
                  refine WX.then_ret ?_
                  obtain ⟨r, hrr⟩ : ∃ r, pf.c.toNat - i = r + 1 := ⟨pf.c.toNat - i - 1, by omega⟩
                  exact Fin.ret3 (by first | exact .inl rfl | exact .inr rfl) ((none, 0, rc0, 0, 30)) (by rw [hj, hrr, jf_bad hlen (ss_at hri) hdp (by unfold jbad; omega)]) Try.results34 rfl (.cellN rfl ag50 (by repeat (first | exact List.Mem.head _ | apply List.Mem.tail)) (by first | rfl | (simp [Value.cells]; done) | (simp [Value.cells]; omega))) (.tmp rfl) (.tmp rfl) (by repeat (first | exact Takes.nil | exact Take.here | apply Takes.cons | apply Take.there)) (by simp)
                ·
                  refine WA.takeG (i := 12) rfl (by kernel_rfl) (fun _ _ _ h => h) rfl rfl rfl (op_fieldAddr fo25_4 (by decide) rfl) (by repeat (first | exact Takes.nil | exact Take.here | apply Takes.cons | apply Take.there)) ?_
                  refine WA.takeG (i := 13) rfl (by kernel_rfl) (fun _ _ _ h => h) rfl rfl rfl (op_load1 fl3 (by decide) rfl (by repeat (first | exact List.Mem.head _ | apply List.Mem.tail)) rfl) (by repeat (first | exact Takes.nil | exact Take.here | apply Takes.cons | apply Take.there)) ?_
                  refine WA.takeG (i := 14) rfl (by kernel_rfl) (fun _ _ _ h => h) rfl rfl rfl (op_fieldAddr fo25_4 (by decide) rfl) (by repeat (first | exact Takes.nil | exact Take.here | apply Takes.cons | apply Take.there)) ?_
                  refine WA.takeG (i := 15) rfl (by kernel_rfl) (fun _ _ _ h => h) rfl rfl rfl (op_load1 fl3 (by decide) rfl (by repeat (first | exact List.Mem.head _ | apply List.Mem.tail)) rfl) (by repeat (first | exact Takes.nil | exact Take.here | apply Takes.cons | apply Take.there)) ?_
                  refine WA.takeG (i := 16) rfl (by kernel_rfl) (fun _ _ _ h => h) rfl rfl rfl (op_neq (by decide) rfl rfl) (by repeat (first | exact Takes.nil | exact Take.here | apply Takes.cons | apply Take.there)) ?_
                  refine WA.take (i := 17) rfl (by kernel_rfl) (fun _ _ _ h => h) rfl (op_pickF (by decide) rfl rfl) (by repeat (first | exact Takes.nil | exact Take.here | apply Takes.cons | apply Take.there)) ?_
                  refine WA.take (i := 18) rfl (by kernel_rfl) (fun _ _ _ h => h) rfl (op_assign (by decide) rfl) (by repeat (first | exact Takes.nil | exact Take.here | apply Takes.cons | apply Take.there)) ?_
                  refine WA.done (by kernel_rfl) ?_
                  refine WX.regs (L' := [(0, _), (2, _), (5, _), (6, _), (7, _), (63, _)]) (by repeat (first | exact RS.nil | refine RS.cons rfl ?_)) ?_
                  refine WX.next ?_
                  refine WC.cond rfl (fun h7 => ?_) (fun h7 => ?_)
                  ·
                    refine WC.seq ?_
                    refine WC.region ?_
                    refine wlv (op_build (cs := [.int .i64 0, .int .i64 0, .int .i64 0, .slice none 0 0]) (pv := []) (by decide) rfl (by kernel_rfl)) rfl ?_
                    refine wl (op_storeAll sz50 rfl rfl (by repeat (first | exact Take.here | apply Take.there)) (by first | rfl | (simp [Value.cells]; done) | (simp [Value.cells]; omega)) (by first | rfl | exact wvs_one _ | exact bvs_one _) (by first | rfl | (simp [Value.cells]; done) | (simp [Value.cells]; omega))) rfl ?_
                    change WL _ _ _ _ _ _ _
                    refine wlv (op_assign (by decide) rfl) rfl ?_
                    refine wlv (op_assign (by decide) rfl) rfl ?_
                    refine WL.nil ?_
                    refine WX.nilown 5 1 ?_
                    refine WX.regs (L' := [(2, _), (3, _), (4, _)]) (by repeat (first | exact RS.nil | refine RS.cons rfl ?_)) ?_
                    refine WX.next ?_
                    refine WC.ret ?_
                    refine WX.in_ret ?_
                    refine WX.then_ret ?_
                    refine WX.in_ret ?_
                    refine WX.then_ret ?_
                    refine WX.then_ret ?_
                    refine WX.in_ret ?_
                    refine WX.then_ret ?_
                    obtain ⟨r, hrr⟩ : ∃ r, pf.c.toNat - i = r + 1 := ⟨pf.c.toNat - i - 1, by omega⟩
                    exact Fin.ret3 (by first | exact .inl rfl | exact .inr rfl) ((none, 0, rc0, 0, 30)) (by rw [hj, hrr, jf_bad hlen (ss_at hri) hdp (by unfold jbad; omega)]) Try.results34 rfl (.cellN rfl ag50 (by repeat (first | exact List.Mem.head _ | apply List.Mem.tail)) (by first | rfl | (simp [Value.cells]; done) | (simp [Value.cells]; omega))) (.tmp rfl) (.tmp rfl) (by repeat (first | exact Takes.nil | exact Take.here | apply Takes.cons | apply Take.there)) (by simp)
                  ·
                    refine WC.skip ?_
                    refine WX.in_normal ?_
                    refine WX.next ?_
                    refine WC.region ?_
                    refine wlv (op_fieldAddr fo50_3 (by decide) rfl) rfl ?_
                    refine wlv (op_load1 fl22 (by decide) rfl (by repeat (first | exact List.Mem.head _ | apply List.Mem.tail)) rfl) rfl ?_
                    refine wlv (op_fieldAddr fo25_5 (by decide) rfl) rfl ?_
                    refine wlv (op_load1 fl22 (by decide) rfl (by repeat (first | exact List.Mem.head _ | apply List.Mem.tail)) rfl) rfl ?_
                    refine wl2 (op_append Try.underlying22 ti5 rfl (by decide) (by decide) rfl rfl (by repeat (first | exact Take.here | apply Take.there)) (by first | (apply Src.rd; (repeat (first | exact List.Mem.head _ | apply List.Mem.tail)); done) | (apply Src.own; (repeat (first | exact List.Mem.head _ | apply List.Mem.tail)); done) | (apply Src.rx; (repeat (first | exact List.Mem.head _ | apply List.Mem.tail)); done)) (bvs_one _) (by omega) (by omega)) rfl fun A1 c1 => ?_
                    refine wlv (op_fieldAddr fo50_3 (by decide) rfl) rfl ?_
                    refine wl (op_store sz22 rfl rfl (by repeat (first | exact Take.here | apply Take.there)) (by first | rfl | (simp [Value.cells]; done) | (simp [Value.cells]; omega)) (by first | rfl | exact wvs_one _ | exact bvs_one _) (by first | exact Nat.le_of_ble_eq_true rfl | (simp; omega))) rfl ?_
                    change WL _ _ _ _ _ _ _
                    refine WL.nil ?_
                    refine WX.blkEq (b := b1) [.int .i64 pf.k, .int .i64 pf.g, .int .i64 pf.n, .slice A1 (acc.length + pp.b.length) c1] (by repeat (first | exact Take.here | apply Take.there)) (by rfl) ?_
                    refine WX.ownEq (v := .slice A1 (acc.length + pp.b.length) c1) _ (by repeat (first | exact Take.here | apply Take.there)) (bvs_append acc pp.b).symm ?_
                    rw [← List.length_append]
                    refine WX.regs (L' := [(0, _), (2, _), (5, _), (6, _)]) (by repeat (first | exact RS.nil | refine RS.cons rfl ?_)) ?_
                    refine WX.in_normal ?_
                    refine WX.next ?_
                    refine WC.region ?_
                    refine wlv (op_move (by decide) rfl) rfl ?_
                    refine wlv (op_add (by decide) rfl rfl (by omega)) rfl ?_
                    refine wlv (op_assign (by decide) rfl) rfl ?_
                    refine WL.nil ?_
                    refine WX.regs (L' := [(0, _), (2, _), (5, _), (6, _)]) (by repeat (first | exact RS.nil | refine RS.cons rfl ?_)) ?_
                    have hsi := ss_at hri
                    obtain ⟨r, hrr⟩ : ∃ r, pf.c.toNat - i = r + 1 := ⟨pf.c.toNat - i - 1, by omega⟩
                    have hrr2 : pf.c.toNat - (i + 1) = r := by omega
                    have hnb : ¬ jbad pf pp i := by unfold jbad; omega
                    refine WX.meet ((i + 1, acc ++ pp.b, A1, c1)) ⟨⟨by simp only []; omega, by simp only []; omega, by simp only [List.length_append]; omega, by rw [hj, hrr]; exact (jf_next hlen hsi hdp hnb).trans (by rw [hrr2])⟩, by simp only []; omega⟩ (fun a w hs => hs.sub (by repeat (first | exact RS.nil | refine RS.cons (by first | rfl | exact congrArg (fun z : Int => some (Value.int .i64 z)) (by omega)) ?_)) (by repeat (first | exact Takes.nil | exact Take.here | apply Takes.cons | apply Take.there)))
        ·
          refine WC.exit ?_
          refine WX.then_exit ?_
          refine WX.then_exit ?_
          refine WX.in_hit ?_
          refine WX.next ?_
          refine WC.seq ?_
          refine WC.drawn (Hs := [blk b2 (pcells pf.k pf.g pf.n pf.i pf.c (.slice Af pf.b.length cf)) 25]) mo 999 ?_
          refine WA.take (i := 1) rfl (by kernel_rfl) (fun _ _ _ h => h) rfl (op_fieldAddr fo25_4 (by decide) rfl) (by repeat (first | exact Takes.nil | exact Take.here | apply Takes.cons | apply Take.there)) ?_
          refine WA.take (i := 2) rfl (by kernel_rfl) (fun _ _ _ h => h) rfl (op_load1 fl3 (by decide) rfl (by repeat (first | exact List.Mem.head _ | apply List.Mem.tail)) rfl) (by repeat (first | exact Takes.nil | exact Take.here | apply Takes.cons | apply Take.there)) ?_
          refine WA.stepv (i := 0) (by kernel_rfl) rfl rfl (op_loadAll ag50 (by decide) rfl (by repeat (first | exact List.Mem.head _ | apply List.Mem.tail)) (by first | rfl | (simp [Value.cells]; done) | (simp [Value.cells]; omega))) (fun _ => (by repeat (first | exact Takes.nil | exact Take.here | apply Takes.cons | apply Take.there))) ?_
          refine WA.stepo (i := 3) (by kernel_rfl) rfl rfl (op_storeAll sz50 rfl rfl (by repeat (first | exact Take.here | apply Take.there)) (by first | rfl | (simp [Value.cells]; done) | (simp [Value.cells]; omega)) (by first | rfl | exact wvs_one _ | exact bvs_one _) (by first | rfl | (simp [Value.cells]; done) | (simp [Value.cells]; omega))) (fun _ => (by repeat (first | exact Takes.nil | exact Take.here | apply Takes.cons | apply Take.there))) ?_
          refine WA.take (i := 4) rfl (by kernel_rfl) (fun _ _ _ h => h) rfl (op_assign (by decide) rfl) (by repeat (first | exact Takes.nil | exact Take.here | apply Takes.cons | apply Take.there)) ?_
          refine WA.take (i := 5) rfl (by kernel_rfl) (fun _ _ _ h => h) rfl (op_assign (by decide) rfl) (by repeat (first | exact Takes.nil | exact Take.here | apply Takes.cons | apply Take.there)) ?_
          refine WA.done (by kernel_rfl) ?_
          refine WX.regs (L' := [(2, _), (3, _), (4, _)]) (by repeat (first | exact RS.nil | refine RS.cons rfl ?_)) ?_
          refine WX.next ?_
          refine WC.ret ?_
          exact Fin.ret3 (by first | exact .inl rfl | exact .inr rfl) ((Aa, ca, ⟨pf.k, pf.g, pf.n, acc⟩, pf.c, 0)) (by rw [hj, show pf.c.toNat - i = 0 by omega]; rfl) Try.results34 rfl (.cellN rfl ag50 (by repeat (first | exact List.Mem.head _ | apply List.Mem.tail)) (by first | rfl | (simp [Value.cells]; done) | (simp [Value.cells]; omega))) (.tmp rfl) (.tmp rfl) (by repeat (first | exact Takes.nil | exact Take.here | apply Takes.cons | apply Take.there)) (by simp)
set_option maxHeartbeats 400000 in
set_option maxRecDepth 10000 in
theorem f36_spec (A : Option Addr) (M c : Nat) (rs : List Bs) (hM : rs.length = M) :
    Spec Try.prog 36 [.slice A M c] [] [rd (.slice A M c) 1 M (rs.map Bs.v), rowsC false rs] (R := Option Addr × Nat × Rcd × Int × Int)
      (fun q => q.2.2 = join (rs.map Bs.s))
      (fun q => .tuple #[.agg #[.int .i64 q.2.2.1.k, .int .i64 q.2.2.1.g, .int .i64 q.2.2.1.n, .slice q.1 q.2.2.1.p.length q.2.1], .int .i64 q.2.2.2.1, .int .i64 q.2.2.2.2])
      (fun q => [own (.slice q.1 q.2.2.1.p.length q.2.1) 5 1 q.2.2.1.p.length (bvs q.2.2.1.p)]) := by
  refine Spec.intro Try.func36 Try.ntmps36 rfl (by simp) (by simp) fun w0 => ?_
  refine WC.seq ?_
  refine WC.region ?_
  refine wl1 (op_alloc ti49 (by decide)) rfl fun b1 => ?_
  refine wlv (op_assign (by decide) rfl) rfl ?_
  refine wlv (op_assign (by decide) rfl) rfl ?_
  refine WL.nil ?_
  refine WX.regs (L' := [(0, _), (2, _)]) (by repeat (first | exact RS.nil | refine RS.cons rfl ?_)) ?_
  refine WX.next ?_
  refine WC.seq ?_
  refine WC.seq ?_
  refine WC.region ?_
  refine wlv (op_move (by decide) rfl) rfl ?_
  refine wlv (op_len Try.underlying52 (by decide) rfl) rfl ?_
  refine wlv (op_eql (by decide) rfl rfl) rfl ?_
  refine WL.nil ?_
  refine WX.regs (L' := [(0, _), (2, _), (13, _)]) (by repeat (first | exact RS.nil | refine RS.cons rfl ?_)) ?_
  refine WX.next ?_
  refine WC.cond rfl (fun h1 => ?_) (fun h1 => ?_)
  ·
    refine WC.seq ?_
    refine WC.region ?_
    refine wlv (op_build (cs := [.int .i64 0, .int .i64 0, .int .i64 0, .slice none 0 0]) (pv := []) (by decide) rfl (by kernel_rfl)) rfl ?_
    refine wl (op_storeAll sz49 rfl rfl (by repeat (first | exact Take.here | apply Take.there)) (by first | rfl | (simp [Value.cells]; done) | (simp [Value.cells]; omega)) (by first | rfl | exact wvs_one _ | exact bvs_one _) (by first | rfl | (simp [Value.cells]; done) | (simp [Value.cells]; omega))) rfl ?_
    change WL _ _ _ _ _ _ _
    refine wlv (op_assign (by decide) rfl) rfl ?_
    refine wlv (op_assign (by decide) rfl) rfl ?_
    refine WL.nil ?_
    refine WX.nilown 5 1 ?_
    refine WX.regs (L' := [(2, _), (3, _), (4, _)]) (by repeat (first | exact RS.nil | refine RS.cons rfl ?_)) ?_
    refine WX.next ?_
    refine WC.ret ?_
    refine WX.then_ret ?_
    exact Fin.ret3 (by first | exact .inl rfl | exact .inr rfl) ((none, 0, rc0, 0, 4)) (Eq.symm (by unfold join; rw [if_pos (by rw [List.length_map]; omega)])) Try.results36 rfl (.cellN rfl ag49 (by repeat (first | exact List.Mem.head _ | apply List.Mem.tail)) (by first | rfl | (simp [Value.cells]; done) | (simp [Value.cells]; omega))) (.tmp rfl) (.tmp rfl) (by repeat (first | exact Takes.nil | exact Take.here | apply Takes.cons | apply Take.there)) (by simp)
  ·
    have hM1 : 0 < M := by omega
    have h0 : ¬ (rs.map Bs.s).length = 0 := by rw [List.length_map]; omega
    obtain ⟨r0, hr0⟩ : ∃ r0, rs[0]? = some r0 := ⟨rs[0]'(by omega), List.getElem?_eq_getElem _⟩
    have hm0 : r0 ∈ rs := List.mem_of_getElem? hr0
    refine WC.skip ?_
    refine WX.next ?_
    refine WC.seq ?_
    refine WC.region ?_
    refine WL.dup (c := rowsC false rs) (d := rd (.slice r0.A r0.s.length r0.c) 1 r0.s.length (bvs r0.s)) (by repeat (first | exact List.Mem.head _ | apply List.Mem.tail)) (by rfl) (by simp) (rowsC_get (r := r0) hm0) ?_
    refine wlv (op_move (by decide) rfl) rfl ?_
    refine wlv (op_index Try.underlying52 sz22 (by decide) rfl rfl (by omega) (by omega) (by decide) (Src.rd (by repeat (first | exact List.Mem.head _ | apply List.Mem.tail)))) rfl ?_
    refine wlv (op_loadS fl22 (by decide) rfl (Src.rd (by repeat (first | exact List.Mem.head _ | apply List.Mem.tail))) (rows_at hr0)) rfl ?_
    refine wlx (op_call (f25_spec r0.A r0.s.length r0.c r0.s rfl) ca25 (by decide) rfl (by apply Give.mk; (repeat (first | exact Takes.nil | exact Take.here | apply Takes.cons | apply Take.there)); repeat (first | exact Reads.nil | (apply Reads.rd; (focus (repeat (first | exact List.Mem.head _ | apply List.Mem.tail)); done)) | (apply Reads.own; (focus (repeat (first | exact List.Mem.head _ | apply List.Mem.tail)); done)) | (apply Reads.rx; (focus (repeat (first | exact List.Mem.head _ | apply List.Mem.tail)); done)) | (apply Reads.rows (e := false); (focus (repeat (first | exact List.Mem.head _ | apply List.Mem.tail)); done)) | (apply Reads.rows (e := true); (focus (repeat (first | exact List.Mem.head _ | apply List.Mem.tail)); done))))) rfl ?_
    rintro ⟨Af, cf, mf, pf, ef⟩ ⟨hdf, hmf⟩
    dsimp only at hdf hmf
    subst hmf
    dsimp only
    refine wlv (op_move (by decide) rfl) rfl ?_
    refine wlv (op_extract (by decide) rfl rfl) rfl ?_
    refine wlv (op_extract (by decide) rfl rfl) rfl ?_
    refine wl1 (op_alloc ti24 (by decide)) rfl fun b2 => ?_
    refine wl (op_storeAll sz24 rfl rfl (by repeat (first | exact Take.here | apply Take.there)) (by first | rfl | (simp [Value.cells]; done) | (simp [Value.cells]; omega)) (by first | rfl | exact wvs_one _ | exact bvs_one _) (by first | rfl | (simp [Value.cells]; done) | (simp [Value.cells]; omega))) rfl ?_
    change WL _ _ _ _ _ _ _
    refine wlv (op_assign (by decide) rfl) rfl ?_
    refine WL.nil ?_
    refine WX.regs (L' := [(0, _), (2, _), (5, _), (6, _)]) (by repeat (first | exact RS.nil | refine RS.cons rfl ?_)) ?_
    refine WX.next ?_
    refine WC.seq ?_
    refine WC.seq ?_
    refine WC.region ?_
    refine wlv (op_move (by decide) rfl) rfl ?_
    refine wlv (op_neq (by decide) rfl rfl) rfl ?_
    refine WL.nil ?_
    refine WX.regs (L' := [(0, _), (2, _), (5, _), (6, _), (23, _)]) (by repeat (first | exact RS.nil | refine RS.cons rfl ?_)) ?_
    refine WX.next ?_
    refine WC.cond rfl (fun h2 => ?_) (fun h2 => ?_)
    ·
      refine WC.seq ?_
      refine WC.region ?_
      refine wlv (op_build (cs := [.int .i64 0, .int .i64 0, .int .i64 0, .slice none 0 0]) (pv := []) (by decide) rfl (by kernel_rfl)) rfl ?_
      refine wlv (op_move (by decide) rfl) rfl ?_
      refine wl (op_storeAll sz49 rfl rfl (by repeat (first | exact Take.here | apply Take.there)) (by first | rfl | (simp [Value.cells]; done) | (simp [Value.cells]; omega)) (by first | rfl | exact wvs_one _ | exact bvs_one _) (by first | rfl | (simp [Value.cells]; done) | (simp [Value.cells]; omega))) rfl ?_
      change WL _ _ _ _ _ _ _
      refine wlv (op_assign (by decide) rfl) rfl ?_
      refine wlv (op_assign (by decide) rfl) rfl ?_
      refine WL.nil ?_
      refine WX.nilown 5 1 ?_
      refine WX.regs (L' := [(2, _), (3, _), (4, _)]) (by repeat (first | exact RS.nil | refine RS.cons rfl ?_)) ?_
      refine WX.next ?_
      refine WC.ret ?_
      refine WX.then_ret ?_
      exact Fin.ret3 (by first | exact .inl rfl | exact .inr rfl) ((none, 0, rc0, 0, ef)) (Eq.symm (join_first h0 (ss_at hr0) hdf (by omega))) Try.results36 rfl (.cellN rfl ag49 (by repeat (first | exact List.Mem.head _ | apply List.Mem.tail)) (by first | rfl | (simp [Value.cells]; done) | (simp [Value.cells]; omega))) (.tmp rfl) (.tmp rfl) (by repeat (first | exact Takes.nil | exact Take.here | apply Takes.cons | apply Take.there)) (by simp)
    ·
      obtain rfl : ef = 0 := by omega
      obtain ⟨hchk, hl0⟩ := dec_fine hdf
      unfold Pt.chk at hchk
      obtain ⟨hff, hc1, hc2, hi1, hi2, hb2⟩ := chk_ok hchk
      have hs0 := ss_at hr0
      refine WC.skip ?_
      refine WX.next ?_
      refine WC.seq ?_
      refine WC.seq ?_
      refine WC.region ?_
      refine wlv (op_fieldAddr fo24_3 (by decide) rfl) rfl ?_
      refine wlv (op_load1 fl3 (by decide) rfl (by repeat (first | exact List.Mem.head _ | apply List.Mem.tail)) rfl) rfl ?_
      refine wlv (op_neq (by decide) rfl rfl) rfl ?_
      refine WL.nil ?_
      refine WX.regs (L' := [(0, _), (2, _), (5, _), (28, _)]) (by repeat (first | exact RS.nil | refine RS.cons rfl ?_)) ?_
      refine WX.next ?_
      refine WC.cond rfl (fun h3 => ?_) (fun h3 => ?_)
      ·
        refine WC.seq ?_
        refine WC.region ?_
        refine wlv (op_build (cs := [.int .i64 0, .int .i64 0, .int .i64 0, .slice none 0 0]) (pv := []) (by decide) rfl (by kernel_rfl)) rfl ?_
        refine wl (op_storeAll sz49 rfl rfl (by repeat (first | exact Take.here | apply Take.there)) (by first | rfl | (simp [Value.cells]; done) | (simp [Value.cells]; omega)) (by first | rfl | exact wvs_one _ | exact bvs_one _) (by first | rfl | (simp [Value.cells]; done) | (simp [Value.cells]; omega))) rfl ?_
        change WL _ _ _ _ _ _ _
        refine wlv (op_assign (by decide) rfl) rfl ?_
        refine wlv (op_assign (by decide) rfl) rfl ?_
        refine WL.nil ?_
        refine WX.nilown 5 1 ?_
        refine WX.regs (L' := [(2, _), (3, _), (4, _)]) (by repeat (first | exact RS.nil | refine RS.cons rfl ?_)) ?_
        refine WX.next ?_
        refine WC.ret ?_
        refine WX.then_ret ?_
        exact Fin.ret3 (by first | exact .inl rfl | exact .inr rfl) ((none, 0, rc0, 0, 30)) (Eq.symm (join_seq h0 hs0 hdf (by omega))) Try.results36 rfl (.cellN rfl ag49 (by repeat (first | exact List.Mem.head _ | apply List.Mem.tail)) (by first | rfl | (simp [Value.cells]; done) | (simp [Value.cells]; omega))) (.tmp rfl) (.tmp rfl) (by repeat (first | exact Takes.nil | exact Take.here | apply Takes.cons | apply Take.there)) (by simp)
      ·
        refine WC.skip ?_
        refine WX.next ?_
        refine WC.seq ?_
        refine WC.region ?_
        refine wlv (op_fieldAddr fo24_0 (by decide) rfl) rfl ?_
        refine wlv (op_load1 fl3 (by decide) rfl (by repeat (first | exact List.Mem.head _ | apply List.Mem.tail)) rfl) rfl ?_
        refine wlv (op_fieldAddr fo24_1 (by decide) rfl) rfl ?_
        refine wlv (op_load1 fl3 (by decide) rfl (by repeat (first | exact List.Mem.head _ | apply List.Mem.tail)) rfl) rfl ?_
        refine wlv (op_fieldAddr fo24_2 (by decide) rfl) rfl ?_
        refine wlv (op_load1 fl3 (by decide) rfl (by repeat (first | exact List.Mem.head _ | apply List.Mem.tail)) rfl) rfl ?_
        refine wlv (op_fieldAddr fo24_5 (by decide) rfl) rfl ?_
        refine wlv (op_load1 fl22 (by decide) rfl (by repeat (first | exact List.Mem.head _ | apply List.Mem.tail)) rfl) rfl ?_
        refine wlv (op_build (cs := [.int .i64 pf.k, .int .i64 pf.g, .int .i64 pf.n, .slice Af pf.b.length cf]) (pv := [(0, _), (1, _), (2, _), (3, _)]) (by decide) rfl (by kernel_rfl)) rfl ?_
        refine wl1 (op_alloc ti49 (by decide)) rfl fun b3 => ?_
        refine wl (op_storeAll sz49 rfl rfl (by repeat (first | exact Take.here | apply Take.there)) (by first | rfl | (simp [Value.cells]; done) | (simp [Value.cells]; omega)) (by first | rfl | exact wvs_one _ | exact bvs_one _) (by first | rfl | (simp [Value.cells]; done) | (simp [Value.cells]; omega))) rfl ?_
        change WL _ _ _ _ _ _ _
        refine WL.nil ?_
        refine WX.regs (L' := [(0, _), (2, _), (5, _), (7, _)]) (by repeat (first | exact RS.nil | refine RS.cons rfl ?_)) ?_
        refine WX.next ?_
        refine WC.seq ?_
        refine WC.seq ?_
        refine WC.region ?_
        refine wlv (op_assign (by decide) rfl) rfl ?_
        refine WL.nil ?_
        refine WX.regs (L' := [(0, _), (2, _), (5, _), (7, _), (8, _)]) (by repeat (first | exact RS.nil | refine RS.cons rfl ?_)) ?_
        refine WX.next ?_
        refine WC.block ?_
        refine WC.loop (X := Nat × List UInt8 × Option Addr × Nat) (fun q => pf.c.toNat - q.1) (fun q => 1 ≤ q.1 ∧ q.1 ≤ pf.c.toNat ∧ q.2.1.length ≤ 224 * q.1 ∧ join (rs.map Bs.s) = jf (rs.map Bs.s) pf (pf.c.toNat - q.1) q.1 q.2.1) (fun q => [(0, .slice A M c), (2, .pointer (some ⟨b1, 0, none⟩)), (5, .pointer (some ⟨b2, 0, none⟩)), (7, .pointer (some ⟨b3, 0, none⟩)), (8, .int .i64 (q.1 : Int))]) (fun q => [own (.slice q.2.2.1 q.2.1.length q.2.2.2) 5 1 q.2.1.length (bvs q.2.1), blk b3 [.int .i64 pf.k, .int .i64 pf.g, .int .i64 pf.n, .slice q.2.2.1 q.2.1.length q.2.2.2] 49, blk b2 (pcells pf.k pf.g pf.n pf.i pf.c (.slice Af pf.b.length cf)) 24, blk b1 [.int .i64 0, .int .i64 0, .int .i64 0, .slice none 0 0] 49, rd (.slice A M c) 1 M (rs.map Bs.v), rowsC false rs, frameC w0 (MutF [])]) ((1, pf.b, Af, cf)) (⟨Nat.le_refl _, by simp only []; omega, by simp only []; omega, join_go h0 hs0 hdf (by omega)⟩) (fun a w hs => hs.sub (by repeat (first | exact RS.nil | refine RS.cons (by first | rfl | exact congrArg (fun z : Int => some (Value.int .i64 z)) (by omega)) ?_)) (by repeat (first | exact Takes.nil | exact Take.here | apply Takes.cons | apply Take.there))) ?_
        rintro ⟨i, acc, Aa, ca⟩ ⟨hi, hic, hal, hj⟩
        try dsimp only at hi hic hal hj ⊢
        refine WC.seq ?_
        refine WC.seq ?_
        refine WC.region ?_
        refine wlv (op_move (by decide) rfl) rfl ?_
        refine wlv (op_fieldAddr fo24_4 (by decide) rfl) rfl ?_
        refine wlv (op_load1 fl3 (by decide) rfl (by repeat (first | exact List.Mem.head _ | apply List.Mem.tail)) rfl) rfl ?_
        refine wlv (op_lss (by decide) rfl rfl) rfl ?_
        refine WL.nil ?_
        refine WX.regs (L' := [(0, _), (2, _), (5, _), (7, _), (8, _), (42, _)]) (by repeat (first | exact RS.nil | refine RS.cons rfl ?_)) ?_
        refine WX.next ?_
        refine WC.cond rfl (fun h4 => ?_) (fun h4 => ?_)
        ·
          refine WC.skip ?_
          refine WX.next ?_
          refine WC.seq ?_
          refine WC.block ?_
          refine WC.seq ?_
          refine WC.seq ?_
          refine WC.region ?_
          refine wlv (op_move (by decide) rfl) rfl ?_
          refine wlv (op_move (by decide) rfl) rfl ?_
          refine wlv (op_len Try.underlying52 (by decide) rfl) rfl ?_
          refine wlv (op_geq (by decide) rfl rfl) rfl ?_
          refine WL.nil ?_
          refine WX.regs (L' := [(0, _), (2, _), (5, _), (7, _), (8, _), (48, _)]) (by repeat (first | exact RS.nil | refine RS.cons rfl ?_)) ?_
          refine WX.next ?_
          refine WC.cond rfl (fun h5 => ?_) (fun h5 => ?_)
          ·
            refine WC.seq ?_
            refine WC.region ?_
            refine wlv (op_build (cs := [.int .i64 0, .int .i64 0, .int .i64 0, .slice none 0 0]) (pv := []) (by decide) rfl (by kernel_rfl)) rfl ?_
            refine wl (op_storeAll sz49 rfl rfl (by repeat (first | exact Take.here | apply Take.there)) (by first | rfl | (simp [Value.cells]; done) | (simp [Value.cells]; omega)) (by first | rfl | exact wvs_one _ | exact bvs_one _) (by first | rfl | (simp [Value.cells]; done) | (simp [Value.cells]; omega))) rfl ?_
            change WL _ _ _ _ _ _ _
            refine wlv (op_assign (by decide) rfl) rfl ?_
            refine wlv (op_assign (by decide) rfl) rfl ?_
            refine WL.nil ?_
            refine WX.nilown 5 1 ?_
            refine WX.regs (L' := [(2, _), (3, _), (4, _)]) (by repeat (first | exact RS.nil | refine RS.cons rfl ?_)) ?_
            refine WX.next ?_
            refine WC.ret ?_
            refine WX.then_ret ?_
            refine WX.in_ret ?_
            refine WX.then_ret ?_
            refine WX.then_ret ?_
            refine WX.in_ret ?_
            refine WX.then_ret ?_
            obtain ⟨r, hrr⟩ : ∃ r, pf.c.toNat - i = r + 1 := ⟨pf.c.toNat - i - 1, by omega⟩
            exact Fin.ret3 (by first | exact .inl rfl | exact .inr rfl) ((none, 0, rc0, 0, 23)) (by rw [hj, hrr, jf_short (by rw [List.length_map]; omega)]) Try.results36 rfl (.cellN rfl ag49 (by repeat (first | exact List.Mem.head _ | apply List.Mem.tail)) (by first | rfl | (simp [Value.cells]; done) | (simp [Value.cells]; omega))) (.tmp rfl) (.tmp rfl) (by repeat (first | exact Takes.nil | exact Take.here | apply Takes.cons | apply Take.there)) (by simp)
          ·
            have hlen : ¬ (rs.map Bs.s).length ≤ i := by rw [List.length_map]; omega
            obtain ⟨ri, hri⟩ : ∃ ri, rs[i]? = some ri := ⟨rs[i]'(by omega), List.getElem?_eq_getElem _⟩
            have hmi : ri ∈ rs := List.mem_of_getElem? hri
            refine WC.skip ?_
            refine WX.next ?_
            refine WC.seq ?_
            refine WC.region ?_
            refine WL.dup (c := rowsC false rs) (d := rd (.slice ri.A ri.s.length ri.c) 1 ri.s.length (bvs ri.s)) (by repeat (first | exact List.Mem.head _ | apply List.Mem.tail)) (by rfl) (by simp) (rowsC_get (r := ri) hmi) ?_
            refine wlv (op_move (by decide) rfl) rfl ?_
            refine wlv (op_move (by decide) rfl) rfl ?_
            refine wlv (op_index Try.underlying52 sz22 (by decide) rfl rfl (by omega) (by omega) (by decide) (by first | (apply Src.rd; (repeat (first | exact List.Mem.head _ | apply List.Mem.tail)); done) | (apply Src.own; (repeat (first | exact List.Mem.head _ | apply List.Mem.tail)); done) | (apply Src.rx; (repeat (first | exact List.Mem.head _ | apply List.Mem.tail)); done))) rfl ?_
            refine wlv (op_loadS fl22 (by decide) rfl (by first | (apply Src.rd; (repeat (first | exact List.Mem.head _ | apply List.Mem.tail)); done) | (apply Src.own; (repeat (first | exact List.Mem.head _ | apply List.Mem.tail)); done) | (apply Src.rx; (repeat (first | exact List.Mem.head _ | apply List.Mem.tail)); done)) (rows_at' hri (by omega))) rfl ?_
            refine wlx (op_call (f25_spec ri.A ri.s.length ri.c ri.s rfl) ca25 (by decide) rfl (by apply Give.mk; (repeat (first | exact Takes.nil | exact Take.here | apply Takes.cons | apply Take.there)); repeat (first | exact Reads.nil | (apply Reads.rd; (focus (repeat (first | exact List.Mem.head _ | apply List.Mem.tail)); done)) | (apply Reads.own; (focus (repeat (first | exact List.Mem.head _ | apply List.Mem.tail)); done)) | (apply Reads.rx; (focus (repeat (first | exact List.Mem.head _ | apply List.Mem.tail)); done)) | (apply Reads.rows (e := false); (focus (repeat (first | exact List.Mem.head _ | apply List.Mem.tail)); done)) | (apply Reads.rows (e := true); (focus (repeat (first | exact List.Mem.head _ | apply List.Mem.tail)); done))))) rfl ?_
            rintro ⟨Ap, cp, mp, pp, ep⟩ ⟨hdp, hmp⟩
            dsimp only at hdp hmp
            subst hmp
            dsimp only
            refine wlv (op_move (by decide) rfl) rfl ?_
            refine wlv (op_extract (by decide) rfl rfl) rfl ?_
            refine wlv (op_extract (by decide) rfl rfl) rfl ?_
            refine wl1 (op_alloc ti24 (by decide)) rfl fun b4 => ?_
            refine wl (op_storeAll sz24 rfl rfl (by repeat (first | exact Take.here | apply Take.there)) (by first | rfl | (simp [Value.cells]; done) | (simp [Value.cells]; omega)) (by first | rfl | exact wvs_one _ | exact bvs_one _) (by first | rfl | (simp [Value.cells]; done) | (simp [Value.cells]; omega))) rfl ?_
            change WL _ _ _ _ _ _ _
            refine wlv (op_assign (by decide) rfl) rfl ?_
            refine WL.nil ?_
            refine WX.regs (L' := [(0, _), (2, _), (5, _), (7, _), (8, _), (9, _), (10, _)]) (by repeat (first | exact RS.nil | refine RS.cons rfl ?_)) ?_
            refine WX.next ?_
            refine WC.seq ?_
            refine WC.seq ?_
            refine WC.region ?_
            refine wlv (op_move (by decide) rfl) rfl ?_
            refine wlv (op_neq (by decide) rfl rfl) rfl ?_
            refine WL.nil ?_
            refine WX.regs (L' := [(0, _), (2, _), (5, _), (7, _), (8, _), (9, _), (10, _), (59, _)]) (by repeat (first | exact RS.nil | refine RS.cons rfl ?_)) ?_
            refine WX.next ?_
            refine WC.cond rfl (fun h6 => ?_) (fun h6 => ?_)
            ·
              refine WC.seq ?_
              refine WC.region ?_
              refine wlv (op_build (cs := [.int .i64 0, .int .i64 0, .int .i64 0, .slice none 0 0]) (pv := []) (by decide) rfl (by kernel_rfl)) rfl ?_
              refine wlv (op_move (by decide) rfl) rfl ?_
              refine wl (op_storeAll sz49 rfl rfl (by repeat (first | exact Take.here | apply Take.there)) (by first | rfl | (simp [Value.cells]; done) | (simp [Value.cells]; omega)) (by first | rfl | exact wvs_one _ | exact bvs_one _) (by first | rfl | (simp [Value.cells]; done) | (simp [Value.cells]; omega))) rfl ?_
              change WL _ _ _ _ _ _ _
              refine wlv (op_assign (by decide) rfl) rfl ?_
              refine wlv (op_assign (by decide) rfl) rfl ?_
              refine WL.nil ?_
              refine WX.nilown 5 1 ?_
              refine WX.regs (L' := [(2, _), (3, _), (4, _)]) (by repeat (first | exact RS.nil | refine RS.cons rfl ?_)) ?_
              refine WX.next ?_
              refine WC.ret ?_
              refine WX.then_ret ?_
              refine WX.in_ret ?_
              refine WX.then_ret ?_
              refine WX.then_ret ?_
              refine WX.in_ret ?_
              refine WX.then_ret ?_
              obtain ⟨r, hrr⟩ : ∃ r, pf.c.toNat - i = r + 1 := ⟨pf.c.toNat - i - 1, by omega⟩
              exact Fin.ret3 (by first | exact .inl rfl | exact .inr rfl) ((none, 0, rc0, 0, ep)) (by rw [hj, hrr, jf_err hlen (ss_at hri) hdp (by omega)]) Try.results36 rfl (.cellN rfl ag49 (by repeat (first | exact List.Mem.head _ | apply List.Mem.tail)) (by first | rfl | (simp [Value.cells]; done) | (simp [Value.cells]; omega))) (.tmp rfl) (.tmp rfl) (by repeat (first | exact Takes.nil | exact Take.here | apply Takes.cons | apply Take.there)) (by simp)
            ·
              obtain rfl : ep = 0 := by omega
              obtain ⟨hchkp, hlp⟩ := dec_fine hdp
              unfold Pt.chk at hchkp
              obtain ⟨_, _, _, _, _, hbp⟩ := chk_ok hchkp
              refine WC.skip ?_
              refine WX.next ?_
              refine WC.seq ?_
              refine WC.seq ?_
              refine WC.region ?_
              refine wlv (op_fieldAddr fo24_3 (by decide) rfl) rfl ?_
              refine wlv (op_load1 fl3 (by decide) rfl (by repeat (first | exact List.Mem.head _ | apply List.Mem.tail)) rfl) rfl ?_
              refine wlv (op_move (by decide) rfl) rfl ?_
              refine wlv (op_neq (by decide) rfl rfl) rfl ?_
              refine wlv (op_move (by decide) rfl) rfl ?_
              refine WL.split (t := 66) rfl (fun g66 => ?_) (fun g66 => ?_)
              ·
                refine wlg_no rfl rfl rfl rfl rfl (by decide) ?_
                refine wlg_no rfl rfl rfl rfl rfl (by decide) ?_
                refine wlg_no rfl rfl rfl rfl rfl (by decide) ?_
                refine wlg_no rfl rfl rfl rfl rfl (by decide) ?_
                refine wlg_no rfl rfl rfl rfl rfl (by decide) ?_
                refine wlv (op_pickT (by decide) rfl rfl) rfl ?_
                refine wlv (op_move (by decide) rfl) rfl ?_
                refine wlg_no rfl rfl rfl rfl rfl (by decide) ?_
                refine wlg_no rfl rfl rfl rfl rfl (by decide) ?_
                refine wlg_no rfl rfl rfl rfl rfl (by decide) ?_
                refine wlg_no rfl rfl rfl rfl rfl (by decide) ?_
                refine wlg_no rfl rfl rfl rfl rfl (by decide) ?_
                refine wlv (op_pickT (by decide) rfl rfl) rfl ?_
                refine wlv (op_move (by decide) rfl) rfl ?_
                refine wlg_no rfl rfl rfl rfl rfl (by decide) ?_
                refine wlg_no rfl rfl rfl rfl rfl (by decide) ?_
                refine wlg_no rfl rfl rfl rfl rfl (by decide) ?_
                refine wlg_no rfl rfl rfl rfl rfl (by decide) ?_
                refine wlg_no rfl rfl rfl rfl rfl (by decide) ?_
                refine wlv (op_pickT (by decide) rfl rfl) rfl ?_
                refine wlv (op_move (by decide) rfl) rfl ?_
                refine wlg_no rfl rfl rfl rfl rfl (by decide) ?_
                refine wlg_no rfl rfl rfl rfl rfl (by decide) ?_
                refine wlg_no rfl rfl rfl rfl rfl (by decide) ?_
                refine wlg_no rfl rfl rfl rfl rfl (by decide) ?_
                refine wlg_no rfl rfl rfl rfl rfl (by decide) ?_
                refine wlv (op_pickT (by decide) rfl rfl) rfl ?_
                refine WL.nil ?_
                refine WX.regs (L' := [(0, _), (2, _), (5, _), (7, _), (8, _), (9, _), (93, _)]) (by repeat (first | exact RS.nil | refine RS.cons rfl ?_)) ?_
                refine WX.next ?_
                refine WC.condT rfl ?_
                refine WC.seq ?_
                refine WC.region ?_
                refine wlv (op_build (cs := [.int .i64 0, .int .i64 0, .int .i64 0, .slice none 0 0]) (pv := []) (by decide) rfl (by kernel_rfl)) rfl ?_
                refine wl (op_storeAll sz49 rfl rfl (by repeat (first | exact Take.here | apply Take.there)) (by first | rfl | (simp [Value.cells]; done) | (simp [Value.cells]; omega)) (by first | rfl | exact wvs_one _ | exact bvs_one _) (by first | rfl | (simp [Value.cells]; done) | (simp [Value.cells]; omega))) rfl ?_
                change WL _ _ _ _ _ _ _
                refine wlv (op_assign (by decide) rfl) rfl ?_
                refine wlv (op_assign (by decide) rfl) rfl ?_
                refine WL.nil ?_
                refine WX.nilown 5 1 ?_
                refine WX.regs (L' := [(2, _), (3, _), (4, _)]) (by repeat (first | exact RS.nil | refine RS.cons rfl ?_)) ?_
                refine WX.next ?_
                refine WC.ret ?_
                refine WX.then_ret ?_
                refine WX.in_ret ?_
                refine WX.then_ret ?_
                refine WX.then_ret ?_
                refine WX.in_ret ?_
                refine WX.then_ret ?_
                obtain ⟨r, hrr⟩ : ∃ r, pf.c.toNat - i = r + 1 := ⟨pf.c.toNat - i - 1, by omega⟩
                exact Fin.ret3 (by first | exact .inl rfl | exact .inr rfl) ((none, 0, rc0, 0, 30)) (by rw [hj, hrr, jf_bad hlen (ss_at hri) hdp (by unfold jbad; omega)]) Try.results36 rfl (.cellN rfl ag49 (by repeat (first | exact List.Mem.head _ | apply List.Mem.tail)) (by first | rfl | (simp [Value.cells]; done) | (simp [Value.cells]; omega))) (.tmp rfl) (.tmp rfl) (by repeat (first | exact Takes.nil | exact Take.here | apply Takes.cons | apply Take.there)) (by simp)
              ·
                refine wlgv (op_fieldAddr fo24_4 (by decide) rfl) rfl rfl rfl ?_
                refine wlgv (op_load1 fl3 (by decide) rfl (by repeat (first | exact List.Mem.head _ | apply List.Mem.tail)) rfl) rfl rfl rfl ?_
                refine wlgv (op_fieldAddr fo24_4 (by decide) rfl) rfl rfl rfl ?_
                refine wlgv (op_load1 fl3 (by decide) rfl (by repeat (first | exact List.Mem.head _ | apply List.Mem.tail)) rfl) rfl rfl rfl ?_
                refine wlgv (op_neq (by decide) rfl rfl) rfl rfl rfl ?_
                refine wlv (op_pickF (by decide) rfl rfl) rfl ?_
                refine wlv (op_move (by decide) rfl) rfl ?_
                refine WL.split (t := 73) rfl (fun g73 => ?_) (fun g73 => ?_)
                ·
                  refine wlg_no rfl rfl rfl rfl rfl (by decide) ?_
                  refine wlg_no rfl rfl rfl rfl rfl (by decide) ?_
                  refine wlg_no rfl rfl rfl rfl rfl (by decide) ?_
                  refine wlg_no rfl rfl rfl rfl rfl (by decide) ?_
                  refine wlg_no rfl rfl rfl rfl rfl (by decide) ?_
                  refine wlv (op_pickT (by decide) rfl rfl) rfl ?_
                  refine wlv (op_move (by decide) rfl) rfl ?_
                  refine wlg_no rfl rfl rfl rfl rfl (by decide) ?_
                  refine wlg_no rfl rfl rfl rfl rfl (by decide) ?_
                  refine wlg_no rfl rfl rfl rfl rfl (by decide) ?_
                  refine wlg_no rfl rfl rfl rfl rfl (by decide) ?_
                  refine wlg_no rfl rfl rfl rfl rfl (by decide) ?_
                  refine wlv (op_pickT (by decide) rfl rfl) rfl ?_
                  refine wlv (op_move (by decide) rfl) rfl ?_
                  refine wlg_no rfl rfl rfl rfl rfl (by decide) ?_
                  refine wlg_no rfl rfl rfl rfl rfl (by decide) ?_
                  refine wlg_no rfl rfl rfl rfl rfl (by decide) ?_
                  refine wlg_no rfl rfl rfl rfl rfl (by decide) ?_
                  refine wlg_no rfl rfl rfl rfl rfl (by decide) ?_
                  refine wlv (op_pickT (by decide) rfl rfl) rfl ?_
                  refine WL.nil ?_
                  refine WX.regs (L' := [(0, _), (2, _), (5, _), (7, _), (8, _), (9, _), (93, _)]) (by repeat (first | exact RS.nil | refine RS.cons rfl ?_)) ?_
                  refine WX.next ?_
                  refine WC.condT rfl ?_
                  refine WC.seq ?_
                  refine WC.region ?_
                  refine wlv (op_build (cs := [.int .i64 0, .int .i64 0, .int .i64 0, .slice none 0 0]) (pv := []) (by decide) rfl (by kernel_rfl)) rfl ?_
                  refine wl (op_storeAll sz49 rfl rfl (by repeat (first | exact Take.here | apply Take.there)) (by first | rfl | (simp [Value.cells]; done) | (simp [Value.cells]; omega)) (by first | rfl | exact wvs_one _ | exact bvs_one _) (by first | rfl | (simp [Value.cells]; done) | (simp [Value.cells]; omega))) rfl ?_
                  change WL _ _ _ _ _ _ _
                  refine wlv (op_assign (by decide) rfl) rfl ?_
                  refine wlv (op_assign (by decide) rfl) rfl ?_
                  refine WL.nil ?_
                  refine WX.nilown 5 1 ?_
                  refine WX.regs (L' := [(2, _), (3, _), (4, _)]) (by repeat (first | exact RS.nil | refine RS.cons rfl ?_)) ?_
                  refine WX.next ?_
                  refine WC.ret ?_
                  refine WX.then_ret ?_
                  refine WX.in_ret ?_
                  refine WX.then_ret ?_
                  refine WX.then_ret ?_
                  refine WX.in_ret ?_
                  refine WX.then_ret ?_
                  obtain ⟨r, hrr⟩ : ∃ r, pf.c.toNat - i = r + 1 := ⟨pf.c.toNat - i - 1, by omega⟩
                  exact Fin.ret3 (by first | exact .inl rfl | exact .inr rfl) ((none, 0, rc0, 0, 30)) (by rw [hj, hrr, jf_bad hlen (ss_at hri) hdp (by unfold jbad; omega)]) Try.results36 rfl (.cellN rfl ag49 (by repeat (first | exact List.Mem.head _ | apply List.Mem.tail)) (by first | rfl | (simp [Value.cells]; done) | (simp [Value.cells]; omega))) (.tmp rfl) (.tmp rfl) (by repeat (first | exact Takes.nil | exact Take.here | apply Takes.cons | apply Take.there)) (by simp)
                ·
                  refine wlgv (op_fieldAddr fo24_0 (by decide) rfl) rfl rfl rfl ?_
                  refine wlgv (op_load1 fl3 (by decide) rfl (by repeat (first | exact List.Mem.head _ | apply List.Mem.tail)) rfl) rfl rfl rfl ?_
                  refine wlgv (op_fieldAddr fo49_0 (by decide) rfl) rfl rfl rfl ?_
                  refine wlgv (op_load1 fl3 (by decide) rfl (by repeat (first | exact List.Mem.head _ | apply List.Mem.tail)) rfl) rfl rfl rfl ?_
                  refine wlgv (op_neq (by decide) rfl rfl) rfl rfl rfl ?_
                  refine wlv (op_pickF (by decide) rfl rfl) rfl ?_
                  refine wlv (op_move (by decide) rfl) rfl ?_
                  refine WL.split (t := 80) rfl (fun g80 => ?_) (fun g80 => ?_)
                  ·
                    refine wlg_no rfl rfl rfl rfl rfl (by decide) ?_
                    refine wlg_no rfl rfl rfl rfl rfl (by decide) ?_
                    refine wlg_no rfl rfl rfl rfl rfl (by decide) ?_
                    refine wlg_no rfl rfl rfl rfl rfl (by decide) ?_
                    refine wlg_no rfl rfl rfl rfl rfl (by decide) ?_
                    refine wlv (op_pickT (by decide) rfl rfl) rfl ?_
                    refine wlv (op_move (by decide) rfl) rfl ?_
                    refine wlg_no rfl rfl rfl rfl rfl (by decide) ?_
                    refine wlg_no rfl rfl rfl rfl rfl (by decide) ?_
                    refine wlg_no rfl rfl rfl rfl rfl (by decide) ?_
                    refine wlg_no rfl rfl rfl rfl rfl (by decide) ?_
                    refine wlg_no rfl rfl rfl rfl rfl (by decide) ?_
                    refine wlv (op_pickT (by decide) rfl rfl) rfl ?_
                    refine WL.nil ?_
                    refine WX.regs (L' := [(0, _), (2, _), (5, _), (7, _), (8, _), (9, _), (93, _)]) (by repeat (first | exact RS.nil | refine RS.cons rfl ?_)) ?_
                    refine WX.next ?_
                    refine WC.condT rfl ?_
                    refine WC.seq ?_
                    refine WC.region ?_
                    refine wlv (op_build (cs := [.int .i64 0, .int .i64 0, .int .i64 0, .slice none 0 0]) (pv := []) (by decide) rfl (by kernel_rfl)) rfl ?_
                    refine wl (op_storeAll sz49 rfl rfl (by repeat (first | exact Take.here | apply Take.there)) (by first | rfl | (simp [Value.cells]; done) | (simp [Value.cells]; omega)) (by first | rfl | exact wvs_one _ | exact bvs_one _) (by first | rfl | (simp [Value.cells]; done) | (simp [Value.cells]; omega))) rfl ?_
                    change WL _ _ _ _ _ _ _
                    refine wlv (op_assign (by decide) rfl) rfl ?_
                    refine wlv (op_assign (by decide) rfl) rfl ?_
                    refine WL.nil ?_
                    refine WX.nilown 5 1 ?_
                    refine WX.regs (L' := [(2, _), (3, _), (4, _)]) (by repeat (first | exact RS.nil | refine RS.cons rfl ?_)) ?_
                    refine WX.next ?_
                    refine WC.ret ?_
                    refine WX.then_ret ?_
                    refine WX.in_ret ?_
                    refine WX.then_ret ?_
                    refine WX.then_ret ?_
                    refine WX.in_ret ?_
                    refine WX.then_ret ?_
                    obtain ⟨r, hrr⟩ : ∃ r, pf.c.toNat - i = r + 1 := ⟨pf.c.toNat - i - 1, by omega⟩
                    exact Fin.ret3 (by first | exact .inl rfl | exact .inr rfl) ((none, 0, rc0, 0, 30)) (by rw [hj, hrr, jf_bad hlen (ss_at hri) hdp (by unfold jbad; omega)]) Try.results36 rfl (.cellN rfl ag49 (by repeat (first | exact List.Mem.head _ | apply List.Mem.tail)) (by first | rfl | (simp [Value.cells]; done) | (simp [Value.cells]; omega))) (.tmp rfl) (.tmp rfl) (by repeat (first | exact Takes.nil | exact Take.here | apply Takes.cons | apply Take.there)) (by simp)
                  ·
                    refine wlgv (op_fieldAddr fo24_1 (by decide) rfl) rfl rfl rfl ?_
                    refine wlgv (op_load1 fl3 (by decide) rfl (by repeat (first | exact List.Mem.head _ | apply List.Mem.tail)) rfl) rfl rfl rfl ?_
                    refine wlgv (op_fieldAddr fo49_1 (by decide) rfl) rfl rfl rfl ?_
                    refine wlgv (op_load1 fl3 (by decide) rfl (by repeat (first | exact List.Mem.head _ | apply List.Mem.tail)) rfl) rfl rfl rfl ?_
                    refine wlgv (op_neq (by decide) rfl rfl) rfl rfl rfl ?_
                    refine wlv (op_pickF (by decide) rfl rfl) rfl ?_
                    refine wlv (op_move (by decide) rfl) rfl ?_
                    refine WL.split (t := 87) rfl (fun g87 => ?_) (fun g87 => ?_)
                    ·
                      refine wlg_no rfl rfl rfl rfl rfl (by decide) ?_
                      refine wlg_no rfl rfl rfl rfl rfl (by decide) ?_
                      refine wlg_no rfl rfl rfl rfl rfl (by decide) ?_
                      refine wlg_no rfl rfl rfl rfl rfl (by decide) ?_
                      refine wlg_no rfl rfl rfl rfl rfl (by decide) ?_
                      refine wlv (op_pickT (by decide) rfl rfl) rfl ?_
                      refine WL.nil ?_
                      refine WX.regs (L' := [(0, _), (2, _), (5, _), (7, _), (8, _), (9, _), (93, _)]) (by repeat (first | exact RS.nil | refine RS.cons rfl ?_)) ?_
                      refine WX.next ?_
                      refine WC.condT rfl ?_
                      refine WC.seq ?_
                      refine WC.region ?_
                      refine wlv (op_build (cs := [.int .i64 0, .int .i64 0, .int .i64 0, .slice none 0 0]) (pv := []) (by decide) rfl (by kernel_rfl)) rfl ?_
                      refine wl (op_storeAll sz49 rfl rfl (by repeat (first | exact Take.here | apply Take.there)) (by first | rfl | (simp [Value.cells]; done) | (simp [Value.cells]; omega)) (by first | rfl | exact wvs_one _ | exact bvs_one _) (by first | rfl | (simp [Value.cells]; done) | (simp [Value.cells]; omega))) rfl ?_
                      change WL _ _ _ _ _ _ _
                      refine wlv (op_assign (by decide) rfl) rfl ?_
                      refine wlv (op_assign (by decide) rfl) rfl ?_
                      refine WL.nil ?_
                      refine WX.nilown 5 1 ?_
                      refine WX.regs (L' := [(2, _), (3, _), (4, _)]) (by repeat (first | exact RS.nil | refine RS.cons rfl ?_)) ?_
                      refine WX.next ?_
                      refine WC.ret ?_
                      refine WX.then_ret ?_
                      refine WX.in_ret ?_
                      refine WX.then_ret ?_
                      refine WX.then_ret ?_
                      refine WX.in_ret ?_
                      refine WX.then_ret ?_
                      obtain ⟨r, hrr⟩ : ∃ r, pf.c.toNat - i = r + 1 := ⟨pf.c.toNat - i - 1, by omega⟩
                      exact Fin.ret3 (by first | exact .inl rfl | exact .inr rfl) ((none, 0, rc0, 0, 30)) (by rw [hj, hrr, jf_bad hlen (ss_at hri) hdp (by unfold jbad; omega)]) Try.results36 rfl (.cellN rfl ag49 (by repeat (first | exact List.Mem.head _ | apply List.Mem.tail)) (by first | rfl | (simp [Value.cells]; done) | (simp [Value.cells]; omega))) (.tmp rfl) (.tmp rfl) (by repeat (first | exact Takes.nil | exact Take.here | apply Takes.cons | apply Take.there)) (by simp)
                    ·
                      refine wlgv (op_fieldAddr fo24_2 (by decide) rfl) rfl rfl rfl ?_
                      refine wlgv (op_load1 fl3 (by decide) rfl (by repeat (first | exact List.Mem.head _ | apply List.Mem.tail)) rfl) rfl rfl rfl ?_
                      refine wlgv (op_fieldAddr fo49_2 (by decide) rfl) rfl rfl rfl ?_
                      refine wlgv (op_load1 fl3 (by decide) rfl (by repeat (first | exact List.Mem.head _ | apply List.Mem.tail)) rfl) rfl rfl rfl ?_
                      refine wlgv (op_neq (by decide) rfl rfl) rfl rfl rfl ?_
                      refine wlv (op_pickF (by decide) rfl rfl) rfl ?_
                      refine WL.nil ?_
                      refine WX.regs (L' := [(0, _), (2, _), (5, _), (7, _), (8, _), (9, _), (93, _)]) (by repeat (first | exact RS.nil | refine RS.cons rfl ?_)) ?_
                      refine WX.next ?_
                      refine WC.cond rfl (fun h7 => ?_) (fun h7 => ?_)
                      ·
                        refine WC.seq ?_
                        refine WC.region ?_
                        refine wlv (op_build (cs := [.int .i64 0, .int .i64 0, .int .i64 0, .slice none 0 0]) (pv := []) (by decide) rfl (by kernel_rfl)) rfl ?_
                        refine wl (op_storeAll sz49 rfl rfl (by repeat (first | exact Take.here | apply Take.there)) (by first | rfl | (simp [Value.cells]; done) | (simp [Value.cells]; omega)) (by first | rfl | exact wvs_one _ | exact bvs_one _) (by first | rfl | (simp [Value.cells]; done) | (simp [Value.cells]; omega))) rfl ?_
                        change WL _ _ _ _ _ _ _
                        refine wlv (op_assign (by decide) rfl) rfl ?_
                        refine wlv (op_assign (by decide) rfl) rfl ?_
                        refine WL.nil ?_
                        refine WX.nilown 5 1 ?_
                        refine WX.regs (L' := [(2, _), (3, _), (4, _)]) (by repeat (first | exact RS.nil | refine RS.cons rfl ?_)) ?_
                        refine WX.next ?_
                        refine WC.ret ?_
                        refine WX.then_ret ?_
                        refine WX.in_ret ?_
                        refine WX.then_ret ?_
                        refine WX.then_ret ?_
                        refine WX.in_ret ?_
                        refine WX.then_ret ?_
                        obtain ⟨r, hrr⟩ : ∃ r, pf.c.toNat - i = r + 1 := ⟨pf.c.toNat - i - 1, by omega⟩
                        exact Fin.ret3 (by first | exact .inl rfl | exact .inr rfl) ((none, 0, rc0, 0, 30)) (by rw [hj, hrr, jf_bad hlen (ss_at hri) hdp (by unfold jbad; omega)]) Try.results36 rfl (.cellN rfl ag49 (by repeat (first | exact List.Mem.head _ | apply List.Mem.tail)) (by first | rfl | (simp [Value.cells]; done) | (simp [Value.cells]; omega))) (.tmp rfl) (.tmp rfl) (by repeat (first | exact Takes.nil | exact Take.here | apply Takes.cons | apply Take.there)) (by simp)
                      ·
                        refine WC.skip ?_
                        refine WX.next ?_
                        refine WC.region ?_
                        refine wlv (op_fieldAddr fo49_3 (by decide) rfl) rfl ?_
                        refine wlv (op_load1 fl22 (by decide) rfl (by repeat (first | exact List.Mem.head _ | apply List.Mem.tail)) rfl) rfl ?_
                        refine wlv (op_fieldAddr fo24_5 (by decide) rfl) rfl ?_
                        refine wlv (op_load1 fl22 (by decide) rfl (by repeat (first | exact List.Mem.head _ | apply List.Mem.tail)) rfl) rfl ?_
                        refine wl2 (op_append Try.underlying22 ti5 rfl (by decide) (by decide) rfl rfl (by repeat (first | exact Take.here | apply Take.there)) (by first | (apply Src.rd; (repeat (first | exact List.Mem.head _ | apply List.Mem.tail)); done) | (apply Src.own; (repeat (first | exact List.Mem.head _ | apply List.Mem.tail)); done) | (apply Src.rx; (repeat (first | exact List.Mem.head _ | apply List.Mem.tail)); done)) (bvs_one _) (by omega) (by omega)) rfl fun A1 c1 => ?_
                        refine wlv (op_fieldAddr fo49_3 (by decide) rfl) rfl ?_
                        refine wl (op_store sz22 rfl rfl (by repeat (first | exact Take.here | apply Take.there)) (by first | rfl | (simp [Value.cells]; done) | (simp [Value.cells]; omega)) (by first | rfl | exact wvs_one _ | exact bvs_one _) (by first | exact Nat.le_of_ble_eq_true rfl | (simp; omega))) rfl ?_
                        change WL _ _ _ _ _ _ _
                        refine WL.nil ?_
                        refine WX.blkEq (b := b3) [.int .i64 pf.k, .int .i64 pf.g, .int .i64 pf.n, .slice A1 (acc.length + pp.b.length) c1] (by repeat (first | exact Take.here | apply Take.there)) (by rfl) ?_
                        refine WX.ownEq (v := .slice A1 (acc.length + pp.b.length) c1) _ (by repeat (first | exact Take.here | apply Take.there)) (bvs_append acc pp.b).symm ?_
                        rw [← List.length_append]
                        refine WX.regs (L' := [(0, _), (2, _), (5, _), (7, _), (8, _)]) (by repeat (first | exact RS.nil | refine RS.cons rfl ?_)) ?_
                        refine WX.in_normal ?_
                        refine WX.next ?_
                        refine WC.region ?_
                        refine wlv (op_move (by decide) rfl) rfl ?_
                        refine wlv (op_add (by decide) rfl rfl (by omega)) rfl ?_
                        refine wlv (op_assign (by decide) rfl) rfl ?_
                        refine WL.nil ?_
                        refine WX.regs (L' := [(0, _), (2, _), (5, _), (7, _), (8, _)]) (by repeat (first | exact RS.nil | refine RS.cons rfl ?_)) ?_
                        have hsi := ss_at hri
                        obtain ⟨r, hrr⟩ : ∃ r, pf.c.toNat - i = r + 1 := ⟨pf.c.toNat - i - 1, by omega⟩
                        have hrr2 : pf.c.toNat - (i + 1) = r := by omega
                        have hnb : ¬ jbad pf pp i := by unfold jbad; omega
                        refine WX.meet ((i + 1, acc ++ pp.b, A1, c1)) ⟨⟨by simp only []; omega, by simp only []; omega, by simp only [List.length_append]; omega, by rw [hj, hrr]; exact (jf_next hlen hsi hdp hnb).trans (by rw [hrr2])⟩, by simp only []; omega⟩ (fun a w hs => hs.sub (by repeat (first | exact RS.nil | refine RS.cons (by first | rfl | exact congrArg (fun z : Int => some (Value.int .i64 z)) (by omega)) ?_)) (by repeat (first | exact Takes.nil | exact Take.here | apply Takes.cons | apply Take.there)))
        ·
          refine WC.exit ?_
          refine WX.then_exit ?_
          refine WX.then_exit ?_
          refine WX.in_hit ?_
          refine WX.next ?_
          refine WC.seq ?_
          refine WC.drawn (Hs := [blk b3 [.int .i64 pf.k, .int .i64 pf.g, .int .i64 pf.n, .slice Aa acc.length ca] 49, blk b2 (pcells pf.k pf.g pf.n pf.i pf.c (.slice Af pf.b.length cf)) 24]) mo 999 ?_
          refine WA.take (i := 0) rfl (by kernel_rfl) (fun _ _ _ h => h) rfl (op_loadAll ag49 (by decide) rfl (by repeat (first | exact List.Mem.head _ | apply List.Mem.tail)) (by first | rfl | (simp [Value.cells]; done) | (simp [Value.cells]; omega))) (by repeat (first | exact Takes.nil | exact Take.here | apply Takes.cons | apply Take.there)) ?_
          refine WA.take (i := 1) rfl (by kernel_rfl) (fun _ _ _ h => h) rfl (op_fieldAddr fo24_4 (by decide) rfl) (by repeat (first | exact Takes.nil | exact Take.here | apply Takes.cons | apply Take.there)) ?_
          refine WA.take (i := 2) rfl (by kernel_rfl) (fun _ _ _ h => h) rfl (op_load1 fl3 (by decide) rfl (by repeat (first | exact List.Mem.head _ | apply List.Mem.tail)) rfl) (by repeat (first | exact Takes.nil | exact Take.here | apply Takes.cons | apply Take.there)) ?_
          refine WA.stepo (i := 3) (by kernel_rfl) rfl rfl (op_storeAll sz49 rfl rfl (by repeat (first | exact Take.here | apply Take.there)) (by first | rfl | (simp [Value.cells]; done) | (simp [Value.cells]; omega)) (by first | rfl | exact wvs_one _ | exact bvs_one _) (by first | rfl | (simp [Value.cells]; done) | (simp [Value.cells]; omega))) (fun _ => (by repeat (first | exact Takes.nil | exact Take.here | apply Takes.cons | apply Take.there))) ?_
          refine WA.take (i := 4) rfl (by kernel_rfl) (fun _ _ _ h => h) rfl (op_assign (by decide) rfl) (by repeat (first | exact Takes.nil | exact Take.here | apply Takes.cons | apply Take.there)) ?_
          refine WA.take (i := 5) rfl (by kernel_rfl) (fun _ _ _ h => h) rfl (op_assign (by decide) rfl) (by repeat (first | exact Takes.nil | exact Take.here | apply Takes.cons | apply Take.there)) ?_
          refine WA.done (by kernel_rfl) ?_
          refine WX.regs (L' := [(2, _), (3, _), (4, _)]) (by repeat (first | exact RS.nil | refine RS.cons rfl ?_)) ?_
          refine WX.next ?_
          refine WC.ret ?_
          exact Fin.ret3 (by first | exact .inl rfl | exact .inr rfl) ((Aa, ca, ⟨pf.k, pf.g, pf.n, acc⟩, pf.c, 0)) (by rw [hj, show pf.c.toNat - i = 0 by omega]; rfl) Try.results36 rfl (.cellN rfl ag49 (by repeat (first | exact List.Mem.head _ | apply List.Mem.tail)) (by first | rfl | (simp [Value.cells]; done) | (simp [Value.cells]; omega))) (.tmp rfl) (.tmp rfl) (by repeat (first | exact Takes.nil | exact Take.here | apply Takes.cons | apply Take.there)) (by simp)
end Go.Proofs.Ythephcghglldaaa.Sx
