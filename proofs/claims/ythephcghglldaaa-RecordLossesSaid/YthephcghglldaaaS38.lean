import Derived.Test.YthephcghglldaaaS29
import Derived.Test.YthephcghglldaaaS23
import Derived.Test.YthephcghglldaaaS32
set_option linter.unusedVariables false
set_option linter.unusedSimpArgs false
namespace Go.Proofs.Ythephcghglldaaa.Sx
open Go.RowKit Go.Proofs.Ythephcghglldaaa.Ty
attribute [local irreducible] blk own rd rx frameC

theorem losses {g n : Int} {ws rest : List (List UInt8)} {q : List UInt8} {ss : List (List UInt8)} {at_ : Nat} (hf : fineP 0 g n) (hn : n + ws.length ≤ 2147483646) (hw : ∀ p ∈ ws, p.length ≤ 131072) (hq : q.length ≤ 131072) (h1 : needs ws ≤ at_) (h2 : at_ < needs ws + need q.length)
    (hpre : ∀ j, j < at_ → ss[j]? = (recs 0 g n (ws ++ q :: rest))[j]?) (hend : ss.length = at_ ∨ ∃ s, ss[at_]? = some s ∧ (dec s).2 = 22) :
    ∃ e, scan g n ss = (rcds 0 g n ws, ((needs ws : Nat) : Int), e) ∧ (e = 0 ↔ ss.length = needs ws) := by
  have hle : at_ ≤ ss.length := by
    rcases hend with h | ⟨s, h, _⟩
    · omega
    · have := (List.getElem?_eq_some_iff.1 h).1
      omega
  have hrl := recs_length 0 g n ws
  have hpre1 : ∀ j, j < needs ws → ss[j]? = (recs 0 g n ws)[j]? := fun j hj => by
    rw [hpre j (by omega), recs_append, List.getElem?_append_left (by omega)]
  have hpre2 : ∀ j, needs ws + j < at_ → ss[needs ws + j]? = some (sect 0 g (n + ws.length) q j) := fun j hj => by
    rw [hpre _ hj, recs_append, List.getElem?_append_right (by omega), hrl, Nat.add_sub_cancel_left, recs, List.getElem?_append_left (by rw [sects_length]; omega), sects_at (by omega)]
  have hd : ss.drop 0 = recs 0 g n ws ++ ss.drop (needs ws) := by
    rw [List.drop_zero]
    conv => lhs; rw [← List.take_append_drop (needs ws) ss]
    congr 1
    apply List.ext_getElem?
    intro j
    rw [List.getElem?_take]
    split
    · exact hpre1 j (by assumption)
    · rw [List.getElem?_eq_none (by omega)]
  have hnl := needs_le ws
  have hsc : scan g n ss = scanF ss g n (ss.length - ws.length) (needs ws) (rcds 0 g n ws) := by
    have h := scanF_recs (fuel := ss.length - ws.length) ws n n 0 [] (ss.drop (needs ws)) hd hw hf (by omega) (by simp)
    rw [show ss.length - ws.length + ws.length = ss.length by omega, Nat.zero_add, List.nil_append] at h
    unfold scan
    rw [if_neg (fun k => k hf), h]
  rw [hsc]
  have hf2 : fineP 0 g (n + ws.length) := by simp only [fineP] at *; omega
  by_cases he : ss.length = needs ws
  · exact ⟨0, scanF_end (by omega), by simp [he]⟩
  · have hpos : needs ws < ss.length := by
      rcases hend with h | ⟨s, h, _⟩
      · omega
      · have := (List.getElem?_eq_some_iff.1 h).1
        omega
    obtain ⟨fu, hfu⟩ : ∃ fu, ss.length - ws.length = fu + 1 := ⟨ss.length - ws.length - 1, by omega⟩
    rw [hfu]
    obtain ⟨e, he0, hj⟩ : ∃ e, ¬ e = 0 ∧ join (ss.drop (needs ws)) = (rc0, 0, e) := by
      rcases hend with h | ⟨s, h, hs⟩
      · exact ⟨23, by decide, join_cut hf2 hq (m := at_ - needs ws) (by omega) (by omega) (by rw [List.length_drop]; omega) fun j hj => by rw [List.getElem?_drop]; exact hpre2 j (by omega)⟩
      · exact ⟨22, by decide, join_dam hf2 hq (m := at_ - needs ws) (s := s) (by omega) (by rw [List.getElem?_drop, show needs ws + (at_ - needs ws) = at_ by omega]; exact h) hs (by decide) fun j hj => by rw [List.getElem?_drop]; exact hpre2 j (by omega)⟩
    exact ⟨e, scanF_err hpos hj.symm he0, by simp [he0, he]⟩
/-- The payloads of a run. -/
def pls (qs : List (List UInt8)) (m : Nat) : List (List UInt8) := (qs.take m).map (·.take 600)
theorem pls_succ {qs : List (List UInt8)} {m : Nat} (h : m < qs.length) : pls qs (m + 1) = pls qs m ++ [(qs.getD m []).take 600] := by
  unfold pls
  rw [List.take_succ_eq_append_getElem h, List.map_append]
  simp [List.getD_eq_getElem?_getD, h]
theorem pls_length {qs : List (List UInt8)} {m : Nat} (h : m ≤ qs.length) : (pls qs m).length = m := by unfold pls; rw [List.length_map, List.length_take]; omega
theorem pls_small {qs : List (List UInt8)} {m : Nat} : ∀ p ∈ pls qs m, p.length ≤ 600 := fun p hp => by
  obtain ⟨x, _, rfl⟩ := List.mem_map.1 hp
  exact List.length_take_le _ _
theorem pls_at {qs : List (List UInt8)} {m i : Nat} (h : i < m) (hm : m ≤ qs.length) : (pls qs m)[i]? = some ((qs.getD i []).take 600) := by
  unfold pls
  rw [List.getElem?_map, List.getElem?_take_of_lt h]
  have : i < qs.length := by omega
  simp [List.getD_eq_getElem?_getD, this]
theorem pls_split {qs : List (List UInt8)} {i n : Nat} (h : i < n) (hn : n ≤ qs.length) : ∃ rest, pls qs n = pls qs i ++ (qs.getD i []).take 600 :: rest := by
  refine ⟨((qs.drop (i + 1)).take (n - (i + 1))).map (·.take 600), ?_⟩
  have e : pls qs n = pls qs (i + 1) ++ ((qs.drop (i + 1)).take (n - (i + 1))).map (·.take 600) := by
    unfold pls
    rw [← List.map_append, ← List.take_add, show i + 1 + (n - (i + 1)) = n by omega]
  rw [e, pls_succ (by omega), List.append_assoc, List.singleton_append]
theorem runF_recs {qs : List (List UInt8)} : ∀ m, m ≤ 6 → m ≤ qs.length → runF 5 7 qs m = recs 0 5 7 (pls qs m) := by
  intro m
  induction m with
  | zero => intro _ _; rfl
  | succ m ih =>
    intro h6 hm
    rw [runF_succ, ih (by omega) (by omega), pls_succ hm, recs_append, pls_length (by omega)]
    congr 1
    have hw : IntKind.i64.wrap (7 + (m : Int)) = 7 + (m : Int) := by rw [IntKind.wrap_i64]; omega
    have hl : ((qs.getD m []).take 600).length ≤ 600 := List.length_take_le _ _
    rw [hw]
    unfold split
    rw [if_neg (by simp only [fineP]; omega), if_neg (by omega)]
    simp [recs]
theorem recs_256 {k g : Int} {ps : List (List UInt8)} : ∀ n : Int, ∀ s ∈ recs k g n ps, s.length = 256 := by
  induction ps with
  | nil => intro n s h; cases h
  | cons p ps ih =>
    intro n s h
    rcases List.mem_append.1 h with h | h
    · obtain ⟨i, _, rfl⟩ := List.mem_map.1 h
      exact enc_length _ _ _ _ _ _
    · exact ih _ s h
theorem recs_sum {k g : Int} {ps : List (List UInt8)} : ∀ n : Int, ∀ s ∈ recs k g n ps, (sha (s.drop 16)).take 16 = s.take 16 := by
  induction ps with
  | nil => intro n s h; cases h
  | cons p ps ih =>
    intro n s h
    rcases List.mem_append.1 h with h | h
    · obtain ⟨i, _, rfl⟩ := List.mem_map.1 h
      exact enc_sum _ _ _ _ _ _
    · exact ih _ s h
theorem flat_get {α : Type} {f : α → List Value} {sz : Nat} (hf : ∀ a, (f a).length = sz) {l : List α} {i : Nat} {a : α} (h : l[i]? = some a) {k : Nat} (hk : k < sz) : (l.flatMap f)[i * sz + k]? = (f a)[k]? := by
  have h1 := flat_at hf l i a h
  rw [← h1, List.getElem?_take_of_lt hk, List.getElem?_drop]
section
variable {P : Program} {n : Nat} {L : List (Nat × Value)} {H : List Ch} {d : Nat} {ty : TypeId} {pos : String} {af : Array Edge} {g : Option (Nat × Bool)} {x y : Operand} {xt yt : TypeId}
theorem op_neqb {p q : Bool} (hn : d < n) (hx : evr L x = some (.bool p)) (hy : evr L y = some (.bool q)) (hu : P.underlying xt = some .bool) : Val P ⟨some d, .binOp .neq xt x y yt, ty, pos, af, g⟩ n L H d (.bool (!(p == q))) :=
  binop_val hn hx hy (fun _ _ => rfl) fun w => by
    have h : ∀ k, (Op.equalIn (k + 1) xt (.bool p) (.bool q)).run P w = .ok (p == q) w := fun k => by
      simp [Op.equalIn, Sem.run_bind, run_underlying hu]
    have h2 : (Op.equal xt (.bool p) (.bool q)).run P w = .ok (p == q) w := h 9999
    simp only [binOp, Sem.run_bind, h2, Result.andThen]
    rfl
end
set_option maxHeartbeats 400000 in
set_option maxRecDepth 10000 in
theorem f12_spec (AP : Option Addr) (MP cP : Nat) (ps : List Bs) (hMP : ps.length = MP) (place by_ : UInt8) :
    Spec Try.prog 12 [.slice AP MP cP, bv place, bv by_] [] [rd (.slice AP MP cP) 1 MP (ps.map Bs.v), rowsC false ps] (R := Bool) (fun b => b = true) (fun b => .bool b) (fun _ => []) := by
  have hpl : place.toNat < 256 := place.toNat_lt
  have hqs : (ps.map Bs.s).length = MP := by rw [List.length_map, hMP]
  refine Spec.intro Try.func12 Try.ntmps12 rfl (by simp) (by simp) fun w0 => ?_
  refine WC.seq ?_
  refine WC.region ?_
  refine wlv (op_assign (by decide) rfl) rfl ?_
  refine WL.nil ?_
  refine WX.regs (L' := [(0, _), (1, _), (2, _)]) (by repeat (first | exact RS.nil | refine RS.cons rfl ?_)) ?_
  refine WX.next ?_
  refine WC.seq ?_
  refine WC.region ?_
  refine wlv (op_move (by decide) rfl) rfl ?_
  refine wlv (op_build (cs := [.int .i64 5, .int .i64 7, .slice AP MP cP, .slice none 0 0, .slice none 0 0, .int .u8 0]) (pv := [(0, _), (1, _), (2, _)]) (by decide) rfl (by kernel_rfl)) rfl ?_
  refine wl1 (op_alloc ti75 (by decide)) rfl fun b1 => ?_
  refine wl (op_storeAll sz75 rfl rfl (by repeat (first | exact Take.here | apply Take.there)) (by first | rfl | (simp [Value.cells]; done) | (simp [Value.cells]; omega)) (by first | rfl | exact wvs_one _ | exact bvs_one _) (by first | rfl | (simp [Value.cells]; done) | (simp [Value.cells]; omega))) rfl ?_
  change WL _ _ _ _ _ _ _
  refine WL.nil ?_
  refine WX.regs (L' := [(0, _), (1, _), (2, _), (7, _)]) (by repeat (first | exact RS.nil | refine RS.cons rfl ?_)) ?_
  refine WX.next ?_
  refine WC.seq ?_
  refine WC.region ?_
  refine wlv (op_loadAll ag75 (by decide) rfl (by repeat (first | exact List.Mem.head _ | apply List.Mem.tail)) (by first | rfl | (simp [Value.cells]; done) | (simp [Value.cells]; omega))) rfl ?_
  refine WL.nilrd 1 ?_
  refine WL.nilrows false ?_
  refine WL.nilrd 16 ?_
  refine wlx (op_call (f38_spec 5 7 AP none none MP cP 0 0 0 0 ps [] [] 0 hMP rfl rfl (fun s hs => by cases hs)) ca38 (by decide) rfl (by apply Give.mk; (repeat (first | exact Takes.nil | exact Take.here | apply Takes.cons | apply Take.there)); repeat (first | exact Reads.nil | (apply Reads.rd; (focus (repeat (first | exact List.Mem.head _ | apply List.Mem.tail)); done)) | (apply Reads.own; (focus (repeat (first | exact List.Mem.head _ | apply List.Mem.tail)); done)) | (apply Reads.rx; (focus (repeat (first | exact List.Mem.head _ | apply List.Mem.tail)); done)) | (apply Reads.rows (e := false); (focus (repeat (first | exact List.Mem.head _ | apply List.Mem.tail)); done)) | (apply Reads.rows (e := true); (focus (repeat (first | exact List.Mem.head _ | apply List.Mem.tail)); done))))) rfl ?_
  rintro ⟨Ab, cb, rb⟩ ⟨hrb, hrb2⟩
  dsimp only at hrb hrb2
  have hb : rb.map Bs.s = recs 0 5 7 (pls (ps.map Bs.s) (min 6 MP)) := by
    have h := hrb2 rfl
    rw [show (0 : UInt8).toNat % 8 = 0 from rfl, Nat.zero_min, Nat.sub_zero, List.take_length, runF_recs _ (by omega) (by omega)] at h
    exact h
  have hbl : rb.length = needs (pls (ps.map Bs.s) (min 6 MP)) := by rw [← recs_length 0 5 7, ← hb, List.length_map]
  dsimp only
  refine wlv (op_assign (by decide) rfl) rfl ?_
  refine WL.nil ?_
  refine WX.regs (L' := [(0, _), (1, _), (2, _), (8, _)]) (by repeat (first | exact RS.nil | refine RS.cons rfl ?_)) ?_
  refine WX.next ?_
  refine WC.seq ?_
  refine WC.seq ?_
  refine WC.region ?_
  refine wlx (op_call (f18_spec) ca18 (by decide) rfl (by apply Give.mk; (repeat (first | exact Takes.nil | exact Take.here | apply Takes.cons | apply Take.there)); repeat (first | exact Reads.nil | (apply Reads.rd; (focus (repeat (first | exact List.Mem.head _ | apply List.Mem.tail)); done)) | (apply Reads.own; (focus (repeat (first | exact List.Mem.head _ | apply List.Mem.tail)); done)) | (apply Reads.rx; (focus (repeat (first | exact List.Mem.head _ | apply List.Mem.tail)); done)) | (apply Reads.rows (e := false); (focus (repeat (first | exact List.Mem.head _ | apply List.Mem.tail)); done)) | (apply Reads.rows (e := true); (focus (repeat (first | exact List.Mem.head _ | apply List.Mem.tail)); done))))) rfl ?_
  rintro _ _
  refine wlv (op_not (by decide) rfl) rfl ?_
  refine wlv (op_move (by decide) rfl) rfl ?_
  refine wlgv (op_move (by decide) rfl) rfl rfl rfl ?_
  refine wlgv (op_len Try.underlying52 (by decide) rfl) rfl rfl rfl ?_
  refine wlgv (op_eql (by decide) rfl rfl) rfl rfl rfl ?_
  refine wlv (op_pickF (by decide) rfl rfl) rfl ?_
  refine WL.nil ?_
  refine WX.regs (L' := [(0, _), (1, _), (2, _), (8, _), (32, _)]) (by repeat (first | exact RS.nil | refine RS.cons rfl ?_)) ?_
  refine WX.next ?_
  refine WC.cond rfl (fun h1 => ?_) (fun h1 => ?_)
  ·
    refine WC.seq ?_
    refine WC.region ?_
    refine wlx (op_call (f18_spec) ca18 (by decide) rfl (by apply Give.mk; (repeat (first | exact Takes.nil | exact Take.here | apply Takes.cons | apply Take.there)); repeat (first | exact Reads.nil | (apply Reads.rd; (focus (repeat (first | exact List.Mem.head _ | apply List.Mem.tail)); done)) | (apply Reads.own; (focus (repeat (first | exact List.Mem.head _ | apply List.Mem.tail)); done)) | (apply Reads.rx; (focus (repeat (first | exact List.Mem.head _ | apply List.Mem.tail)); done)) | (apply Reads.rows (e := false); (focus (repeat (first | exact List.Mem.head _ | apply List.Mem.tail)); done)) | (apply Reads.rows (e := true); (focus (repeat (first | exact List.Mem.head _ | apply List.Mem.tail)); done))))) rfl ?_
    rintro _ _
    refine wlv (op_assign (by decide) rfl) rfl ?_
    refine WL.nil ?_
    refine WX.regs (L' := [(6, _)]) (by repeat (first | exact RS.nil | refine RS.cons rfl ?_)) ?_
    refine WX.next ?_
    refine WC.ret ?_
    refine WX.then_ret ?_
    exact Fin.ret1 (by first | exact .inl rfl | exact .inr rfl) (_) (rfl) Try.results12 (.tmp rfl) (by repeat (first | exact Takes.nil | exact Take.here | apply Takes.cons | apply Take.there)) (by simp)
  ·
    obtain ⟨pos, hpos⟩ : ∃ pos : Nat, pos = place.toNat % rb.length := ⟨_, rfl⟩
    have hpos2 : pos < rb.length := by rw [hpos]; exact Nat.mod_lt _ (by omega)
    refine WC.skip ?_
    refine WX.next ?_
    refine WC.seq ?_
    refine WC.region ?_
    refine wlv (op_move (by decide) rfl) rfl ?_
    refine wlv (op_conv8i (by kernel_rfl) Try.underlying3 (by decide) rfl) rfl ?_
    refine wlv (op_move (by decide) rfl) rfl ?_
    refine wlv (op_len Try.underlying52 (by decide) rfl) rfl ?_
    refine wlv (op_rem (by decide) rfl rfl (by omega) (by omega)) rfl ?_
    rw [show ((place.toNat : Nat) : Int) % ((rb.length : Nat) : Int) = ((place.toNat % rb.length : Nat) : Int) from (Int.natCast_emod ..).symm, ← hpos]
    refine wlv (op_assign (by decide) rfl) rfl ?_
    refine WL.nil ?_
    refine WX.regs (L' := [(0, _), (1, _), (2, _), (8, _), (9, _)]) (by repeat (first | exact RS.nil | refine RS.cons rfl ?_)) ?_
    refine WX.next ?_
    refine WC.seq ?_
    refine WC.region ?_
    refine wlv (op_assign (by decide) rfl) rfl ?_
    refine wlv (op_assign (by decide) rfl) rfl ?_
    refine WL.nil ?_
    refine WX.regs (L' := [(0, _), (1, _), (2, _), (8, _), (9, _), (10, _), (11, _)]) (by repeat (first | exact RS.nil | refine RS.cons rfl ?_)) ?_
    refine WX.next ?_
    refine WC.cut (X := Nat) (fun q => q < min 6 MP ∧ needs (pls (ps.map Bs.s) q) ≤ pos ∧ pos < needs (pls (ps.map Bs.s) (q + 1))) (fun q => [(0, .slice AP MP cP), (1, bv place), (2, bv by_), (8, .slice Ab rb.length cb), (9, .int .i64 (pos : Int)), (10, .int .i64 (q : Int)), (11, .int .i64 ((needs (pls (ps.map Bs.s) q) : Nat) : Int))]) (fun q => [rx (.slice Ab rb.length cb) 1 rb.length (rb.map Bs.v), rowsC true rb, rd (.slice AP MP cP) 1 MP (ps.map Bs.v), rowsC false ps, frameC w0 (MutF [])]) ?_ ?_
    ·
      refine WC.seq ?_
      refine WC.region ?_
      refine wlv (op_assign (by decide) rfl) rfl ?_
      refine WL.nil ?_
      refine WX.regs (L' := [(0, _), (1, _), (2, _), (8, _), (9, _), (10, _), (11, _), (12, _)]) (by repeat (first | exact RS.nil | refine RS.cons rfl ?_)) ?_
      refine WX.next ?_
      refine WC.block ?_
      refine WC.loop (X := Nat) (fun q => 6 - q) (fun q => q ≤ 6 ∧ q ≤ MP ∧ needs (pls (ps.map Bs.s) q) ≤ pos) (fun q => [(0, .slice AP MP cP), (1, bv place), (2, bv by_), (8, .slice Ab rb.length cb), (9, .int .i64 (pos : Int)), (10, .int .i64 (q : Int)), (11, .int .i64 ((needs (pls (ps.map Bs.s) q) : Nat) : Int)), (12, .int .i64 (q : Int))]) (fun q => [rx (.slice Ab rb.length cb) 1 rb.length (rb.map Bs.v), rowsC true rb, rd (.slice AP MP cP) 1 MP (ps.map Bs.v), rowsC false ps, frameC w0 (MutF [])]) (0) (⟨Nat.zero_le _, Nat.zero_le _, Nat.zero_le _⟩) (fun a w hs => hs.sub (by repeat (first | exact RS.nil | refine RS.cons (by first | rfl | exact congrArg (fun z : Int => some (Value.int .i64 z)) (by omega)) ?_)) (by repeat (first | exact Takes.nil | exact Take.here | apply Takes.cons | apply Take.there))) ?_
      rintro i ⟨hi, hiM, hne⟩
      try dsimp only
      refine WC.seq ?_
      refine WC.seq ?_
      refine WC.region ?_
      refine wlv (op_move (by decide) rfl) rfl ?_
      refine wlv (op_move (by decide) rfl) rfl ?_
      refine wlv (op_len Try.underlying52 (by decide) rfl) rfl ?_
      refine wlv (op_lss (by decide) rfl rfl) rfl ?_
      refine wlv (op_move (by decide) rfl) rfl ?_
      refine WL.split (t := 43) rfl (fun g43 => ?_) (fun g43 => ?_)
      ·
        refine wlgv (op_move (by decide) rfl) rfl rfl rfl ?_
        refine wlgv (op_lss (by decide) rfl rfl) rfl rfl rfl ?_
        refine wlv (op_pickT (by decide) rfl rfl) rfl ?_
        refine WL.nil ?_
        refine WX.regs (L' := [(0, _), (1, _), (2, _), (8, _), (9, _), (10, _), (11, _), (12, _), (46, _)]) (by repeat (first | exact RS.nil | refine RS.cons rfl ?_)) ?_
        refine WX.next ?_
        refine WC.cond rfl (fun h2 => ?_) (fun h2 => ?_)
        ·
          refine WC.skip ?_
          refine WX.next ?_
          refine WC.seq ?_
          refine WC.block ?_
          refine WC.seq ?_
          refine WC.region ?_
          obtain ⟨ri, hri⟩ : ∃ r, ps[i]? = some r := ⟨ps[i]'(by omega), List.getElem?_eq_getElem _⟩
          have hrs2 := ss_getD hri
          have hnd : needs (pls (ps.map Bs.s) (i + 1)) = needs (pls (ps.map Bs.s) i) + need (min ri.s.length 600) := by rw [pls_succ (by rw [List.length_map]; omega), needs_append, hrs2]; simp [needs, Nat.min_comm]
          have hneed := need_le (m := min ri.s.length 600) (by omega)
          refine wlv (op_move (by decide) rfl) rfl ?_
          refine wlv (op_move (by decide) rfl) rfl ?_
          refine wlv (op_index Try.underlying52 sz22 (by decide) rfl rfl (by omega) (by omega) (by decide) (Src.rd (xs := ps.map Bs.v) (by repeat (first | exact List.Mem.head _ | apply List.Mem.tail)))) rfl ?_
          refine wlv (op_loadS fl22 (by decide) rfl (Src.rd (xs := ps.map Bs.v) (by repeat (first | exact List.Mem.head _ | apply List.Mem.tail))) (rows_at' hri (by omega))) rfl ?_
          refine wlv (op_len Try.underlying22 (by decide) rfl) rfl ?_
          refine wlv (op_minN (a := ri.s.length) (b := 600) (by decide) rfl rfl) rfl ?_
          refine wlx (op_call (f33_spec (min ri.s.length 600) (by omega)) ca33 (by decide) rfl (by apply Give.mk; (repeat (first | exact Takes.nil | exact Take.here | apply Takes.cons | apply Take.there)); repeat (first | exact Reads.nil | (apply Reads.rd; (focus (repeat (first | exact List.Mem.head _ | apply List.Mem.tail)); done)) | (apply Reads.own; (focus (repeat (first | exact List.Mem.head _ | apply List.Mem.tail)); done)) | (apply Reads.rx; (focus (repeat (first | exact List.Mem.head _ | apply List.Mem.tail)); done)) | (apply Reads.rows (e := false); (focus (repeat (first | exact List.Mem.head _ | apply List.Mem.tail)); done)) | (apply Reads.rows (e := true); (focus (repeat (first | exact List.Mem.head _ | apply List.Mem.tail)); done))))) rfl ?_
          rintro _ _
          refine wlv (op_assign (by decide) rfl) rfl ?_
          refine WL.nil ?_
          refine WX.regs (L' := [(0, _), (1, _), (2, _), (8, _), (9, _), (10, _), (11, _), (12, _), (13, _)]) (by repeat (first | exact RS.nil | refine RS.cons rfl ?_)) ?_
          refine WX.next ?_
          refine WC.seq ?_
          refine WC.seq ?_
          refine WC.region ?_
          refine wlv (op_move (by decide) rfl) rfl ?_
          refine wlv (op_move (by decide) rfl) rfl ?_
          refine wlv (op_add (by decide) rfl rfl (by omega)) rfl ?_
          refine wlv (op_move (by decide) rfl) rfl ?_
          refine wlv (op_gtr (by decide) rfl rfl) rfl ?_
          refine WL.nil ?_
          refine WX.regs (L' := [(0, _), (1, _), (2, _), (8, _), (9, _), (10, _), (11, _), (12, _), (13, _), (60, _)]) (by repeat (first | exact RS.nil | refine RS.cons rfl ?_)) ?_
          refine WX.next ?_
          refine WC.cond rfl (fun h3 => ?_) (fun h3 => ?_)
          ·
            refine WC.exit ?_
            refine WX.then_exit ?_
            refine WX.in_miss rfl ?_
            refine WX.then_exit ?_
            refine WX.then_exit ?_
            refine WX.in_hit ?_
            refine WX.meet (i) (⟨by omega, hne, by omega⟩) (fun a w hs => hs.sub (by repeat (first | exact RS.nil | refine RS.cons (by first | rfl | exact congrArg (fun z : Int => some (Value.int .i64 z)) (by omega)) ?_)) (by repeat (first | exact Takes.nil | exact Take.here | apply Takes.cons | apply Take.there)))
          ·
            refine WC.skip ?_
            refine WX.next ?_
            refine WC.region ?_
            refine wlv (op_move (by decide) rfl) rfl ?_
            refine wlv (op_add (by decide) rfl rfl (by omega)) rfl ?_
            refine wlv (op_move (by decide) rfl) rfl ?_
            refine wlv (op_move (by decide) rfl) rfl ?_
            refine wlv (op_add (by decide) rfl rfl (by omega)) rfl ?_
            refine wlv (op_assign (by decide) rfl) rfl ?_
            refine wlv (op_assign (by decide) rfl) rfl ?_
            refine WL.nil ?_
            refine WX.regs (L' := [(0, _), (1, _), (2, _), (8, _), (9, _), (10, _), (11, _), (12, _)]) (by repeat (first | exact RS.nil | refine RS.cons rfl ?_)) ?_
            refine WX.in_normal ?_
            refine WX.next ?_
            refine WC.region ?_
            refine wlv (op_move (by decide) rfl) rfl ?_
            refine wlv (op_add (by decide) rfl rfl (by omega)) rfl ?_
            refine wlv (op_assign (by decide) rfl) rfl ?_
            refine WL.nil ?_
            refine WX.regs (L' := [(0, _), (1, _), (2, _), (8, _), (9, _), (10, _), (11, _), (12, _)]) (by repeat (first | exact RS.nil | refine RS.cons rfl ?_)) ?_
            rw [show ((needs (pls (ps.map Bs.s) i) : Nat) : Int) + ((need (min ri.s.length 600) : Nat) : Int) = ((needs (pls (ps.map Bs.s) (i + 1)) : Nat) : Int) by omega]
            refine WX.meet (i + 1) ⟨⟨by omega, by omega, by omega⟩, by omega⟩ (fun a w hs => hs.sub (by repeat (first | exact RS.nil | refine RS.cons (by first | rfl | exact congrArg (fun z : Int => some (Value.int .i64 z)) (by omega)) ?_)) (by repeat (first | exact Takes.nil | exact Take.here | apply Takes.cons | apply Take.there)))
        ·
          refine WC.exit ?_
          refine WX.then_exit ?_
          refine WX.then_exit ?_
          refine WX.in_hit ?_
          refine WX.meet (i) ((by exfalso; obtain rfl : i = min 6 MP := (by omega); omega)) (fun a w hs => hs.sub (by repeat (first | exact RS.nil | refine RS.cons (by first | rfl | exact congrArg (fun z : Int => some (Value.int .i64 z)) (by omega)) ?_)) (by repeat (first | exact Takes.nil | exact Take.here | apply Takes.cons | apply Take.there)))
      ·
        refine wlg_no rfl rfl rfl rfl rfl (by decide) ?_
        refine wlg_no rfl rfl rfl rfl rfl (by decide) ?_
        refine wlv (op_pickF (by decide) rfl rfl) rfl ?_
        refine WL.nil ?_
        refine WX.regs (L' := [(0, _), (1, _), (2, _), (8, _), (9, _), (10, _), (11, _), (12, _), (46, _)]) (by repeat (first | exact RS.nil | refine RS.cons rfl ?_)) ?_
        refine WX.next ?_
        refine WC.condF rfl ?_
        refine WC.exit ?_
        refine WX.then_exit ?_
        refine WX.then_exit ?_
        refine WX.in_hit ?_
        refine WX.meet (i) ((by exfalso; obtain rfl : i = min 6 MP := (by omega); omega)) (fun a w hs => hs.sub (by repeat (first | exact RS.nil | refine RS.cons (by first | rfl | exact congrArg (fun z : Int => some (Value.int .i64 z)) (by omega)) ?_)) (by repeat (first | exact Takes.nil | exact Take.here | apply Takes.cons | apply Take.there)))
    · rintro wh ⟨hw1, hw2, hw3⟩
      try dsimp only
      refine WC.turn (c := rowsC true rb) (d := rowsC false rb) (by repeat (first | exact Take.here | apply Take.there)) (rowsC_read fun _ h => h) ?_
      refine WC.capx (A := Ab) (m := rb.length) (c := cb) (Src.rx (xs := rb.map Bs.v) (by repeat (first | exact List.Mem.head _ | apply List.Mem.tail))) (fun hcapb => ?_)
      obtain ⟨rest, hrest⟩ := pls_split (qs := ps.map Bs.s) (i := wh) (n := min 6 MP) hw1 (by omega)
      have hws := pls_succ (qs := ps.map Bs.s) (m := wh) (by omega)
      have hnd : needs (pls (ps.map Bs.s) (wh + 1)) = needs (pls (ps.map Bs.s) wh) + need ((ps.map Bs.s).getD wh []|>.take 600).length := by rw [hws, needs_append]; simp [needs]
      have hwl := pls_length (qs := ps.map Bs.s) (m := wh) (by omega)
      have hlos : ∀ ss : List (List UInt8), (∀ j, j < pos → ss[j]? = (rb.map Bs.s)[j]?) → (ss.length = pos ∨ ∃ s, ss[pos]? = some s ∧ (dec s).2 = 22) → ∃ e, scan 5 7 ss = (rcds 0 5 7 (pls (ps.map Bs.s) wh), ((needs (pls (ps.map Bs.s) wh) : Nat) : Int), e) ∧ (e = 0 ↔ ss.length = needs (pls (ps.map Bs.s) wh)) := fun ss k1 k2 => losses (rest := rest) (q := ((ps.map Bs.s).getD wh []).take 600) (by decide) (by omega) (fun p hp => Nat.le_trans (pls_small p hp) (by decide)) (Nat.le_trans (List.length_take_le _ _) (by decide)) hw2 (by rw [← hnd]; exact hw3) (fun j hj => by rw [k1 j hj, hb, hrest]) k2
      refine WC.seq ?_
      refine WC.region ?_
      refine wlv (op_move (by decide) rfl) rfl ?_
      refine wlv (op_move (by decide) rfl) rfl ?_
      refine wlv (op_slice_h Try.underlying52 sz22 (by decide) rfl rfl (by omega) (by omega)) rfl ?_
      rw [Int.toNat_natCast, sliced0]
      refine wlv (op_assign (by decide) rfl) rfl ?_
      refine WL.nil ?_
      refine WX.regs (L' := [(0, _), (1, _), (2, _), (8, _), (9, _), (10, _), (11, _), (14, _)]) (by repeat (first | exact RS.nil | refine RS.cons rfl ?_)) ?_
      refine WX.next ?_
      refine WC.cut (X := Option Addr × Nat × List Bs) (fun q => q.2.2.length ≤ 18 ∧ ∃ e, scan 5 7 (q.2.2.map Bs.s) = (rcds 0 5 7 (pls (ps.map Bs.s) wh), ((needs (pls (ps.map Bs.s) wh) : Nat) : Int), e) ∧ (e = 0 ↔ q.2.2.length = needs (pls (ps.map Bs.s) wh))) (fun q => [(0, .slice AP MP cP), (10, .int .i64 (wh : Int)), (11, .int .i64 ((needs (pls (ps.map Bs.s) wh) : Nat) : Int)), (14, .slice q.1 q.2.2.length q.2.1)]) (fun q => [rd (.slice q.1 q.2.2.length q.2.1) 1 q.2.2.length (q.2.2.map Bs.v), rowsC false q.2.2, rd (.slice AP MP cP) 1 MP (ps.map Bs.v), rowsC false ps, frameC w0 (MutF [])]) ?_ ?_
      ·
        refine WC.seq ?_
        refine WC.region ?_
        refine wlv (op_move (by decide) rfl) rfl ?_
        refine wlv (op_neq8 (b := 0) (by decide) rfl rfl) rfl ?_
        refine WL.nil ?_
        refine WX.regs (L' := [(0, _), (1, _), (2, _), (8, _), (9, _), (10, _), (11, _), (14, _), (70, _)]) (by repeat (first | exact RS.nil | refine RS.cons rfl ?_)) ?_
        refine WX.next ?_
        refine WC.cond rfl (fun h3 => ?_) (fun h3 => ?_)
        ·
          refine WC.seq ?_
          refine WC.region ?_
          refine wl1 (op_lit0 Try.underlying52 ti22 (by decide)) rfl fun b2 => ?_
          refine wlv (op_move (by decide) rfl) rfl ?_
          refine wl2 (op_append0 Try.underlying52 ti22 rfl (by decide) (by decide) rfl rfl (by repeat (first | exact Take.here | apply Take.there)) (by first | (apply Src.rd; (repeat (first | exact List.Mem.head _ | apply List.Mem.tail)); done) | (apply Src.own; (repeat (first | exact List.Mem.head _ | apply List.Mem.tail)); done) | (apply Src.rx; (repeat (first | exact List.Mem.head _ | apply List.Mem.tail)); done)) (rows_one _) (by omega) (by omega)) rfl fun A1 c1 => ?_
          refine wlv (op_assign (by decide) rfl) rfl ?_
          refine WL.nil ?_
          refine WX.regs (L' := [(0, _), (1, _), (2, _), (8, _), (9, _), (10, _), (11, _), (14, _)]) (by repeat (first | exact RS.nil | refine RS.cons rfl ?_)) ?_
          refine WX.next ?_
          refine WC.seq ?_
          refine WC.region ?_
          refine wlv (op_move (by decide) rfl) rfl ?_
          refine wlv (op_assign (by decide) rfl) rfl ?_
          refine WL.nil ?_
          refine WX.regs (L' := [(0, _), (1, _), (2, _), (8, _), (10, _), (11, _), (14, _), (15, _)]) (by repeat (first | exact RS.nil | refine RS.cons rfl ?_)) ?_
          refine WX.next ?_
          refine WC.block ?_
          refine WC.dup (c := rowsC false rb) (d := rowsC false rb) (by repeat (first | exact List.Mem.head _ | apply List.Mem.tail)) rfl rfl (Ch.Le.refl _) ?_
          refine WC.loop (X := Nat × List Bs) (fun q => rb.length - q.1) (fun q => pos ≤ q.1 ∧ q.1 ≤ rb.length ∧ q.2.length = rb.length ∧ (∀ j, j < pos → q.2[j]? = rb[j]?) ∧ (pos < q.1 → ∃ r, q.2[pos]? = some r ∧ (dec r.s).2 = 22)) (fun q => [(0, .slice AP MP cP), (1, bv place), (2, bv by_), (8, .slice Ab rb.length cb), (10, .int .i64 (wh : Int)), (11, .int .i64 ((needs (pls (ps.map Bs.s) wh) : Nat) : Int)), (14, .slice A1 rb.length c1), (15, .int .i64 (q.1 : Int))]) (fun q => [own (.slice A1 rb.length c1) 22 1 rb.length (q.2.map Bs.v), rowsC false q.2, rx (.slice Ab rb.length cb) 1 rb.length (rb.map Bs.v), rowsC false rb, rd (.slice AP MP cP) 1 MP (ps.map Bs.v), rowsC false ps, frameC w0 (MutF [])]) ((pos, rb)) (⟨Nat.le_refl _, by simp only []; omega, rfl, fun _ _ => rfl, fun h => absurd h (Nat.lt_irrefl _)⟩) (fun a w hs => hs.sub (by repeat (first | exact RS.nil | refine RS.cons (by first | rfl | exact congrArg (fun z : Int => some (Value.int .i64 z)) (by omega)) ?_)) (by repeat (first | exact Takes.nil | exact Take.here | apply Takes.cons | apply Take.there))) ?_
          rintro ⟨i, cr⟩ ⟨hip, hiN, hcl, hcp, hcd⟩
          try dsimp only at hip hiN hcl hcp hcd ⊢
          refine WC.seq ?_
          refine WC.seq ?_
          refine WC.region ?_
          refine wlv (op_move (by decide) rfl) rfl ?_
          refine wlv (op_move (by decide) rfl) rfl ?_
          refine wlv (op_len Try.underlying52 (by decide) rfl) rfl ?_
          refine wlv (op_lss (by decide) rfl rfl) rfl ?_
          refine WL.nil ?_
          refine WX.regs (L' := [(0, _), (1, _), (2, _), (8, _), (10, _), (11, _), (14, _), (15, _), (78, _)]) (by repeat (first | exact RS.nil | refine RS.cons rfl ?_)) ?_
          refine WX.next ?_
          refine WC.cond rfl (fun h4 => ?_) (fun h4 => ?_)
          ·
            refine WC.skip ?_
            refine WX.next ?_
            refine WC.seq ?_
            refine WC.block ?_
            refine WC.seq ?_
            refine WC.region ?_
            obtain ⟨ri, hri⟩ : ∃ r, rb[i]? = some r := ⟨rb[i]'(by omega), List.getElem?_eq_getElem _⟩
            have hrm : ri ∈ rb := List.mem_of_getElem? hri
            have hrs : ri.s ∈ recs 0 5 7 (pls (ps.map Bs.s) (min 6 MP)) := by rw [← hb]; exact List.mem_map_of_mem hrm
            have hr256 := recs_256 _ _ hrs
            have hrv : ∀ j, j = i → (rb.map Bs.v)[j]? = some (.slice ri.A 256 ri.c) := fun j hj => by rw [rows_at' hri hj]; unfold Bs.v; rw [hr256]
            refine WL.dup (c := rowsC false rb) (d := rd (.slice ri.A 256 ri.c) 1 256 (bvs ri.s)) (by repeat (first | exact List.Mem.head _ | apply List.Mem.tail)) rfl (by simp) (by have h := rowsC_get (e := false) (rs := rb) hrm; unfold Bs.ch Bs.v at h; rw [hr256] at h; exact h) ?_
            have hts : (ri.s.set place.toNat (ri.s.getD place.toNat 0 ^^^ by_)).length = 256 := by rw [List.length_set]; exact hr256
            refine wlv (op_move (by decide) rfl) rfl ?_
            refine wlv (op_move (by decide) rfl) rfl ?_
            refine wl1 (op_lit0 Try.underlying22 ti5 (by decide)) rfl fun b3 => ?_
            refine wlv (op_move (by decide) rfl) rfl ?_
            refine wlv (op_move (by decide) rfl) rfl ?_
            refine wlv (op_index Try.underlying52 sz22 (by decide) rfl rfl (by omega) (by omega) (by decide) (Src.rx (xs := rb.map Bs.v) (by repeat (first | exact List.Mem.head _ | apply List.Mem.tail)))) rfl ?_
            refine wlv (op_loadS fl22 (by decide) rfl (Src.rx (xs := rb.map Bs.v) (by repeat (first | exact List.Mem.head _ | apply List.Mem.tail))) (hrv _ (by omega))) rfl ?_
            refine wl2 (op_append0 Try.underlying22 ti5 rfl (by decide) (by decide) rfl rfl (by repeat (first | exact Take.here | apply Take.there)) (by first | (apply Src.rd; (repeat (first | exact List.Mem.head _ | apply List.Mem.tail)); done) | (apply Src.own; (repeat (first | exact List.Mem.head _ | apply List.Mem.tail)); done) | (apply Src.rx; (repeat (first | exact List.Mem.head _ | apply List.Mem.tail)); done)) (by first | rfl | exact wvs_one _ | exact bvs_one _) (by omega) (by omega)) rfl fun A2 c2 => ?_
            refine wlv (op_index Try.underlying52 sz22 (by decide) rfl rfl (by omega) (by omega) (by decide) (Src.own (xs := cr.map Bs.v) (by repeat (first | exact List.Mem.head _ | apply List.Mem.tail)))) rfl ?_
            refine wl (op_storeS sz22 rfl rfl (by repeat (first | exact Take.here | apply Take.there)) rfl rfl (by rw [List.length_map]; omega) (by decide)) rfl ?_
            change WL _ _ _ _ _ _ _
            refine WL.nil ?_
            refine WX.ownEq (v := .slice A1 rb.length c1) ((cr.set i ⟨A2, c2, (ri.s.set place.toNat (ri.s.getD place.toNat 0 ^^^ by_))⟩).map Bs.v) (by repeat (first | exact Take.here | apply Take.there)) (by rw [← map_set_v, ← pset_one _ _ _ (by rw [List.length_map]; omega)]; unfold Bs.v; simp only [hts]; congr 1; try omega) ?_
            have hcv : ∀ j, j = i → ((cr.set i ⟨A2, c2, (ri.s.set place.toNat (ri.s.getD place.toNat 0 ^^^ by_))⟩).map Bs.v)[j]? = some (.slice A2 256 c2) := fun j hj => by rw [rows_at' (r := ⟨A2, c2, (ri.s.set place.toNat (ri.s.getD place.toNat 0 ^^^ by_))⟩) (List.getElem?_set_self (by omega)) hj]; unfold Bs.v; simp only [hts]
            refine WX.regs (L' := [(0, _), (1, _), (2, _), (8, _), (10, _), (11, _), (14, _), (15, _)]) (by repeat (first | exact RS.nil | refine RS.cons rfl ?_)) ?_
            refine WX.next ?_
            refine WC.seq ?_
            refine WC.region ?_
            refine wlv (op_move (by decide) rfl) rfl ?_
            refine wlv (op_move (by decide) rfl) rfl ?_
            refine wlv (op_index Try.underlying52 sz22 (by decide) rfl rfl (by omega) (by omega) (by decide) (Src.own (xs := (cr.set i ⟨A2, c2, (ri.s.set place.toNat (ri.s.getD place.toNat 0 ^^^ by_))⟩).map Bs.v) (by repeat (first | exact List.Mem.head _ | apply List.Mem.tail)))) rfl ?_
            refine wlv (op_loadS fl22 (by decide) rfl (Src.own (xs := (cr.set i ⟨A2, c2, (ri.s.set place.toNat (ri.s.getD place.toNat 0 ^^^ by_))⟩).map Bs.v) (by repeat (first | exact List.Mem.head _ | apply List.Mem.tail))) (hcv _ (by omega))) rfl ?_
            refine wlv (op_move (by decide) rfl) rfl ?_
            refine wlv (op_index Try.underlying22 sz5 (by decide) rfl rfl (by omega) (by omega) (by decide) (Src.own (xs := bvs ri.s) (by repeat (first | exact List.Mem.head _ | apply List.Mem.tail)))) rfl ?_
            refine wlv (op_loadS fl5 (by decide) rfl (Src.own (xs := bvs ri.s) (by repeat (first | exact List.Mem.head _ | apply List.Mem.tail))) (bvs_at (k := place.toNat) (by omega) (by omega))) rfl ?_
            refine wlv (op_move (by decide) rfl) rfl ?_
            refine wlv (op_xor8 (by decide) rfl rfl) rfl ?_
            refine wlv (op_index Try.underlying22 sz5 (by decide) rfl rfl (by omega) (by omega) (by decide) (Src.own (xs := bvs ri.s) (by repeat (first | exact List.Mem.head _ | apply List.Mem.tail)))) rfl ?_
            refine wl (op_storeS sz5 rfl rfl (by repeat (first | exact Take.here | apply Take.there)) rfl rfl (by rw [bvs_length]; omega) (by decide)) rfl ?_
            change WL _ _ _ _ _ _ _
            refine WL.nil ?_
            refine WX.ownEq (v := .slice A2 256 c2) (bvs (ri.s.set place.toNat (ri.s.getD place.toNat 0 ^^^ by_))) (by repeat (first | exact Take.here | apply Take.there)) (bvs_put (k := place.toNat) (by omega) (by omega)) ?_
            refine WX.turn (c := own (.slice A2 256 c2) 5 1 256 (bvs (ri.s.set place.toNat (ri.s.getD place.toNat 0 ^^^ by_)))) (d := rd (.slice A2 256 c2) 1 256 (bvs (ri.s.set place.toNat (ri.s.getD place.toNat 0 ^^^ by_)))) (by repeat (first | exact Take.here | apply Take.there)) own_le_rd ?_
            refine WX.dup (c := rd (.slice A2 256 c2) 1 256 (bvs (ri.s.set place.toNat (ri.s.getD place.toNat 0 ^^^ by_)))) (d := rd (.slice A2 256 c2) 1 256 (bvs (ri.s.set place.toNat (ri.s.getD place.toNat 0 ^^^ by_)))) (by repeat (first | exact List.Mem.head _ | apply List.Mem.tail)) (by simp) (by simp) (Ch.Le.refl _) ?_
            refine WX.merge2 (c1 := rowsC false cr) (c2 := rd (.slice A2 256 c2) 1 256 (bvs (ri.s.set place.toNat (ri.s.getD place.toNat 0 ^^^ by_)))) (d := rowsC false (cr.set i ⟨A2, c2, (ri.s.set place.toNat (ri.s.getD place.toNat 0 ^^^ by_))⟩)) (by repeat (first | exact Take.here | apply Take.there)) (by repeat (first | exact Take.here | apply Take.there)) (rowsC_set (rd_le_bs hts) (fun h => by cases h)) ?_
            refine WX.regs (L' := [(0, _), (1, _), (2, _), (8, _), (10, _), (11, _), (14, _), (15, _)]) (by repeat (first | exact RS.nil | refine RS.cons rfl ?_)) ?_
            refine WX.next ?_
            refine WC.seq ?_
            refine WC.region ?_
            refine wlv (op_move (by decide) rfl) rfl ?_
            refine wlv (op_move (by decide) rfl) rfl ?_
            refine wlv (op_index Try.underlying52 sz22 (by decide) rfl rfl (by omega) (by omega) (by decide) (Src.own (xs := (cr.set i ⟨A2, c2, (ri.s.set place.toNat (ri.s.getD place.toNat 0 ^^^ by_))⟩).map Bs.v) (by repeat (first | exact List.Mem.head _ | apply List.Mem.tail)))) rfl ?_
            refine wlv (op_loadS fl22 (by decide) rfl (Src.own (xs := (cr.set i ⟨A2, c2, (ri.s.set place.toNat (ri.s.getD place.toNat 0 ^^^ by_))⟩).map Bs.v) (by repeat (first | exact List.Mem.head _ | apply List.Mem.tail))) (hcv _ (by omega))) rfl ?_
            refine wlx (op_call (f25_spec A2 256 c2 (ri.s.set place.toNat (ri.s.getD place.toNat 0 ^^^ by_)) hts) ca25 (by decide) rfl (by apply Give.mk; (repeat (first | exact Takes.nil | exact Take.here | apply Takes.cons | apply Take.there)); repeat (first | exact Reads.nil | (apply Reads.rd; (focus (repeat (first | exact List.Mem.head _ | apply List.Mem.tail)); done)) | (apply Reads.own; (focus (repeat (first | exact List.Mem.head _ | apply List.Mem.tail)); done)) | (apply Reads.rx; (focus (repeat (first | exact List.Mem.head _ | apply List.Mem.tail)); done)) | (apply Reads.rows (e := false); (focus (repeat (first | exact List.Mem.head _ | apply List.Mem.tail)); done)) | (apply Reads.rows (e := true); (focus (repeat (first | exact List.Mem.head _ | apply List.Mem.tail)); done))))) rfl ?_
            rintro ⟨Ao, co, mm, po, eo⟩ ⟨hdo, hmo⟩
            dsimp only at hdo hmo
            dsimp only
            refine wlv (op_move (by decide) rfl) rfl ?_
            refine wlv (op_extract (by decide) rfl rfl) rfl ?_
            refine wlv (op_extract (by decide) rfl rfl) rfl ?_
            refine wl1 (op_alloc ti24 (by decide)) rfl fun b4 => ?_
            refine wl (op_storeAll sz24 rfl rfl (by repeat (first | exact Take.here | apply Take.there)) (by first | rfl | (simp [Value.cells]; done) | (simp [Value.cells]; omega)) (by first | rfl | exact wvs_one _ | exact bvs_one _) (by first | rfl | (simp [Value.cells]; done) | (simp [Value.cells]; omega))) rfl ?_
            change WL _ _ _ _ _ _ _
            refine wlv (op_assign (by decide) rfl) rfl ?_
            refine WL.nil ?_
            refine WX.regs (L' := [(0, _), (1, _), (2, _), (8, _), (10, _), (11, _), (14, _), (15, _), (17, _)]) (by repeat (first | exact RS.nil | refine RS.cons rfl ?_)) ?_
            refine WX.next ?_
            refine WC.seq ?_
            refine WC.region ?_
            refine wlv (op_move (by decide) rfl) rfl ?_
            refine wlv (op_neq (by decide) rfl rfl) rfl ?_
            refine WL.nil ?_
            refine WX.dupr (v := .slice ri.A 256 ri.c) (sz := 1) (m := 256) (xs := bvs ri.s) (by repeat (first | exact List.Mem.head _ | apply List.Mem.tail)) (rd_dropB (l := 16) hr256 (by decide)) ?_
            refine WX.dupr (v := .slice A2 256 c2) (sz := 1) (m := 256) (xs := bvs (ri.s.set place.toNat (ri.s.getD place.toNat 0 ^^^ by_))) (by repeat (first | exact List.Mem.head _ | apply List.Mem.tail)) (rd_dropB (l := 16) hts (by decide)) ?_
            refine WX.regs (L' := [(0, _), (1, _), (2, _), (8, _), (10, _), (11, _), (14, _), (15, _), (109, _)]) (by repeat (first | exact RS.nil | refine RS.cons rfl ?_)) ?_
            refine WX.next ?_
            refine WC.cond rfl (fun h5 => ?_) (fun h5 => ?_)
            ·
              refine WC.seq ?_
              refine WC.drawnH mo 999 ?_
              refine WA.take (i := 0) rfl (by kernel_rfl) (fun _ _ _ h => h) rfl (op_move (by decide) rfl) (by repeat (first | exact Takes.nil | exact Take.here | apply Takes.cons | apply Take.there)) ?_
              refine WA.take (i := 1) rfl (by kernel_rfl) (fun _ _ _ h => h) rfl (op_move (by decide) rfl) (by repeat (first | exact Takes.nil | exact Take.here | apply Takes.cons | apply Take.there)) ?_
              refine WA.take (i := 2) rfl (by kernel_rfl) (fun _ _ _ h => h) rfl (op_index Try.underlying52 sz22 (by decide) rfl rfl (by omega) (by omega) (by decide) (Src.rx (xs := rb.map Bs.v) (by repeat (first | exact List.Mem.head _ | apply List.Mem.tail)))) (by repeat (first | exact Takes.nil | exact Take.here | apply Takes.cons | apply Take.there)) ?_
              refine WA.take (i := 3) rfl (by kernel_rfl) (fun _ _ _ h => h) rfl (op_loadS fl22 (by decide) rfl (Src.rx (xs := rb.map Bs.v) (by repeat (first | exact List.Mem.head _ | apply List.Mem.tail))) (hrv _ (by omega))) (by repeat (first | exact Takes.nil | exact Take.here | apply Takes.cons | apply Take.there)) ?_
              refine WA.take (i := 4) rfl (by kernel_rfl) (fun _ _ _ h => h) rfl (op_slice_l Try.underlying22 sz5 (by decide) rfl rfl (by omega) (by omega)) (by repeat (first | exact Takes.nil | exact Take.here | apply Takes.cons | apply Take.there)) ?_
              refine WA.take (i := 5) rfl (by kernel_rfl) (fun _ _ _ h => h) rfl (op_move (by decide) rfl) (by repeat (first | exact Takes.nil | exact Take.here | apply Takes.cons | apply Take.there)) ?_
              refine WA.take (i := 6) rfl (by kernel_rfl) (fun _ _ _ h => h) rfl (op_move (by decide) rfl) (by repeat (first | exact Takes.nil | exact Take.here | apply Takes.cons | apply Take.there)) ?_
              refine WA.take (i := 7) rfl (by kernel_rfl) (fun _ _ _ h => h) rfl (op_index Try.underlying52 sz22 (by decide) rfl rfl (by omega) (by omega) (by decide) (Src.own (xs := (cr.set i ⟨A2, c2, (ri.s.set place.toNat (ri.s.getD place.toNat 0 ^^^ by_))⟩).map Bs.v) (by repeat (first | exact List.Mem.head _ | apply List.Mem.tail)))) (by repeat (first | exact Takes.nil | exact Take.here | apply Takes.cons | apply Take.there)) ?_
              refine WA.take (i := 8) rfl (by kernel_rfl) (fun _ _ _ h => h) rfl (op_loadS fl22 (by decide) rfl (Src.own (xs := (cr.set i ⟨A2, c2, (ri.s.set place.toNat (ri.s.getD place.toNat 0 ^^^ by_))⟩).map Bs.v) (by repeat (first | exact List.Mem.head _ | apply List.Mem.tail))) (hcv _ (by omega))) (by repeat (first | exact Takes.nil | exact Take.here | apply Takes.cons | apply Take.there)) ?_
              refine WA.take (i := 9) rfl (by kernel_rfl) (fun _ _ _ h => h) rfl (op_slice_l Try.underlying22 sz5 (by decide) rfl rfl (by omega) (by omega)) (by repeat (first | exact Takes.nil | exact Take.here | apply Takes.cons | apply Take.there)) ?_
              refine WA.stepx (i := 10) (by kernel_rfl) rfl rfl (op_call (f26_spec _ _ 240 _ 240 _ (ri.s.drop 16) ((ri.s.set place.toNat (ri.s.getD place.toNat 0 ^^^ by_)).drop 16) (by rw [List.length_drop]; omega) (by rw [List.length_drop]; omega) (by decide) (by decide)) ca26 (by decide) rfl (by apply Give.mk; (repeat (first | exact Takes.nil | exact Take.here | apply Takes.cons | apply Take.there)); repeat (first | exact Reads.nil | (apply Reads.rd; (focus (repeat (first | exact List.Mem.head _ | apply List.Mem.tail)); done)) | (apply Reads.own; (focus (repeat (first | exact List.Mem.head _ | apply List.Mem.tail)); done)) | (apply Reads.rx; (focus (repeat (first | exact List.Mem.head _ | apply List.Mem.tail)); done)) | (apply Reads.rows (e := false); (focus (repeat (first | exact List.Mem.head _ | apply List.Mem.tail)); done)) | (apply Reads.rows (e := true); (focus (repeat (first | exact List.Mem.head _ | apply List.Mem.tail)); done))))) (fun _ r => (by repeat (first | exact Takes.nil | exact Take.here | apply Takes.cons | apply Take.there))) ?_
              rintro _ rfl
              refine WA.take (i := 11) rfl (by kernel_rfl) (fun _ _ _ h => h) rfl (op_assign (by decide) rfl) (by repeat (first | exact Takes.nil | exact Take.here | apply Takes.cons | apply Take.there)) ?_
              refine WA.done (by kernel_rfl) ?_
              refine WX.regs (L' := [(6, _)]) (by repeat (first | exact RS.nil | refine RS.cons rfl ?_)) ?_
              refine WX.next ?_
              refine WC.ret ?_
              refine WX.in_ret ?_
              refine WX.then_ret ?_
              refine WX.then_ret ?_
              refine WX.in_ret ?_
              refine WX.then_ret ?_
              exact Fin.ret1 (by first | exact .inl rfl | exact .inr rfl) (_) (decide_eq_true ((tamper (a := ri.s) (b := (ri.s.set place.toNat (ri.s.getD place.toNat 0 ^^^ by_))) hr256 hts (recs_sum _ _ hrs) (set_ne (by omega) h3) (set_part _ _ _)).resolve_left (fun k => h5 (by rw [← k, ← hdo])))) Try.results12 (.tmp rfl) (by repeat (first | exact Takes.nil | exact Take.here | apply Takes.cons | apply Take.there)) (by simp)
            ·
              refine WC.skip ?_
              refine WX.in_normal ?_
              refine WX.next ?_
              refine WC.region ?_
              refine wlv (op_move (by decide) rfl) rfl ?_
              refine wlv (op_add (by decide) rfl rfl (by omega)) rfl ?_
              refine wlv (op_assign (by decide) rfl) rfl ?_
              refine WL.nil ?_
              refine WX.regs (L' := [(0, _), (1, _), (2, _), (8, _), (10, _), (11, _), (14, _), (15, _)]) (by repeat (first | exact RS.nil | refine RS.cons rfl ?_)) ?_
              refine WX.meet ((i + 1, cr.set i ⟨A2, c2, (ri.s.set place.toNat (ri.s.getD place.toNat 0 ^^^ by_))⟩)) ⟨⟨by simp only []; omega, by simp only []; omega, by simp only [List.length_set]; exact hcl, fun j hj => by simp only []; rw [List.getElem?_set_ne (by omega)]; exact hcp j hj, fun _ => by simp only []; rcases Nat.lt_or_ge pos i with hlt | hge; (rw [List.getElem?_set_ne (by omega)]; exact hcd hlt); (obtain rfl : pos = i := by omega); exact ⟨_, List.getElem?_set_self (by omega), by simp only []; rw [← hdo]; exact Decidable.not_not.1 h5⟩⟩, by simp only []; omega⟩ (fun a w hs => hs.sub (by repeat (first | exact RS.nil | refine RS.cons (by first | rfl | exact congrArg (fun z : Int => some (Value.int .i64 z)) (by omega)) ?_)) (by repeat (first | exact Takes.nil | exact Take.here | apply Takes.cons | apply Take.there)))
          ·
            refine WC.exit ?_
            refine WX.then_exit ?_
            refine WX.then_exit ?_
            refine WX.in_hit ?_
            refine WX.turn (c := own (.slice A1 rb.length c1) 22 1 rb.length (cr.map Bs.v)) (d := rd (.slice A1 rb.length c1) 1 rb.length (cr.map Bs.v)) (by repeat (first | exact Take.here | apply Take.there)) own_le_rd ?_
            rw [← hcl]
            refine WX.meet ((A1, c1, cr)) (⟨by simp only []; omega, by have h := hlos (cr.map Bs.s) (fun j hj => by rw [List.getElem?_map, List.getElem?_map, hcp j hj]) (.inr (by obtain ⟨r, h1, h2⟩ := hcd (by omega); exact ⟨r.s, by rw [List.getElem?_map, h1]; rfl, h2⟩)); rwa [List.length_map] at h⟩) (fun a w hs => hs.sub (by repeat (first | exact RS.nil | refine RS.cons (by first | rfl | exact congrArg (fun z : Int => some (Value.int .i64 z)) (by omega)) ?_)) (by repeat (first | exact Takes.nil | exact Take.here | apply Takes.cons | apply Take.there)))
        ·
          refine WC.skip ?_
          obtain ⟨rt, hrt⟩ : ∃ rt, rt = rb.take pos := ⟨_, rfl⟩
          have hrtl : rt.length = pos := by rw [hrt, List.length_take]; omega
          refine WX.turn (c := rx (.slice Ab rb.length cb) 1 rb.length (rb.map Bs.v)) (d := rd (.slice Ab pos cb) 1 pos (rt.map Bs.v)) (by repeat (first | exact Take.here | apply Take.there)) (by have k := rd_takeR (A := Ab) (c := cb) (M := rb.length) (h := pos) (rs := rb) (by omega); rw [sliced0, Nat.sub_zero, ← hrt] at k; exact k.trans rx_le_rd) ?_
          refine WX.turn (c := rowsC false rb) (d := rowsC false rt) (by repeat (first | exact Take.here | apply Take.there)) (rowsC_sub fun r hr => by rw [hrt] at hr; exact List.mem_of_mem_take hr) ?_
          rw [← hrtl]
          refine WX.meet ((Ab, cb, rt)) (⟨by simp only []; omega, by have h := hlos (rt.map Bs.s) (fun j hj => by rw [hrt, List.map_take, List.getElem?_take_of_lt hj]) (.inl (by rw [List.length_map]; exact hrtl)); rwa [List.length_map] at h⟩) (fun a w hs => hs.sub (by repeat (first | exact RS.nil | refine RS.cons (by first | rfl | exact congrArg (fun z : Int => some (Value.int .i64 z)) (by omega)) ?_)) (by repeat (first | exact Takes.nil | exact Take.here | apply Takes.cons | apply Take.there)))
      · rintro ⟨Aq, cq, cr⟩ ⟨hcr, hcr2⟩
        try dsimp only at hcr hcr2 ⊢
        refine WC.seq ?_
        refine WC.region ?_
        refine wlv (op_move (by decide) rfl) rfl ?_
        refine wlx (op_call (f39_spec 5 7 Aq cr.length cq cr rfl (by omega)) ca39 (by decide) rfl (by apply Give.mk; (repeat (first | exact Takes.nil | exact Take.here | apply Takes.cons | apply Take.there)); repeat (first | exact Reads.nil | (apply Reads.rd; (focus (repeat (first | exact List.Mem.head _ | apply List.Mem.tail)); done)) | (apply Reads.own; (focus (repeat (first | exact List.Mem.head _ | apply List.Mem.tail)); done)) | (apply Reads.rx; (focus (repeat (first | exact List.Mem.head _ | apply List.Mem.tail)); done)) | (apply Reads.rows (e := false); (focus (repeat (first | exact List.Mem.head _ | apply List.Mem.tail)); done)) | (apply Reads.rows (e := true); (focus (repeat (first | exact List.Mem.head _ | apply List.Mem.tail)); done))))) rfl ?_
        rintro ⟨As, cs, l, ns, es⟩ hs1
        dsimp only at hs1
        obtain ⟨e, hsc, hiff⟩ := hcr2
        rw [hsc, Prod.mk.injEq, Prod.mk.injEq] at hs1
        obtain ⟨hsl, rfl, rfl⟩ := hs1
        have hll : l.length = wh := by rw [← List.length_map (f := Rs.r), hsl, rcds_length, pls_length (by omega)]
        dsimp only
        refine wlv (op_move (by decide) rfl) rfl ?_
        refine wlv (op_extract (by decide) rfl rfl) rfl ?_
        refine wlv (op_extract (by decide) rfl rfl) rfl ?_
        refine wlv (op_extract (by decide) rfl rfl) rfl ?_
        refine wlv (op_assign (by decide) rfl) rfl ?_
        refine wlv (op_assign (by decide) rfl) rfl ?_
        refine wlv (op_assign (by decide) rfl) rfl ?_
        refine WL.nil ?_
        refine WX.regs (L' := [(0, _), (10, _), (11, _), (14, _), (18, _), (19, _), (20, _)]) (by repeat (first | exact RS.nil | refine RS.cons rfl ?_)) ?_
        refine WX.next ?_
        refine WC.seq ?_
        refine WC.seq ?_
        refine WC.region ?_
        refine wlv (op_move (by decide) rfl) rfl ?_
        refine wlv (op_len Try.underlying77 (by decide) rfl) rfl ?_
        refine wlv (op_move (by decide) rfl) rfl ?_
        refine wlv (op_neq (by decide) rfl rfl) rfl ?_
        refine wlv (op_move (by decide) rfl) rfl ?_
        refine WL.split (t := 131) rfl (fun g131 => ?_) (fun g131 => ?_)
        ·
          omega
        ·
          refine wlgv (op_move (by decide) rfl) rfl rfl rfl ?_
          refine wlgv (op_move (by decide) rfl) rfl rfl rfl ?_
          refine wlgv (op_neq (by decide) rfl rfl) rfl rfl rfl ?_
          refine wlv (op_pickF (by decide) rfl rfl) rfl ?_
          refine wlv (op_move (by decide) rfl) rfl ?_
          refine WL.split (t := 136) rfl (fun g136 => ?_) (fun g136 => ?_)
          ·
            omega
          ·
            refine wlgv (op_move (by decide) rfl) rfl rfl rfl ?_
            refine wlgv (op_eql (by decide) rfl rfl) rfl rfl rfl ?_
            refine wlgv (op_move (by decide) rfl) rfl rfl rfl ?_
            refine wlgv (op_len Try.underlying52 (by decide) rfl) rfl rfl rfl ?_
            refine wlgv (op_move (by decide) rfl) rfl rfl rfl ?_
            refine wlgv (op_eql (by decide) rfl rfl) rfl rfl rfl ?_
            refine wlgv (op_neqb (by decide) rfl rfl Try.underlying4) rfl rfl rfl ?_
            refine wlv (op_pickF (by decide) rfl rfl) rfl ?_
            refine WL.nil ?_
            refine WX.regs (L' := [(0, _), (10, _), (18, _), (144, _)]) (by repeat (first | exact RS.nil | refine RS.cons rfl ?_)) ?_
            refine WX.next ?_
            refine WC.condb rfl (fun h6 => ?_) (fun h6 => ?_)
            ·
              refine WC.seq ?_
              refine WC.region ?_
              refine wlv (op_assign (by decide) rfl) rfl ?_
              refine WL.nil ?_
              refine WX.regs (L' := [(6, _)]) (by repeat (first | exact RS.nil | refine RS.cons rfl ?_)) ?_
              refine WX.next ?_
              refine WC.ret ?_
              refine WX.then_ret ?_
              exact Fin.ret1 (by first | exact .inl rfl | exact .inr rfl) (_) (by exfalso; by_cases hes : es = 0; (have hz := hiff.1 hes; simp [hes, hz] at h6); (have hz : ¬ ((cr.length : Nat) : Int) = ((needs (pls (ps.map Bs.s) wh) : Nat) : Int) := fun k => hes (hiff.2 (by omega)); simp [hes] at h6; omega)) Try.results12 (.tmp rfl) (by repeat (first | exact Takes.nil | exact Take.here | apply Takes.cons | apply Take.there)) (by simp)
            ·
              refine WC.skip ?_
              refine WX.next ?_
              refine WC.seq ?_
              refine WC.seq ?_
              refine WC.region ?_
              refine wlv (op_assign (by decide) rfl) rfl ?_
              refine WL.nil ?_
              refine WX.regs (L' := [(0, _), (10, _), (18, _), (21, _)]) (by repeat (first | exact RS.nil | refine RS.cons rfl ?_)) ?_
              refine WX.next ?_
              refine WC.block ?_
              refine WC.turn (c := own (.slice As l.length cs) 50 4 l.length (l.flatMap Rs.cells)) (d := rd (.slice As l.length cs) 4 l.length (l.flatMap Rs.cells)) (by repeat (first | exact Take.here | apply Take.there)) own_le_rd ?_
              refine WC.turn (c := rowsC true (l.map Rs.b)) (d := rowsC false (l.map Rs.b)) (by repeat (first | exact Take.here | apply Take.there)) (rowsC_read fun _ h => h) ?_
              refine WC.loop (X := Nat) (fun q => wh - q) (fun q => q ≤ wh) (fun q => [(0, .slice AP MP cP), (10, .int .i64 (wh : Int)), (18, .slice As l.length cs), (21, .int .i64 (q : Int))]) (fun q => [rd (.slice As l.length cs) 4 l.length (l.flatMap Rs.cells), rowsC false (l.map Rs.b), rd (.slice AP MP cP) 1 MP (ps.map Bs.v), rowsC false ps, frameC w0 (MutF [])]) (0) (Nat.zero_le _) (fun a w hs => hs.sub (by repeat (first | exact RS.nil | refine RS.cons (by first | rfl | exact congrArg (fun z : Int => some (Value.int .i64 z)) (by omega)) ?_)) (by repeat (first | exact Takes.nil | exact Take.here | apply Takes.cons | apply Take.there))) ?_
              rintro i hi
              try dsimp only
              refine WC.seq ?_
              refine WC.seq ?_
              refine WC.region ?_
              refine wlv (op_move (by decide) rfl) rfl ?_
              refine wlv (op_move (by decide) rfl) rfl ?_
              refine wlv (op_lss (by decide) rfl rfl) rfl ?_
              refine WL.nil ?_
              refine WX.regs (L' := [(0, _), (10, _), (18, _), (21, _), (147, _)]) (by repeat (first | exact RS.nil | refine RS.cons rfl ?_)) ?_
              refine WX.next ?_
              refine WC.cond rfl (fun h7 => ?_) (fun h7 => ?_)
              ·
                obtain ⟨ri, hri⟩ : ∃ r, ps[i]? = some r := ⟨ps[i]'(by omega), List.getElem?_eq_getElem _⟩
                have hrs2 := ss_getD hri
                obtain ⟨ra, hra⟩ : ∃ r, l[i]? = some r := ⟨l[i]'(by omega), List.getElem?_eq_getElem _⟩
                have har : ra.r = ⟨0, 5, 7 + (i : Int), ri.s.take 600⟩ := by have h := congrArg (fun z => z[i]?) hsl; simp only [List.getElem?_map, hra, Option.map_some] at h; rw [rcds_at (pls_at (by omega) (by omega)), hrs2] at h; exact Option.some.inj h
                simp only [Rs.r, Rcd.mk.injEq] at har
                obtain ⟨_, _, har3, har4⟩ := har
                have hfl : ∀ j k, k < 4 → j = i * 4 + k → (l.flatMap Rs.cells)[j]? = ra.cells[k]? := fun j k hk hj => by rw [hj]; exact flat_get (f := Rs.cells) (sz := 4) (fun _ => rfl) hra hk
                refine WC.dup (c := rowsC false (l.map Rs.b)) (d := rd (.slice ra.b.A ra.b.s.length ra.b.c) 1 ra.b.s.length (bvs ra.b.s)) (by repeat (first | exact List.Mem.head _ | apply List.Mem.tail)) rfl (by simp) (rowsC_get (r := ra.b) (List.mem_map_of_mem (List.mem_of_getElem? hra))) ?_
                refine WC.dup (c := rowsC false ps) (d := rd (.slice ri.A ri.s.length ri.c) 1 ri.s.length (bvs ri.s)) (by repeat (first | exact List.Mem.head _ | apply List.Mem.tail)) rfl (by simp) (rowsC_get (r := ri) (List.mem_of_getElem? hri)) ?_
                refine WC.capx (A := ri.A) (m := ri.s.length) (c := ri.c) (Src.rd (xs := bvs ri.s) (by repeat (first | exact List.Mem.head _ | apply List.Mem.tail))) (fun hcap => ?_)
                refine WC.dup (c := rd (.slice ri.A ri.s.length ri.c) 1 ri.s.length (bvs ri.s)) (d := rd (sliced ri.A 0 (min ri.s.length 600) ri.c 1) 1 (min ri.s.length 600 - 0) (bvs ((ri.s.drop 0).take (min ri.s.length 600 - 0)))) (by repeat (first | exact List.Mem.head _ | apply List.Mem.tail)) (by simp) (by simp) (rd_subB (l := 0) (h := min ri.s.length 600) (Nat.zero_le _) (Nat.min_le_left _ _)) ?_
                have htm := take_min ri.s ri.s.length 600 rfl
                refine WC.skip ?_
                refine WX.next ?_
                refine WC.seq ?_
                refine WC.block ?_
                refine WC.seq ?_
                refine WC.drawnH mo 999 ?_
                refine WA.take (i := 0) rfl (by kernel_rfl) (fun _ _ _ h => h) rfl (op_move (by decide) rfl) (by repeat (first | exact Takes.nil | exact Take.here | apply Takes.cons | apply Take.there)) ?_
                refine WA.take (i := 1) rfl (by kernel_rfl) (fun _ _ _ h => h) rfl (op_move (by decide) rfl) (by repeat (first | exact Takes.nil | exact Take.here | apply Takes.cons | apply Take.there)) ?_
                refine WA.take (i := 2) rfl (by kernel_rfl) (fun _ _ _ h => h) rfl (op_index Try.underlying77 sz50 (by decide) rfl rfl (by omega) (by omega) (by decide) (Src.rd (xs := l.flatMap Rs.cells) (by repeat (first | exact List.Mem.head _ | apply List.Mem.tail)))) (by repeat (first | exact Takes.nil | exact Take.here | apply Takes.cons | apply Take.there)) ?_
                refine WA.take (i := 3) rfl (by kernel_rfl) (fun _ _ _ h => h) rfl (op_fieldAddrS fo50_2 (by decide) rfl (Src.rd (xs := l.flatMap Rs.cells) (by repeat (first | exact List.Mem.head _ | apply List.Mem.tail))) (by rw [flat_len (f := Rs.cells) (sz := 4) (fun _ => rfl)]; omega)) (by repeat (first | exact Takes.nil | exact Take.here | apply Takes.cons | apply Take.there)) ?_
                refine WA.take (i := 4) rfl (by kernel_rfl) (fun _ _ _ h => h) rfl (op_loadS fl3 (by decide) rfl (Src.rd (xs := l.flatMap Rs.cells) (by repeat (first | exact List.Mem.head _ | apply List.Mem.tail))) ((hfl _ 2 (by decide) (by omega)).trans rfl)) (by repeat (first | exact Takes.nil | exact Take.here | apply Takes.cons | apply Take.there)) ?_
                refine WA.take (i := 5) rfl (by kernel_rfl) (fun _ _ _ h => h) rfl (op_move (by decide) rfl) (by repeat (first | exact Takes.nil | exact Take.here | apply Takes.cons | apply Take.there)) ?_
                refine WA.take (i := 6) rfl (by kernel_rfl) (fun _ _ _ h => h) rfl (op_add (by decide) rfl rfl (by omega)) (by repeat (first | exact Takes.nil | exact Take.here | apply Takes.cons | apply Take.there)) ?_
                refine WA.take (i := 7) rfl (by kernel_rfl) (fun _ _ _ h => h) rfl (op_neq (by decide) rfl rfl) (by repeat (first | exact Takes.nil | exact Take.here | apply Takes.cons | apply Take.there)) ?_
                refine WA.take (i := 8) rfl (by kernel_rfl) (fun _ _ _ h => h) rfl (op_move (by decide) rfl) (by repeat (first | exact Takes.nil | exact Take.here | apply Takes.cons | apply Take.there)) ?_
                refine WA.split (t := 158) rfl (fun g158 => ?_) (fun g158 => ?_)
                ·
                  omega
                ·
                  refine WA.takeG (i := 9) rfl (by kernel_rfl) (fun _ _ _ h => h) rfl rfl rfl (op_move (by decide) rfl) (by repeat (first | exact Takes.nil | exact Take.here | apply Takes.cons | apply Take.there)) ?_
                  refine WA.takeG (i := 10) rfl (by kernel_rfl) (fun _ _ _ h => h) rfl rfl rfl (op_move (by decide) rfl) (by repeat (first | exact Takes.nil | exact Take.here | apply Takes.cons | apply Take.there)) ?_
                  refine WA.takeG (i := 11) rfl (by kernel_rfl) (fun _ _ _ h => h) rfl rfl rfl (op_index Try.underlying77 sz50 (by decide) rfl rfl (by omega) (by omega) (by decide) (Src.rd (xs := l.flatMap Rs.cells) (by repeat (first | exact List.Mem.head _ | apply List.Mem.tail)))) (by repeat (first | exact Takes.nil | exact Take.here | apply Takes.cons | apply Take.there)) ?_
                  refine WA.takeG (i := 12) rfl (by kernel_rfl) (fun _ _ _ h => h) rfl rfl rfl (op_fieldAddrS fo50_3 (by decide) rfl (Src.rd (xs := l.flatMap Rs.cells) (by repeat (first | exact List.Mem.head _ | apply List.Mem.tail))) (by rw [flat_len (f := Rs.cells) (sz := 4) (fun _ => rfl)]; omega)) (by repeat (first | exact Takes.nil | exact Take.here | apply Takes.cons | apply Take.there)) ?_
                  refine WA.takeG (i := 13) rfl (by kernel_rfl) (fun _ _ _ h => h) rfl rfl rfl (op_loadS fl22 (by decide) rfl (Src.rd (xs := l.flatMap Rs.cells) (by repeat (first | exact List.Mem.head _ | apply List.Mem.tail))) ((hfl _ 3 (by decide) (by omega)).trans rfl)) (by repeat (first | exact Takes.nil | exact Take.here | apply Takes.cons | apply Take.there)) ?_
                  refine WA.takeG (i := 14) rfl (by kernel_rfl) (fun _ _ _ h => h) rfl rfl rfl (op_bytesStr Try.underlying22 Try.underlying5 Try.underlying9 (by decide) rfl (by first | (apply Src.rd; (repeat (first | exact List.Mem.head _ | apply List.Mem.tail)); done) | (apply Src.own; (repeat (first | exact List.Mem.head _ | apply List.Mem.tail)); done) | (apply Src.rx; (repeat (first | exact List.Mem.head _ | apply List.Mem.tail)); done))) (by repeat (first | exact Takes.nil | exact Take.here | apply Takes.cons | apply Take.there)) ?_
                  refine WA.takeG (i := 15) rfl (by kernel_rfl) (fun _ _ _ h => h) rfl rfl rfl (op_move (by decide) rfl) (by repeat (first | exact Takes.nil | exact Take.here | apply Takes.cons | apply Take.there)) ?_
                  refine WA.takeG (i := 16) rfl (by kernel_rfl) (fun _ _ _ h => h) rfl rfl rfl (op_move (by decide) rfl) (by repeat (first | exact Takes.nil | exact Take.here | apply Takes.cons | apply Take.there)) ?_
                  refine WA.takeG (i := 17) rfl (by kernel_rfl) (fun _ _ _ h => h) rfl rfl rfl (op_index Try.underlying52 sz22 (by decide) rfl rfl (by omega) (by omega) (by decide) (Src.rd (xs := ps.map Bs.v) (by repeat (first | exact List.Mem.head _ | apply List.Mem.tail)))) (by repeat (first | exact Takes.nil | exact Take.here | apply Takes.cons | apply Take.there)) ?_
                  refine WA.takeG (i := 18) rfl (by kernel_rfl) (fun _ _ _ h => h) rfl rfl rfl (op_loadS fl22 (by decide) rfl (Src.rd (xs := ps.map Bs.v) (by repeat (first | exact List.Mem.head _ | apply List.Mem.tail))) (rows_at' hri (by omega))) (by repeat (first | exact Takes.nil | exact Take.here | apply Takes.cons | apply Take.there)) ?_
                  refine WA.takeG (i := 19) rfl (by kernel_rfl) (fun _ _ _ h => h) rfl rfl rfl (op_move (by decide) rfl) (by repeat (first | exact Takes.nil | exact Take.here | apply Takes.cons | apply Take.there)) ?_
                  refine WA.takeG (i := 20) rfl (by kernel_rfl) (fun _ _ _ h => h) rfl rfl rfl (op_move (by decide) rfl) (by repeat (first | exact Takes.nil | exact Take.here | apply Takes.cons | apply Take.there)) ?_
                  refine WA.takeG (i := 21) rfl (by kernel_rfl) (fun _ _ _ h => h) rfl rfl rfl (op_index Try.underlying52 sz22 (by decide) rfl rfl (by omega) (by omega) (by decide) (Src.rd (xs := ps.map Bs.v) (by repeat (first | exact List.Mem.head _ | apply List.Mem.tail)))) (by repeat (first | exact Takes.nil | exact Take.here | apply Takes.cons | apply Take.there)) ?_
                  refine WA.takeG (i := 22) rfl (by kernel_rfl) (fun _ _ _ h => h) rfl rfl rfl (op_loadS fl22 (by decide) rfl (Src.rd (xs := ps.map Bs.v) (by repeat (first | exact List.Mem.head _ | apply List.Mem.tail))) (rows_at' hri (by omega))) (by repeat (first | exact Takes.nil | exact Take.here | apply Takes.cons | apply Take.there)) ?_
                  refine WA.takeG (i := 23) rfl (by kernel_rfl) (fun _ _ _ h => h) rfl rfl rfl (op_len Try.underlying22 (by decide) rfl) (by repeat (first | exact Takes.nil | exact Take.here | apply Takes.cons | apply Take.there)) ?_
                  refine WA.takeG (i := 24) rfl (by kernel_rfl) (fun _ _ _ h => h) rfl rfl rfl (op_minN (a := ri.s.length) (b := 600) (by decide) rfl rfl) (by repeat (first | exact Takes.nil | exact Take.here | apply Takes.cons | apply Take.there)) ?_
                  refine WA.takeG (i := 25) rfl (by kernel_rfl) (fun _ _ _ h => h) rfl rfl rfl (op_slice_h Try.underlying22 sz5 (by decide) rfl rfl (by omega) (by omega)) (by repeat (first | exact Takes.nil | exact Take.here | apply Takes.cons | apply Take.there)) ?_
                  refine WA.takeG (i := 26) rfl (by kernel_rfl) (fun _ _ _ h => h) rfl rfl rfl (op_bytesStr Try.underlying22 Try.underlying5 Try.underlying9 (by decide) rfl (by first | (apply Src.rd; (repeat (first | exact List.Mem.head _ | apply List.Mem.tail)); done) | (apply Src.own; (repeat (first | exact List.Mem.head _ | apply List.Mem.tail)); done) | (apply Src.rx; (repeat (first | exact List.Mem.head _ | apply List.Mem.tail)); done))) (by repeat (first | exact Takes.nil | exact Take.here | apply Takes.cons | apply Take.there)) ?_
                  refine WA.takeG (i := 27) rfl (by kernel_rfl) (fun _ _ _ h => h) rfl rfl rfl (op_neqs (by decide) rfl rfl) (by repeat (first | exact Takes.nil | exact Take.here | apply Takes.cons | apply Take.there)) ?_
                  refine WA.take (i := 28) rfl (by kernel_rfl) (fun _ _ _ h => h) rfl (op_pickF (by decide) rfl rfl) (by repeat (first | exact Takes.nil | exact Take.here | apply Takes.cons | apply Take.there)) ?_
                  refine WA.done (by kernel_rfl) ?_
                  refine WX.regs (L' := [(0, _), (10, _), (18, _), (21, _), (178, _)]) (by repeat (first | exact RS.nil | refine RS.cons rfl ?_)) ?_
                  refine WX.next ?_
                  refine WC.cond rfl (fun h8 => ?_) (fun h8 => ?_)
                  ·
                    refine WC.seq ?_
                    refine WC.region ?_
                    refine wlv (op_assign (by decide) rfl) rfl ?_
                    refine WL.nil ?_
                    refine WX.regs (L' := [(6, _)]) (by repeat (first | exact RS.nil | refine RS.cons rfl ?_)) ?_
                    refine WX.next ?_
                    refine WC.ret ?_
                    refine WX.in_ret ?_
                    refine WX.then_ret ?_
                    refine WX.then_ret ?_
                    refine WX.in_ret ?_
                    refine WX.then_ret ?_
                    exact Fin.ret1 (by first | exact .inl rfl | exact .inr rfl) (_) (by exfalso; exact h8 (by rw [har4, htm])) Try.results12 (.tmp rfl) (by repeat (first | exact Takes.nil | exact Take.here | apply Takes.cons | apply Take.there)) (by simp)
                  ·
                    refine WC.skip ?_
                    refine WX.in_normal ?_
                    refine WX.next ?_
                    refine WC.region ?_
                    refine wlv (op_move (by decide) rfl) rfl ?_
                    refine wlv (op_add (by decide) rfl rfl (by omega)) rfl ?_
                    refine wlv (op_assign (by decide) rfl) rfl ?_
                    refine WL.nil ?_
                    refine WX.regs (L' := [(0, _), (10, _), (18, _), (21, _)]) (by repeat (first | exact RS.nil | refine RS.cons rfl ?_)) ?_
                    refine WX.meet (i + 1) ⟨by omega, by omega⟩ (fun a w hs => hs.sub (by repeat (first | exact RS.nil | refine RS.cons (by first | rfl | exact congrArg (fun z : Int => some (Value.int .i64 z)) (by omega)) ?_)) (by repeat (first | exact Takes.nil | exact Take.here | apply Takes.cons | apply Take.there)))
              ·
                refine WC.exit ?_
                refine WX.then_exit ?_
                refine WX.then_exit ?_
                refine WX.in_hit ?_
                refine WX.next ?_
                refine WC.seq ?_
                refine WC.region ?_
                refine wlv (op_assign (by decide) rfl) rfl ?_
                refine WL.nil ?_
                refine WX.regs (L' := [(6, _)]) (by repeat (first | exact RS.nil | refine RS.cons rfl ?_)) ?_
                refine WX.next ?_
                refine WC.ret ?_
                exact Fin.ret1 (by first | exact .inl rfl | exact .inr rfl) (_) (rfl) Try.results12 (.tmp rfl) (by repeat (first | exact Takes.nil | exact Take.here | apply Takes.cons | apply Take.there)) (by simp)
end Go.Proofs.Ythephcghglldaaa.Sx
