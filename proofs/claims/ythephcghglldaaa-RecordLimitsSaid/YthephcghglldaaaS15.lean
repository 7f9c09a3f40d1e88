import Derived.Test.YthephcghglldaaaS14
set_option linter.unusedVariables false
set_option linter.unusedSimpArgs false
namespace Go.Proofs.Ythephcghglldaaa.Sx
open Go.RowKit Go.Proofs.Ythephcghglldaaa.Ty
attribute [local irreducible] blk own rd rx frameC

def need (m : Nat) : Nat := max 1 ((m + 223) / 224)
def chunk (p : List UInt8) (i : Nat) : List UInt8 := (p.drop (i * 224)).take (min ((i + 1) * 224) p.length - i * 224)
def sect (k g n : Int) (p : List UInt8) (i : Nat) : List UInt8 := enc k.toNat g.toNat n.toNat i (need p.length) (chunk p i)
def sects (k g n : Int) (p : List UInt8) : List (List UInt8) := (List.range (need p.length)).map (sect k g n p)
def split (k g n : Int) (p : List UInt8) : List (List UInt8) × Int :=
  if ¬ fineP k g n then ([], 2) else if p.length > 131072 then ([], 5) else (sects k g n p, 0)
theorem need_le {m : Nat} (h : m ≤ 131072) : 1 ≤ need m ∧ need m ≤ 586 := by unfold need; omega
theorem chunk_length (p : List UInt8) (i : Nat) : (chunk p i).length = min ((i + 1) * 224) p.length - i * 224 := by
  simp only [chunk, List.length_take, List.length_drop]; omega
theorem chk_part {k g n : Int} {p : List UInt8} {i : Nat} (hf : fineP k g n) (hp : p.length ≤ 131072) (hi : i < need p.length) : chk k g n i (need p.length) (chunk p i).length = 0 := by
  have hn := need_le hp
  have hl := chunk_length p i
  have hi2 := hi
  generalize (chunk p i).length = l at *
  have hb : i * 224 < p.length ∨ (i = 0 ∧ p.length = 0) := by unfold need at hi2; omega
  have hc : ¬ i = need p.length - 1 → (i + 1) * 224 < p.length := by unfold need at *; omega
  have hd : i = need p.length - 1 → p.length ≤ (i + 1) * 224 := by unfold need at *; omega
  have he : need p.length > 1 → 224 < p.length := by unfold need at *; omega
  generalize need p.length = c at *
  unfold chk
  rw [if_neg (by simp only [fineP] at *; omega), if_neg (by omega), if_neg (by omega), if_neg (by omega)]
theorem range_push {α : Type} (f : Nat → α) (i : Nat) : (List.range (i + 1)).map f = (List.range i).map f ++ [f i] := by simp [List.range_succ]
theorem map_push (rs : List Bs) (r : Bs) : rs.map Bs.v ++ [r.v] = (rs ++ [r]).map Bs.v := by simp
theorem len_push (rs : List Bs) (r : Bs) : rs.length + 1 = (rs ++ [r]).length := by simp
section
variable {P : Program} {n : Nat} {L : List (Nat × Value)} {H : List Ch} {d : Nat} {ty : TypeId} {pos : String} {af : Array Edge} {g : Option (Nat × Bool)} {x y : Operand} {t : TypeId} {ats : Array TypeId}
theorem op_minN {k : IntKind} {a b : Nat} (hn : d < n) (hx : evr L x = some (.int k (a : Int))) (hy : evr L y = some (.int k (b : Int))) :
    Val P ⟨some d, .call { callee := .builtin .min, args := #[x, y], argTypes := ats }, ty, pos, af, g⟩ n L H d (.int k ((min a b : Nat) : Int)) := by
  have h := op_min (P := P) (H := H) (t := 0) (ty := ty) (pos := pos) (af := af) (g := g) (ats := ats) hn hx hy
  have e : min (a : Int) (b : Int) = ((min a b : Nat) : Int) := by omega
  rw [e] at h
  exact h
theorem op_maxN {k : IntKind} {a b : Nat} (hn : d < n) (hx : evr L x = some (.int k (a : Int))) (hy : evr L y = some (.int k (b : Int))) :
    Val P ⟨some d, .call { callee := .builtin .max, args := #[x, y], argTypes := ats }, ty, pos, af, g⟩ n L H d (.int k ((max a b : Nat) : Int)) := by
  have h := op_max (P := P) (H := H) (t := 0) (ty := ty) (pos := pos) (af := af) (g := g) (ats := ats) hn hx hy
  have e : max (a : Int) (b : Int) = ((max a b : Nat) : Int) := by omega
  rw [e] at h
  exact h
end
set_option maxHeartbeats 400000 in
set_option maxRecDepth 10000 in
theorem f33_spec (m : Nat) (hm : m ≤ 1000000) :
    Spec Try.prog 33 [.int .i64 (m : Int)] [] [] (R := Unit) (fun _ => True) (fun _ => .int .i64 ((need m : Nat) : Int)) (fun _ => []) := by
  refine Spec.intro Try.func33 Try.ntmps33 rfl (by simp) (by simp) fun w0 => ?_
  refine WC.seq ?_
  refine WC.region ?_
  refine wlv (op_assign (by decide) rfl) rfl ?_
  refine WL.nil ?_
  refine WX.regs (L' := [(0, _)]) (by repeat (first | exact RS.nil | refine RS.cons rfl ?_)) ?_
  refine WX.next ?_
  refine WC.seq ?_
  refine WC.region ?_
  refine wlv (op_move (by decide) rfl) rfl ?_
  refine wlv (op_add (by decide) rfl rfl (by omega)) rfl ?_
  refine wlv (op_quo (by decide) rfl rfl (by omega) (by omega)) rfl ?_
  refine wlv (op_maxN (a := 1) (b := (m + 223) / 224) (by decide) rfl rfl) rfl ?_
  refine wlv (op_assign (by decide) rfl) rfl ?_
  refine WL.nil ?_
  refine WX.regs (L' := [(2, _)]) (by repeat (first | exact RS.nil | refine RS.cons rfl ?_)) ?_
  refine WX.next ?_
  refine WC.ret ?_
  exact Fin.ret1 (by first | exact .inl rfl | exact .inr rfl) (()) (trivial) Try.results33 (.tmp rfl) (by repeat (first | exact Takes.nil | exact Take.here | apply Takes.cons | apply Take.there)) (by simp)
set_option maxHeartbeats 400000 in
set_option maxRecDepth 10000 in
theorem f31_spec (m : Int) :
    Spec Try.prog 31 [.int .i64 m] [] [] (R := Int × Int) (fun q => q = if 0 ≤ m ∧ m ≤ 131072 then ((((need m.toNat : Nat) : Int), 0) : Int × Int) else (0, 2)) (fun q => .tuple #[.int .i64 q.1, .int .i64 q.2]) (fun _ => []) := by
  refine Spec.intro Try.func31 Try.ntmps31 rfl (by simp) (by simp) fun w0 => ?_
  refine WC.seq ?_
  refine WC.region ?_
  refine wlv (op_assign (by decide) rfl) rfl ?_
  refine wlv (op_assign (by decide) rfl) rfl ?_
  refine WL.nil ?_
  refine WX.regs (L' := [(0, _)]) (by repeat (first | exact RS.nil | refine RS.cons rfl ?_)) ?_
  refine WX.next ?_
  refine WC.seq ?_
  refine WC.seq ?_
  refine WC.region ?_
  refine wlv (op_move (by decide) rfl) rfl ?_
  refine wlx (op_call (f50_spec _ _) ca50 (by decide) rfl (by apply Give.mk; (repeat (first | exact Takes.nil | exact Take.here | apply Takes.cons | apply Take.there)); repeat (first | exact Reads.nil | (apply Reads.rd; (focus (repeat (first | exact List.Mem.head _ | apply List.Mem.tail)); done)) | (apply Reads.own; (focus (repeat (first | exact List.Mem.head _ | apply List.Mem.tail)); done)) | (apply Reads.rx; (focus (repeat (first | exact List.Mem.head _ | apply List.Mem.tail)); done)) | (apply Reads.rows (e := false); (focus (repeat (first | exact List.Mem.head _ | apply List.Mem.tail)); done)) | (apply Reads.rows (e := true); (focus (repeat (first | exact List.Mem.head _ | apply List.Mem.tail)); done))))) rfl ?_
  rintro _ rfl
  refine wlv (op_notp (by decide) rfl) rfl ?_
  refine WL.nil ?_
  refine WX.regs (L' := [(0, _), (6, _)]) (by repeat (first | exact RS.nil | refine RS.cons rfl ?_)) ?_
  refine WX.next ?_
  refine WC.cond rfl (fun h1 => ?_) (fun h1 => ?_)
  ·
    refine WC.seq ?_
    refine WC.region ?_
    refine wlv (op_assign (by decide) rfl) rfl ?_
    refine wlv (op_assign (by decide) rfl) rfl ?_
    refine WL.nil ?_
    refine WX.regs (L' := [(2, _), (3, _)]) (by repeat (first | exact RS.nil | refine RS.cons rfl ?_)) ?_
    refine WX.next ?_
    refine WC.ret ?_
    refine WX.then_ret ?_
    exact Fin.ret2 (by first | exact .inl rfl | exact .inr rfl) ((0, 2)) (by rw [if_neg h1]) Try.results31 rfl (.tmp rfl) (.tmp rfl) (by repeat (first | exact Takes.nil | exact Take.here | apply Takes.cons | apply Take.there)) (by simp)
  ·
    obtain ⟨m, rfl⟩ := Int.eq_ofNat_of_zero_le (by omega : 0 ≤ m)
    have e1 : ((m : Int) + 224 - 1) / 224 = (((m + 223) / 224 : Nat) : Int) := by omega
    refine WC.skip ?_
    refine WX.next ?_
    refine WC.seq ?_
    refine WC.region ?_
    refine wlv (op_move (by decide) rfl) rfl ?_
    refine wlv (op_add (by decide) rfl rfl (by omega)) rfl ?_
    refine wlv (op_sub (by decide) rfl rfl (by omega)) rfl ?_
    refine wlv (op_quo (by decide) rfl rfl (by omega) (by omega)) rfl ?_
    rw [e1]
    refine wlv (op_maxN (a := 1) (b := (m + 223) / 224) (by decide) rfl rfl) rfl ?_
    refine wlv (op_assign (by decide) rfl) rfl ?_
    refine wlv (op_assign (by decide) rfl) rfl ?_
    refine WL.nil ?_
    refine WX.regs (L' := [(2, _), (3, _)]) (by repeat (first | exact RS.nil | refine RS.cons rfl ?_)) ?_
    refine WX.next ?_
    refine WC.ret ?_
    exact Fin.ret2 (by first | exact .inl rfl | exact .inr rfl) ((((need m : Nat) : Int), 0)) (by rw [if_pos (by omega)]; rfl) Try.results31 rfl (.tmp rfl) (.tmp rfl) (by repeat (first | exact Takes.nil | exact Take.here | apply Takes.cons | apply Take.there)) (by simp)
set_option maxHeartbeats 400000 in
set_option maxRecDepth 10000 in
theorem f28_spec (k g n : Int) (A : Option Addr) (m c : Nat) (p : List UInt8) (hm : p.length = m) :
    Spec Try.prog 28 [.agg #[.int .i64 k, .int .i64 g, .int .i64 n, .slice A m c]] [] [rd (.slice A m c) 1 m (bvs p)] (R := Option Addr × Nat × List Bs × Int)
      (fun q => (q.2.2.1.map Bs.s, q.2.2.2) = split k g n p) (fun q => .tuple #[.slice q.1 q.2.2.1.length q.2.1, .int .i64 q.2.2.2])
      (fun q => [own (.slice q.1 q.2.2.1.length q.2.1) 22 1 q.2.2.1.length (q.2.2.1.map Bs.v), rowsC true q.2.2.1]) := by
  refine Spec.intro Try.func28 Try.ntmps28 rfl (by simp) (by simp) fun w0 => ?_
  refine WC.seq ?_
  refine WC.region ?_
  refine wl1 (op_box (by decide) rfl rfl) rfl fun b1 => ?_
  refine wlv (op_assign (by decide) rfl) rfl ?_
  refine wlv (op_assign (by decide) rfl) rfl ?_
  refine WL.nil ?_
  refine WX.regs (L' := [(1, _)]) (by repeat (first | exact RS.nil | refine RS.cons rfl ?_)) ?_
  refine WX.next ?_
  refine WC.seq ?_
  refine WC.block ?_
  refine WC.seq ?_
  refine WC.region ?_
  refine wlv (op_fieldAddr fo50_0 (by decide) rfl) rfl ?_
  refine wlv (op_load1 fl3 (by decide) rfl (by repeat (first | exact List.Mem.head _ | apply List.Mem.tail)) rfl) rfl ?_
  refine wlv (op_fieldAddr fo50_1 (by decide) rfl) rfl ?_
  refine wlv (op_load1 fl3 (by decide) rfl (by repeat (first | exact List.Mem.head _ | apply List.Mem.tail)) rfl) rfl ?_
  refine wlv (op_fieldAddr fo50_2 (by decide) rfl) rfl ?_
  refine wlv (op_load1 fl3 (by decide) rfl (by repeat (first | exact List.Mem.head _ | apply List.Mem.tail)) rfl) rfl ?_
  refine wlv (op_build (cs := [.int .i64 k, .int .i64 g, .int .i64 n]) (pv := [(0, _), (1, _), (2, _)]) (by decide) rfl (by kernel_rfl)) rfl ?_
  refine wlx (op_call (f49_spec _ _ _) ca49 (by decide) rfl (by apply Give.mk; (repeat (first | exact Takes.nil | exact Take.here | apply Takes.cons | apply Take.there)); repeat (first | exact Reads.nil | (apply Reads.rd; (focus (repeat (first | exact List.Mem.head _ | apply List.Mem.tail)); done)) | (apply Reads.own; (focus (repeat (first | exact List.Mem.head _ | apply List.Mem.tail)); done)) | (apply Reads.rx; (focus (repeat (first | exact List.Mem.head _ | apply List.Mem.tail)); done)) | (apply Reads.rows (e := false); (focus (repeat (first | exact List.Mem.head _ | apply List.Mem.tail)); done)) | (apply Reads.rows (e := true); (focus (repeat (first | exact List.Mem.head _ | apply List.Mem.tail)); done))))) rfl ?_
  rintro _ rfl
  refine wlv (op_notp (by decide) rfl) rfl ?_
  refine wlv (op_assign (by decide) rfl) rfl ?_
  refine WL.nil ?_
  refine WX.regs (L' := [(1, _), (11, _)]) (by repeat (first | exact RS.nil | refine RS.cons rfl ?_)) ?_
  refine WX.next ?_
  refine WC.cond rfl (fun h1 => ?_) (fun h1 => ?_)
  ·
    refine WC.seq ?_
    refine WC.region ?_
    refine wlv (op_assign (by decide) rfl) rfl ?_
    refine wlv (op_assign (by decide) rfl) rfl ?_
    refine WL.nil ?_
    refine WX.nilrows true ?_
    refine WX.nilown 22 1 ?_
    refine WX.regs (L' := [(2, _), (3, _)]) (by repeat (first | exact RS.nil | refine RS.cons rfl ?_)) ?_
    refine WX.next ?_
    refine WC.ret ?_
    refine WX.in_ret ?_
    refine WX.then_ret ?_
    exact Fin.ret2 (by first | exact .inl rfl | exact .inr rfl) ((none, 0, [], 2)) (by unfold split; rw [if_pos (by omega)]; rfl) Try.results28 rfl (.tmp rfl) (.tmp rfl) (by repeat (first | exact Takes.nil | exact Take.here | apply Takes.cons | apply Take.there)) (by simp)
  ·
    have hf : fineP k g n := by omega
    refine WC.seq ?_
    refine WC.region ?_
    refine wlv (op_fieldAddr fo50_3 (by decide) rfl) rfl ?_
    refine wlv (op_load1 fl22 (by decide) rfl (by repeat (first | exact List.Mem.head _ | apply List.Mem.tail)) rfl) rfl ?_
    refine wlv (op_len Try.underlying22 (by decide) rfl) rfl ?_
    refine wlv (op_gtr (by decide) rfl rfl) rfl ?_
    refine wlv (op_assign (by decide) rfl) rfl ?_
    refine WL.nil ?_
    refine WX.regs (L' := [(1, _), (21, _)]) (by repeat (first | exact RS.nil | refine RS.cons rfl ?_)) ?_
    refine WX.next ?_
    refine WC.cond rfl (fun h2 => ?_) (fun h2 => ?_)
    ·
      refine WC.seq ?_
      refine WC.region ?_
      refine wlv (op_assign (by decide) rfl) rfl ?_
      refine wlv (op_assign (by decide) rfl) rfl ?_
      refine WL.nil ?_
      refine WX.nilrows true ?_
      refine WX.nilown 22 1 ?_
      refine WX.regs (L' := [(2, _), (3, _)]) (by repeat (first | exact RS.nil | refine RS.cons rfl ?_)) ?_
      refine WX.next ?_
      refine WC.ret ?_
      refine WX.in_ret ?_
      refine WX.then_ret ?_
      exact Fin.ret2 (by first | exact .inl rfl | exact .inr rfl) ((none, 0, [], 5)) (by unfold split; rw [if_neg (by omega), if_pos (by omega)]; rfl) Try.results28 rfl (.tmp rfl) (.tmp rfl) (by repeat (first | exact Takes.nil | exact Take.here | apply Takes.cons | apply Take.there)) (by simp)
    ·
      have hnd := need_le (m := m) (by omega)
      refine WC.skip ?_
      refine WX.in_normal ?_
      refine WX.next ?_
      refine WC.seq ?_
      refine WC.region ?_
      refine wlv (op_fieldAddr fo50_3 (by decide) rfl) rfl ?_
      refine wlv (op_load1 fl22 (by decide) rfl (by repeat (first | exact List.Mem.head _ | apply List.Mem.tail)) rfl) rfl ?_
      refine wlv (op_len Try.underlying22 (by decide) rfl) rfl ?_
      refine wlx (op_call (f31_spec _) ca31 (by decide) rfl (by apply Give.mk; (repeat (first | exact Takes.nil | exact Take.here | apply Takes.cons | apply Take.there)); repeat (first | exact Reads.nil | (apply Reads.rd; (focus (repeat (first | exact List.Mem.head _ | apply List.Mem.tail)); done)) | (apply Reads.own; (focus (repeat (first | exact List.Mem.head _ | apply List.Mem.tail)); done)) | (apply Reads.rx; (focus (repeat (first | exact List.Mem.head _ | apply List.Mem.tail)); done)) | (apply Reads.rows (e := false); (focus (repeat (first | exact List.Mem.head _ | apply List.Mem.tail)); done)) | (apply Reads.rows (e := true); (focus (repeat (first | exact List.Mem.head _ | apply List.Mem.tail)); done))))) rfl ?_
      rintro _ rfl
      rw [if_pos (by omega), show ((m : Int)).toNat = m from rfl]
      refine wlv (op_move (by decide) rfl) rfl ?_
      refine wlv (op_extract (by decide) rfl rfl) rfl ?_
      refine wlv (op_extract (by decide) rfl rfl) rfl ?_
      refine wlv (op_assign (by decide) rfl) rfl ?_
      refine wlv (op_assign (by decide) rfl) rfl ?_
      refine WL.nil ?_
      refine WX.regs (L' := [(1, _), (4, _)]) (by repeat (first | exact RS.nil | refine RS.cons rfl ?_)) ?_
      refine WX.next ?_
      refine WC.seq ?_
      refine WC.region ?_
      refine wlv (op_assign (by decide) rfl) rfl ?_
      refine WL.nil ?_
      refine WX.regs (L' := [(1, _), (4, _), (6, _)]) (by repeat (first | exact RS.nil | refine RS.cons rfl ?_)) ?_
      refine WX.next ?_
      refine WC.seq ?_
      refine WC.seq ?_
      refine WC.region ?_
      refine wlv (op_move (by decide) rfl) rfl ?_
      refine wlv (op_move (by decide) rfl) rfl ?_
      refine WL.nil ?_
      refine WX.regs (L' := [(1, _), (4, _), (6, _), (33, _), (34, _)]) (by repeat (first | exact RS.nil | refine RS.cons rfl ?_)) ?_
      refine WX.next ?_
      refine WC.block ?_
      refine WC.nilrows true ?_
      refine WC.nilslice 22 1 ?_
      refine WC.loop (X := Nat × List Bs × Option Addr × Nat) (fun q => need m - q.1) (fun q => q.1 ≤ need m ∧ q.2.1.map Bs.s = (List.range q.1).map (sect k g n p)) (fun q => [(1, .pointer (some ⟨b1, 0, none⟩)), (4, .int .i64 ((need m : Nat) : Int)), (6, .slice q.2.2.1 q.2.1.length q.2.2.2), (33, .int .i64 ((need m : Nat) : Int)), (34, .int .i64 (q.1 : Int))]) (fun q => [own (.slice q.2.2.1 q.2.1.length q.2.2.2) 22 1 q.2.1.length (q.2.1.map Bs.v), rowsC true q.2.1, blk b1 [.int .i64 k, .int .i64 g, .int .i64 n, .slice A m c] 50, rd (.slice A m c) 1 m (bvs p), frameC w0 (MutF [])]) ((0, [], none, 0)) (⟨Nat.zero_le _, rfl⟩) (fun a w hs => hs.sub (by repeat (first | exact RS.nil | refine RS.cons (by first | rfl | exact congrArg (fun z : Int => some (Value.int .i64 z)) (by omega)) ?_)) (by repeat (first | exact Takes.nil | exact Take.here | apply Takes.cons | apply Take.there))) ?_
      rintro ⟨i, rs, Ao, co⟩ ⟨hi, hrs⟩
      try dsimp only at hi hrs ⊢
      have hlen : rs.length = i := by have := congrArg List.length hrs; simpa using this
      refine WC.seq ?_
      refine WC.region ?_
      refine wlv (op_lss (by decide) rfl rfl) rfl ?_
      refine WL.nil ?_
      refine WX.regs (L' := [(1, _), (4, _), (6, _), (33, _), (34, _), (35, _)]) (by repeat (first | exact RS.nil | refine RS.cons rfl ?_)) ?_
      refine WX.next ?_
      refine WC.seq ?_
      refine WC.cond rfl (fun h3 => ?_) (fun h3 => ?_)
      ·
        refine WC.skip ?_
        refine WX.next ?_
        refine WC.seq ?_
        refine WC.block ?_
        refine WC.seq ?_
        refine WC.region ?_
        refine wlv (op_move (by decide) rfl) rfl ?_
        refine wlv (op_assign (by decide) rfl) rfl ?_
        refine WL.nil ?_
        refine WX.regs (L' := [(1, _), (4, _), (6, _), (7, _), (33, _), (34, _)]) (by repeat (first | exact RS.nil | refine RS.cons rfl ?_)) ?_
        refine WX.next ?_
        refine WC.seq ?_
        refine WC.region ?_
        refine wlv (op_fieldAddr fo50_0 (by decide) rfl) rfl ?_
        refine wlv (op_load1 fl3 (by decide) rfl (by repeat (first | exact List.Mem.head _ | apply List.Mem.tail)) rfl) rfl ?_
        refine wlv (op_fieldAddr fo50_1 (by decide) rfl) rfl ?_
        refine wlv (op_load1 fl3 (by decide) rfl (by repeat (first | exact List.Mem.head _ | apply List.Mem.tail)) rfl) rfl ?_
        refine wlv (op_fieldAddr fo50_2 (by decide) rfl) rfl ?_
        refine wlv (op_load1 fl3 (by decide) rfl (by repeat (first | exact List.Mem.head _ | apply List.Mem.tail)) rfl) rfl ?_
        refine wlv (op_move (by decide) rfl) rfl ?_
        refine wlv (op_move (by decide) rfl) rfl ?_
        refine wlv (op_build (cs := (pcells k g n (i : Int) (need m : Nat) (.slice none 0 0))) (pv := [(0, _), (1, _), (2, _), (3, _), (4, _)]) (by decide) rfl (by kernel_rfl)) rfl ?_
        refine wl1 (op_alloc ti25 (by decide)) rfl fun b2 => ?_
        refine wl (op_storeAll sz25 rfl rfl (by repeat (first | exact Take.here | apply Take.there)) (by first | rfl | (simp [Value.cells]; done) | (simp [Value.cells]; omega)) (by first | rfl | exact wvs_one _ | exact bvs_one _) (by first | rfl | (simp [Value.cells]; done) | (simp [Value.cells]; omega))) rfl ?_
        change WL _ _ _ _ _ _ _
        refine WL.nil ?_
        refine WX.regs (L' := [(1, _), (4, _), (6, _), (7, _), (8, _), (33, _), (34, _)]) (by repeat (first | exact RS.nil | refine RS.cons rfl ?_)) ?_
        refine WX.next ?_
        refine WC.seq ?_
        refine WC.region ?_
        refine WL.capx (by first | (apply Src.rd; (repeat (first | exact List.Mem.head _ | apply List.Mem.tail)); done) | (apply Src.own; (repeat (first | exact List.Mem.head _ | apply List.Mem.tail)); done) | (apply Src.rx; (repeat (first | exact List.Mem.head _ | apply List.Mem.tail)); done)) (fun hcap => ?_)
        refine WL.dupr (v := .slice A m c) (sz := 1) (m := m) (xs := bvs p) (by repeat (first | exact List.Mem.head _ | apply List.Mem.tail)) (rd_subB (l := i * 224) (h := min ((i + 1) * 224) m) (by unfold need at *; omega) (by omega)) ?_
        refine wlv (op_fieldAddr fo50_3 (by decide) rfl) rfl ?_
        refine wlv (op_load1 fl22 (by decide) rfl (by repeat (first | exact List.Mem.head _ | apply List.Mem.tail)) rfl) rfl ?_
        refine wlv (op_move (by decide) rfl) rfl ?_
        refine wlv (op_mul (by decide) rfl rfl (by omega)) rfl ?_
        refine wlv (op_move (by decide) rfl) rfl ?_
        refine wlv (op_add (by decide) rfl rfl (by omega)) rfl ?_
        refine wlv (op_mul (by decide) rfl rfl (by omega)) rfl ?_
        refine wlv (op_fieldAddr fo50_3 (by decide) rfl) rfl ?_
        refine wlv (op_load1 fl22 (by decide) rfl (by repeat (first | exact List.Mem.head _ | apply List.Mem.tail)) rfl) rfl ?_
        refine wlv (op_len Try.underlying22 (by decide) rfl) rfl ?_
        refine wlv (op_minN (a := (i + 1) * 224) (b := m) (by decide) rfl rfl) rfl ?_
        refine wlv (op_slice_lh Try.underlying22 sz5 (by decide) rfl rfl rfl (by omega) (by unfold need at *; omega) (by omega)) rfl ?_
        refine wlv (op_fieldAddr fo25_5 (by decide) rfl) rfl ?_
        refine wl (op_store sz22 rfl rfl (by repeat (first | exact Take.here | apply Take.there)) (by first | rfl | (simp [Value.cells]; done) | (simp [Value.cells]; omega)) (by first | rfl | exact wvs_one _ | exact bvs_one _) (by first | exact Nat.le_of_ble_eq_true rfl | (simp; omega))) rfl ?_
        change WL _ _ _ _ _ _ _
        refine WL.nil ?_
        refine WX.regs (L' := [(1, _), (4, _), (6, _), (8, _), (33, _), (34, _)]) (by repeat (first | exact RS.nil | refine RS.cons rfl ?_)) ?_
        refine WX.next ?_
        refine WC.seq ?_
        refine WC.region ?_
        refine wlv (op_loadAll ag25 (by decide) rfl (by repeat (first | exact List.Mem.head _ | apply List.Mem.tail)) (by first | rfl | (simp [Value.cells]; done) | (simp [Value.cells]; omega))) rfl ?_
        refine wlx (op_call (f17_spec k g n i (need m : Nat) _ (min ((i + 1) * 224) m - i * 224) _ ((p.drop (i * 224)).take (min ((i + 1) * 224) m - i * 224)) (by simp only [List.length_take, List.length_drop]; omega)) ca17 (by decide) rfl (by apply Give.mk; (repeat (first | exact Takes.nil | exact Take.here | apply Takes.cons | apply Take.there)); repeat (first | exact Reads.nil | (apply Reads.rd; (focus (repeat (first | exact List.Mem.head _ | apply List.Mem.tail)); done)) | (apply Reads.own; (focus (repeat (first | exact List.Mem.head _ | apply List.Mem.tail)); done)) | (apply Reads.rx; (focus (repeat (first | exact List.Mem.head _ | apply List.Mem.tail)); done)) | (apply Reads.rows (e := false); (focus (repeat (first | exact List.Mem.head _ | apply List.Mem.tail)); done)) | (apply Reads.rows (e := true); (focus (repeat (first | exact List.Mem.head _ | apply List.Mem.tail)); done))))) rfl ?_
        rintro ⟨Ae, ce, le, ee, me⟩ ⟨hle, hee, hme⟩
        dsimp only at hle hee hme
        obtain rfl := hme
        rw [show (p.drop (i * 224)).take (min ((i + 1) * 224) m - i * 224) = chunk p i by unfold chunk; rw [hm]] at hle
        have hch : chk k g n i (need m : Nat) (min ((i + 1) * 224) m - i * 224) = 0 := by
          have := chk_part (p := p) (i := i) hf (by omega) (by rw [hm]; omega)
          rwa [chunk_length, hm] at this
        obtain rfl : ee = 0 := hee.trans hch
        have hle2 : le = sect k g n p i := by
          rw [hle]
          unfold encP
          rw [if_pos (by rw [chunk_length, hm]; exact hch)]
          unfold sect
          rw [hm]
          rfl
        refine wlv (op_move (by decide) rfl) rfl ?_
        refine wlv (op_extract (by decide) rfl rfl) rfl ?_
        refine wlv (op_extract (by decide) rfl rfl) rfl ?_
        refine wlv (op_assign (by decide) rfl) rfl ?_
        refine wlv (op_assign (by decide) rfl) rfl ?_
        refine WL.nil ?_
        refine WX.regs (L' := [(1, _), (4, _), (6, _), (9, _), (10, _), (33, _), (34, _)]) (by repeat (first | exact RS.nil | refine RS.cons rfl ?_)) ?_
        refine WX.next ?_
        refine WC.seq ?_
        refine WC.seq ?_
        refine WC.region ?_
        refine wlv (op_move (by decide) rfl) rfl ?_
        refine wlv (op_neq (by decide) rfl rfl) rfl ?_
        refine WL.nil ?_
        refine WX.regs (L' := [(1, _), (4, _), (6, _), (9, _), (10, _), (33, _), (34, _), (65, _)]) (by repeat (first | exact RS.nil | refine RS.cons rfl ?_)) ?_
        refine WX.next ?_
        refine WC.condF rfl ?_
        refine WC.skip ?_
        refine WX.next ?_
        refine WC.region ?_
        refine wlv (op_move (by decide) rfl) rfl ?_
        refine wlv (op_move (by decide) rfl) rfl ?_
        refine wl1 (op_lit1 Try.underlying52 ti22 rfl (by decide) (by decide) rfl rfl) rfl fun b3 => ?_
        refine wl2 (op_append Try.underlying52 ti22 rfl (by decide) (by decide) rfl rfl (by repeat (first | exact Take.here | apply Take.there)) (by first | (apply Src.rd; (repeat (first | exact List.Mem.head _ | apply List.Mem.tail)); done) | (apply Src.own; (repeat (first | exact List.Mem.head _ | apply List.Mem.tail)); done) | (apply Src.rx; (repeat (first | exact List.Mem.head _ | apply List.Mem.tail)); done)) (by rfl) (by omega) (by omega)) rfl fun A1 c1 => ?_
        refine wlv (op_assign (by decide) rfl) rfl ?_
        refine WL.nil ?_
        refine WX.regs (L' := [(1, _), (4, _), (6, _), (33, _), (34, _)]) (by repeat (first | exact RS.nil | refine RS.cons rfl ?_)) ?_
        refine WX.in_normal ?_
        refine WX.next ?_
        refine WC.region ?_
        refine wlv (op_add (by decide) rfl rfl (by omega)) rfl ?_
        refine wlv (op_move (by decide) rfl) rfl ?_
        refine WL.nil ?_
        refine WX.regs (L' := [(1, _), (4, _), (6, _), (33, _), (34, _)]) (by repeat (first | exact RS.nil | refine RS.cons rfl ?_)) ?_
        refine WX.ownEq (v := .slice A1 (rs.length + 1) c1) _ (by repeat (first | exact Take.here | apply Take.there)) (map_push rs ⟨Ae, ce, le⟩) ?_
        refine WX.merge2 (c1 := rowsC true rs) (c2 := own (.slice Ae le.length ce) 5 1 le.length (bvs le)) (d := rowsC true (rs ++ [⟨Ae, ce, le⟩])) (by repeat (first | exact Take.here | apply Take.there)) (by repeat (first | exact Take.here | apply Take.there)) (rowsC_snoc (own_le_bs rfl) (fun _ => by simp)) ?_
        rw [len_push rs ⟨Ae, ce, le⟩]
        refine WX.meet ((i + 1, rs ++ [⟨Ae, ce, le⟩], A1, c1)) ⟨⟨by omega, by rw [range_push, ← hrs, ← hle2]; simp⟩, by simp only []; omega⟩ (fun a w hs => hs.sub (by repeat (first | exact RS.nil | refine RS.cons (by first | rfl | exact congrArg (fun z : Int => some (Value.int .i64 z)) (by omega)) ?_)) (by repeat (first | exact Takes.nil | exact Take.here | apply Takes.cons | apply Take.there)))
      ·
        refine WC.exit ?_
        refine WX.then_exit ?_
        refine WX.then_exit ?_
        refine WX.in_hit ?_
        refine WX.next ?_
        refine WC.seq ?_
        refine WC.region ?_
        refine wlv (op_move (by decide) rfl) rfl ?_
        refine wlv (op_assign (by decide) rfl) rfl ?_
        refine wlv (op_assign (by decide) rfl) rfl ?_
        refine WL.nil ?_
        refine WX.regs (L' := [(2, _), (3, _)]) (by repeat (first | exact RS.nil | refine RS.cons rfl ?_)) ?_
        refine WX.next ?_
        refine WC.ret ?_
        obtain rfl : i = need m := by omega
        exact Fin.ret2 (by first | exact .inl rfl | exact .inr rfl) ((Ao, co, rs, 0)) (by unfold split; rw [if_neg (by omega), if_neg (by omega)]; unfold sects; rw [hm, hrs]) Try.results28 rfl (.tmp rfl) (.tmp rfl) (by repeat (first | exact Takes.nil | exact Take.here | apply Takes.cons | apply Take.there)) (by simp)
set_option maxHeartbeats 400000 in
set_option maxRecDepth 10000 in
theorem f29_spec (k g n : Int) (A : Option Addr) (m c : Nat) (p : List UInt8) (hm : p.length = m) :
    Spec Try.prog 29 [.agg #[.int .i64 k, .int .i64 g, .int .i64 n, .slice A m c]] [] [rd (.slice A m c) 1 m (bvs p)] (R := Option Addr × Nat × List Bs × Int)
      (fun q => (q.2.2.1.map Bs.s, q.2.2.2) = split k g n p) (fun q => .tuple #[.slice q.1 q.2.2.1.length q.2.1, .int .i64 q.2.2.2])
      (fun q => [own (.slice q.1 q.2.2.1.length q.2.1) 22 1 q.2.2.1.length (q.2.2.1.map Bs.v), rowsC true q.2.2.1]) := by
  refine Spec.intro Try.func29 Try.ntmps29 rfl (by simp) (by simp) fun w0 => ?_
  refine WC.seq ?_
  refine WC.region ?_
  refine wl1 (op_box (by decide) rfl rfl) rfl fun b1 => ?_
  refine wlv (op_assign (by decide) rfl) rfl ?_
  refine wlv (op_assign (by decide) rfl) rfl ?_
  refine WL.nil ?_
  refine WX.regs (L' := [(1, _)]) (by repeat (first | exact RS.nil | refine RS.cons rfl ?_)) ?_
  refine WX.next ?_
  refine WC.seq ?_
  refine WC.seq ?_
  refine WC.region ?_
  refine wlv (op_fieldAddr fo49_0 (by decide) rfl) rfl ?_
  refine wlv (op_load1 fl3 (by decide) rfl (by repeat (first | exact List.Mem.head _ | apply List.Mem.tail)) rfl) rfl ?_
  refine wlv (op_fieldAddr fo49_1 (by decide) rfl) rfl ?_
  refine wlv (op_load1 fl3 (by decide) rfl (by repeat (first | exact List.Mem.head _ | apply List.Mem.tail)) rfl) rfl ?_
  refine wlv (op_fieldAddr fo49_2 (by decide) rfl) rfl ?_
  refine wlv (op_load1 fl3 (by decide) rfl (by repeat (first | exact List.Mem.head _ | apply List.Mem.tail)) rfl) rfl ?_
  refine wlx (op_call (f51_spec _ _ _) ca51 (by decide) rfl (by apply Give.mk; (repeat (first | exact Takes.nil | exact Take.here | apply Takes.cons | apply Take.there)); repeat (first | exact Reads.nil | (apply Reads.rd; (focus (repeat (first | exact List.Mem.head _ | apply List.Mem.tail)); done)) | (apply Reads.own; (focus (repeat (first | exact List.Mem.head _ | apply List.Mem.tail)); done)) | (apply Reads.rx; (focus (repeat (first | exact List.Mem.head _ | apply List.Mem.tail)); done)) | (apply Reads.rows (e := false); (focus (repeat (first | exact List.Mem.head _ | apply List.Mem.tail)); done)) | (apply Reads.rows (e := true); (focus (repeat (first | exact List.Mem.head _ | apply List.Mem.tail)); done))))) rfl ?_
  rintro _ rfl
  refine wlv (op_notp (by decide) rfl) rfl ?_
  refine WL.nil ?_
  refine WX.regs (L' := [(1, _), (14, _)]) (by repeat (first | exact RS.nil | refine RS.cons rfl ?_)) ?_
  refine WX.next ?_
  refine WC.cond rfl (fun h1 => ?_) (fun h1 => ?_)
  ·
    refine WC.seq ?_
    refine WC.region ?_
    refine wlv (op_assign (by decide) rfl) rfl ?_
    refine wlv (op_assign (by decide) rfl) rfl ?_
    refine WL.nil ?_
    refine WX.nilrows true ?_
    refine WX.nilown 22 1 ?_
    refine WX.regs (L' := [(2, _), (3, _)]) (by repeat (first | exact RS.nil | refine RS.cons rfl ?_)) ?_
    refine WX.next ?_
    refine WC.ret ?_
    refine WX.then_ret ?_
    exact Fin.ret2 (by first | exact .inl rfl | exact .inr rfl) ((none, 0, [], 2)) (by unfold split; rw [if_pos (by omega)]; rfl) Try.results29 rfl (.tmp rfl) (.tmp rfl) (by repeat (first | exact Takes.nil | exact Take.here | apply Takes.cons | apply Take.there)) (by simp)
  ·
    have hf : fineP k g n := by omega
    simp only [fineP] at hf
    obtain ⟨k, rfl⟩ := Int.eq_ofNat_of_zero_le hf.1
    obtain ⟨g, rfl⟩ := Int.eq_ofNat_of_zero_le hf.2.2.1
    obtain ⟨n, rfl⟩ := Int.eq_ofNat_of_zero_le hf.2.2.2.2.1
    refine WC.skip ?_
    refine WX.next ?_
    refine WC.seq ?_
    refine WC.seq ?_
    refine WC.region ?_
    refine wlv (op_fieldAddr fo49_3 (by decide) rfl) rfl ?_
    refine wlv (op_load1 fl22 (by decide) rfl (by repeat (first | exact List.Mem.head _ | apply List.Mem.tail)) rfl) rfl ?_
    refine wlv (op_len Try.underlying22 (by decide) rfl) rfl ?_
    refine wlv (op_gtr (by decide) rfl rfl) rfl ?_
    refine WL.nil ?_
    refine WX.regs (L' := [(1, _), (18, _)]) (by repeat (first | exact RS.nil | refine RS.cons rfl ?_)) ?_
    refine WX.next ?_
    refine WC.cond rfl (fun h2 => ?_) (fun h2 => ?_)
    ·
      refine WC.seq ?_
      refine WC.region ?_
      refine wlv (op_assign (by decide) rfl) rfl ?_
      refine wlv (op_assign (by decide) rfl) rfl ?_
      refine WL.nil ?_
      refine WX.nilrows true ?_
      refine WX.nilown 22 1 ?_
      refine WX.regs (L' := [(2, _), (3, _)]) (by repeat (first | exact RS.nil | refine RS.cons rfl ?_)) ?_
      refine WX.next ?_
      refine WC.ret ?_
      refine WX.then_ret ?_
      exact Fin.ret2 (by first | exact .inl rfl | exact .inr rfl) ((none, 0, [], 5)) (by unfold split; rw [if_neg (by simp only [fineP]; omega), if_pos (by omega)]; rfl) Try.results29 rfl (.tmp rfl) (.tmp rfl) (by repeat (first | exact Takes.nil | exact Take.here | apply Takes.cons | apply Take.there)) (by simp)
    ·
      have hnd := need_le (m := m) (by omega)
      refine WC.skip ?_
      refine WX.next ?_
      refine WC.seq ?_
      refine WC.region ?_
      refine wlv (op_assign (by decide) rfl) rfl ?_
      refine WL.nil ?_
      refine WX.regs (L' := [(1, _), (4, _)]) (by repeat (first | exact RS.nil | refine RS.cons rfl ?_)) ?_
      refine WX.next ?_
      refine WC.seq ?_
      refine WC.region ?_
      refine wlv (op_fieldAddr fo49_3 (by decide) rfl) rfl ?_
      refine wlv (op_load1 fl22 (by decide) rfl (by repeat (first | exact List.Mem.head _ | apply List.Mem.tail)) rfl) rfl ?_
      refine wlv (op_len Try.underlying22 (by decide) rfl) rfl ?_
      refine wlx (op_call (f33_spec m (by omega)) ca33 (by decide) rfl (by apply Give.mk; (repeat (first | exact Takes.nil | exact Take.here | apply Takes.cons | apply Take.there)); repeat (first | exact Reads.nil | (apply Reads.rd; (focus (repeat (first | exact List.Mem.head _ | apply List.Mem.tail)); done)) | (apply Reads.own; (focus (repeat (first | exact List.Mem.head _ | apply List.Mem.tail)); done)) | (apply Reads.rx; (focus (repeat (first | exact List.Mem.head _ | apply List.Mem.tail)); done)) | (apply Reads.rows (e := false); (focus (repeat (first | exact List.Mem.head _ | apply List.Mem.tail)); done)) | (apply Reads.rows (e := true); (focus (repeat (first | exact List.Mem.head _ | apply List.Mem.tail)); done))))) rfl ?_
      rintro _ _
      refine wlv (op_assign (by decide) rfl) rfl ?_
      refine WL.nil ?_
      refine WX.regs (L' := [(1, _), (4, _), (5, _)]) (by repeat (first | exact RS.nil | refine RS.cons rfl ?_)) ?_
      refine WX.next ?_
      refine WC.seq ?_
      refine WC.seq ?_
      refine WC.region ?_
      refine wlv (op_assign (by decide) rfl) rfl ?_
      refine WL.nil ?_
      refine WX.regs (L' := [(1, _), (4, _), (5, _), (6, _)]) (by repeat (first | exact RS.nil | refine RS.cons rfl ?_)) ?_
      refine WX.next ?_
      refine WC.block ?_
      refine WC.nilrows true ?_
      refine WC.nilslice 22 1 ?_
      refine WC.loop (X := Nat × List Bs × Option Addr × Nat) (fun q => need m - q.1) (fun q => q.1 ≤ need m ∧ q.2.1.map Bs.s = (List.range q.1).map (sect k g n p)) (fun q => [(1, .pointer (some ⟨b1, 0, none⟩)), (4, .slice q.2.2.1 q.2.1.length q.2.2.2), (5, .int .i64 ((need m : Nat) : Int)), (6, .int .i64 (q.1 : Int))]) (fun q => [own (.slice q.2.2.1 q.2.1.length q.2.2.2) 22 1 q.2.1.length (q.2.1.map Bs.v), rowsC true q.2.1, blk b1 [.int .i64 k, .int .i64 g, .int .i64 n, .slice A m c] 49, rd (.slice A m c) 1 m (bvs p), frameC w0 (MutF [])]) ((0, [], none, 0)) (⟨Nat.zero_le _, rfl⟩) (fun a w hs => hs.sub (by repeat (first | exact RS.nil | refine RS.cons (by first | rfl | exact congrArg (fun z : Int => some (Value.int .i64 z)) (by omega)) ?_)) (by repeat (first | exact Takes.nil | exact Take.here | apply Takes.cons | apply Take.there))) ?_
      rintro ⟨i, rs, Ao, co⟩ ⟨hi, hrs⟩
      try dsimp only at hi hrs ⊢
      have hlen : rs.length = i := by have := congrArg List.length hrs; simpa using this
      refine WC.seq ?_
      refine WC.seq ?_
      refine WC.region ?_
      refine wlv (op_move (by decide) rfl) rfl ?_
      refine wlv (op_move (by decide) rfl) rfl ?_
      refine wlv (op_lss (by decide) rfl rfl) rfl ?_
      refine WL.nil ?_
      refine WX.regs (L' := [(1, _), (4, _), (5, _), (6, _), (25, _)]) (by repeat (first | exact RS.nil | refine RS.cons rfl ?_)) ?_
      refine WX.next ?_
      refine WC.cond rfl (fun h3 => ?_) (fun h3 => ?_)
      ·
        refine WC.skip ?_
        refine WX.next ?_
        refine WC.seq ?_
        refine WC.block ?_
        refine WC.drawn (Hs := [blk b1 [.int .i64 k, .int .i64 g, .int .i64 n, .slice A m c] 49]) mo 999 ?_
        refine WA.capx (by first | (apply Src.rd; (repeat (first | exact List.Mem.head _ | apply List.Mem.tail)); done) | (apply Src.own; (repeat (first | exact List.Mem.head _ | apply List.Mem.tail)); done) | (apply Src.rx; (repeat (first | exact List.Mem.head _ | apply List.Mem.tail)); done)) (fun hcap => ?_)
        have hin : 224 * i ≤ m := by unfold need at *; omega
        refine WA.dup (c := rd (.slice A m c) 1 m (bvs p)) (d := rd (sliced A (224 * i) (min (224 * i + 224) m) c 1) 1 (min (224 * i + 224) m - 224 * i) (bvs ((p.drop (224 * i)).take (min (224 * i + 224) m - 224 * i)))) (by repeat (first | exact List.Mem.head _ | apply List.Mem.tail)) (by simp) (by simp) (rd_subB (l := 224 * i) (h := min (224 * i + 224) m) (by omega) (by omega)) ?_
        refine WA.take (i := 0) rfl (by kernel_rfl) (fun _ _ _ h => h) rfl (op_move (by decide) rfl) (by repeat (first | exact Takes.nil | exact Take.here | apply Takes.cons | apply Take.there)) ?_
        refine WA.take (i := 1) rfl (by kernel_rfl) (fun _ _ _ h => h) rfl (op_fieldAddr fo49_0 (by decide) rfl) (by repeat (first | exact Takes.nil | exact Take.here | apply Takes.cons | apply Take.there)) ?_
        refine WA.take (i := 2) rfl (by kernel_rfl) (fun _ _ _ h => h) rfl (op_load1 fl3 (by decide) rfl (by repeat (first | exact List.Mem.head _ | apply List.Mem.tail)) rfl) (by repeat (first | exact Takes.nil | exact Take.here | apply Takes.cons | apply Take.there)) ?_
        refine WA.take (i := 3) rfl (by kernel_rfl) (fun _ _ _ h => h) rfl (op_fieldAddr fo49_1 (by decide) rfl) (by repeat (first | exact Takes.nil | exact Take.here | apply Takes.cons | apply Take.there)) ?_
        refine WA.take (i := 4) rfl (by kernel_rfl) (fun _ _ _ h => h) rfl (op_load1 fl3 (by decide) rfl (by repeat (first | exact List.Mem.head _ | apply List.Mem.tail)) rfl) (by repeat (first | exact Takes.nil | exact Take.here | apply Takes.cons | apply Take.there)) ?_
        refine WA.take (i := 5) rfl (by kernel_rfl) (fun _ _ _ h => h) rfl (op_fieldAddr fo49_2 (by decide) rfl) (by repeat (first | exact Takes.nil | exact Take.here | apply Takes.cons | apply Take.there)) ?_
        refine WA.take (i := 6) rfl (by kernel_rfl) (fun _ _ _ h => h) rfl (op_load1 fl3 (by decide) rfl (by repeat (first | exact List.Mem.head _ | apply List.Mem.tail)) rfl) (by repeat (first | exact Takes.nil | exact Take.here | apply Takes.cons | apply Take.there)) ?_
        refine WA.take (i := 7) rfl (by kernel_rfl) (fun _ _ _ h => h) rfl (op_move (by decide) rfl) (by repeat (first | exact Takes.nil | exact Take.here | apply Takes.cons | apply Take.there)) ?_
        refine WA.take (i := 8) rfl (by kernel_rfl) (fun _ _ _ h => h) rfl (op_move (by decide) rfl) (by repeat (first | exact Takes.nil | exact Take.here | apply Takes.cons | apply Take.there)) ?_
        refine WA.take (i := 9) rfl (by kernel_rfl) (fun _ _ _ h => h) rfl (op_fieldAddr fo49_3 (by decide) rfl) (by repeat (first | exact Takes.nil | exact Take.here | apply Takes.cons | apply Take.there)) ?_
        refine WA.take (i := 10) rfl (by kernel_rfl) (fun _ _ _ h => h) rfl (op_load1 fl22 (by decide) rfl (by repeat (first | exact List.Mem.head _ | apply List.Mem.tail)) rfl) (by repeat (first | exact Takes.nil | exact Take.here | apply Takes.cons | apply Take.there)) ?_
        refine WA.take (i := 11) rfl (by kernel_rfl) (fun _ _ _ h => h) rfl (op_move (by decide) rfl) (by repeat (first | exact Takes.nil | exact Take.here | apply Takes.cons | apply Take.there)) ?_
        refine WA.take (i := 12) rfl (by kernel_rfl) (fun _ _ _ h => h) rfl (op_mul (by decide) rfl rfl (by omega)) (by repeat (first | exact Takes.nil | exact Take.here | apply Takes.cons | apply Take.there)) ?_
        refine WA.take (i := 13) rfl (by kernel_rfl) (fun _ _ _ h => h) rfl (op_move (by decide) rfl) (by repeat (first | exact Takes.nil | exact Take.here | apply Takes.cons | apply Take.there)) ?_
        refine WA.take (i := 14) rfl (by kernel_rfl) (fun _ _ _ h => h) rfl (op_mul (by decide) rfl rfl (by omega)) (by repeat (first | exact Takes.nil | exact Take.here | apply Takes.cons | apply Take.there)) ?_
        refine WA.take (i := 15) rfl (by kernel_rfl) (fun _ _ _ h => h) rfl (op_add (by decide) rfl rfl (by omega)) (by repeat (first | exact Takes.nil | exact Take.here | apply Takes.cons | apply Take.there)) ?_
        refine WA.take (i := 16) rfl (by kernel_rfl) (fun _ _ _ h => h) rfl (op_fieldAddr fo49_3 (by decide) rfl) (by repeat (first | exact Takes.nil | exact Take.here | apply Takes.cons | apply Take.there)) ?_
        refine WA.take (i := 17) rfl (by kernel_rfl) (fun _ _ _ h => h) rfl (op_load1 fl22 (by decide) rfl (by repeat (first | exact List.Mem.head _ | apply List.Mem.tail)) rfl) (by repeat (first | exact Takes.nil | exact Take.here | apply Takes.cons | apply Take.there)) ?_
        refine WA.take (i := 18) rfl (by kernel_rfl) (fun _ _ _ h => h) rfl (op_len Try.underlying22 (by decide) rfl) (by repeat (first | exact Takes.nil | exact Take.here | apply Takes.cons | apply Take.there)) ?_
        refine WA.take (i := 19) rfl (by kernel_rfl) (fun _ _ _ h => h) rfl (op_minN (a := 224 * i + 224) (b := m) (by decide) rfl rfl) (by repeat (first | exact Takes.nil | exact Take.here | apply Takes.cons | apply Take.there)) ?_
        refine WA.take (i := 20) rfl (by kernel_rfl) (fun _ _ _ h => h) rfl (op_slice_lh Try.underlying22 sz5 (by decide) rfl rfl rfl (by omega) (by omega) (by omega)) (by repeat (first | exact Takes.nil | exact Take.here | apply Takes.cons | apply Take.there)) ?_
        refine WA.take (i := 21) rfl (by kernel_rfl) (fun _ _ _ h => h) rfl (op_build (cs := (pcells k g n i (need m : Nat) (sliced A (224 * i) (min (224 * i + 224) m) c 1))) (pv := [(0, _), (1, _), (2, _), (3, _), (4, _), (5, _)]) (by decide) rfl (by kernel_rfl)) (by repeat (first | exact Takes.nil | exact Take.here | apply Takes.cons | apply Take.there)) ?_
        refine WA.stepx (i := 22) (by kernel_rfl) rfl rfl (op_call (f22_spec k g n i (need m) _ (min (224 * i + 224) m - 224 * i) _ ((p.drop (224 * i)).take (min (224 * i + 224) m - 224 * i)) (by simp only [List.length_take, List.length_drop]; omega) (by omega) (by omega) (by omega) (by omega) (by omega) (by omega)) ca22 (by decide) rfl (by apply Give.mk; (repeat (first | exact Takes.nil | exact Take.here | apply Takes.cons | apply Take.there)); repeat (first | exact Reads.nil | (apply Reads.rd; (focus (repeat (first | exact List.Mem.head _ | apply List.Mem.tail)); done)) | (apply Reads.own; (focus (repeat (first | exact List.Mem.head _ | apply List.Mem.tail)); done)) | (apply Reads.rx; (focus (repeat (first | exact List.Mem.head _ | apply List.Mem.tail)); done)) | (apply Reads.rows (e := false); (focus (repeat (first | exact List.Mem.head _ | apply List.Mem.tail)); done)) | (apply Reads.rows (e := true); (focus (repeat (first | exact List.Mem.head _ | apply List.Mem.tail)); done))))) (fun _ r => (by repeat (first | exact Takes.nil | exact Take.here | apply Takes.cons | apply Take.there))) ?_
        rintro ⟨Ae, ce⟩ _
        rw [show enc k g n i (need m) ((p.drop (224 * i)).take (min (224 * i + 224) m - 224 * i)) = sect k g n p i by unfold sect chunk; rw [hm, Nat.mul_comm 224 i, show (i + 1) * 224 = i * 224 + 224 by omega]; rfl]
        refine WA.step1 (i := 23) (by kernel_rfl) rfl rfl (op_lit1 Try.underlying52 ti22 rfl (by decide) (by decide) rfl rfl) (fun _ b => (by repeat (first | exact Takes.nil | exact Take.here | apply Takes.cons | apply Take.there))) fun b2 => ?_
        refine WA.step2 (i := 24) (by kernel_rfl) rfl rfl (op_append Try.underlying52 ti22 rfl (by decide) (by decide) rfl rfl (by repeat (first | exact Take.here | apply Take.there)) (by first | (apply Src.rd; (repeat (first | exact List.Mem.head _ | apply List.Mem.tail)); done) | (apply Src.own; (repeat (first | exact List.Mem.head _ | apply List.Mem.tail)); done) | (apply Src.rx; (repeat (first | exact List.Mem.head _ | apply List.Mem.tail)); done)) (by rfl) (by omega) (by omega)) (fun _ A c => (by repeat (first | exact Takes.nil | exact Take.here | apply Takes.cons | apply Take.there))) fun A1 c1 => ?_
        refine WA.take (i := 25) rfl (by kernel_rfl) (fun _ _ _ h => h) rfl (op_assign (by decide) rfl) (by repeat (first | exact Takes.nil | exact Take.here | apply Takes.cons | apply Take.there)) ?_
        refine WA.done (by kernel_rfl) ?_
        refine WX.regs (L' := [(1, _), (4, _), (5, _), (6, _)]) (by repeat (first | exact RS.nil | refine RS.cons rfl ?_)) ?_
        refine WX.in_normal ?_
        refine WX.next ?_
        refine WC.region ?_
        refine wlv (op_move (by decide) rfl) rfl ?_
        refine wlv (op_add (by decide) rfl rfl (by omega)) rfl ?_
        refine wlv (op_assign (by decide) rfl) rfl ?_
        refine WL.nil ?_
        refine WX.regs (L' := [(1, _), (4, _), (5, _), (6, _)]) (by repeat (first | exact RS.nil | refine RS.cons rfl ?_)) ?_
        have hse : (sect k g n p i).length = 256 := enc_length _ _ _ _ _ _
        refine WX.ownEq (v := .slice A1 (rs.length + 1) c1) ((rs ++ [(⟨Ae, ce, sect k g n p i⟩ : Bs)]).map Bs.v) (by repeat (first | exact Take.here | apply Take.there)) (by rw [← map_push]; unfold Bs.v; rw [hse]; rfl) ?_
        refine WX.merge2 (c1 := rowsC true rs) (c2 := own (.slice Ae 256 ce) 5 1 256 (bvs (sect k g n p i))) (d := rowsC true (rs ++ [⟨Ae, ce, sect k g n p i⟩])) (by repeat (first | exact Take.here | apply Take.there)) (by repeat (first | exact Take.here | apply Take.there)) (rowsC_snoc (own_le_bs hse) (fun _ => by simp)) ?_
        rw [len_push rs ⟨Ae, ce, sect k g n p i⟩]
        refine WX.meet ((i + 1, rs ++ [⟨Ae, ce, sect k g n p i⟩], A1, c1)) ⟨⟨by omega, by rw [range_push, ← hrs]; simp⟩, by simp only []; omega⟩ (fun a w hs => hs.sub (by repeat (first | exact RS.nil | refine RS.cons (by first | rfl | exact congrArg (fun z : Int => some (Value.int .i64 z)) (by omega)) ?_)) (by repeat (first | exact Takes.nil | exact Take.here | apply Takes.cons | apply Take.there)))
      ·
        refine WC.exit ?_
        refine WX.then_exit ?_
        refine WX.then_exit ?_
        refine WX.in_hit ?_
        refine WX.next ?_
        refine WC.seq ?_
        refine WC.region ?_
        refine wlv (op_move (by decide) rfl) rfl ?_
        refine wlv (op_assign (by decide) rfl) rfl ?_
        refine wlv (op_assign (by decide) rfl) rfl ?_
        refine WL.nil ?_
        refine WX.regs (L' := [(2, _), (3, _)]) (by repeat (first | exact RS.nil | refine RS.cons rfl ?_)) ?_
        refine WX.next ?_
        refine WC.ret ?_
        obtain rfl : i = need m := by omega
        exact Fin.ret2 (by first | exact .inl rfl | exact .inr rfl) ((Ao, co, rs, 0)) (by unfold split; rw [if_neg (by simp only [fineP]; omega), if_neg (by omega)]; unfold sects; rw [hm, hrs]) Try.results29 rfl (.tmp rfl) (.tmp rfl) (by repeat (first | exact Takes.nil | exact Take.here | apply Takes.cons | apply Take.there)) (by simp)
end Go.Proofs.Ythephcghglldaaa.Sx
