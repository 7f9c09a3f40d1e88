/- The engine: parts of aggregates, append and copy into a block that is known whole, shifts of integers. -/
import Derived.Test.YthephcghglldaaaSo
set_option linter.unusedVariables false
set_option linter.unusedSimpArgs false
namespace Go.Proofs.Ythephcghglldaaa.Sx
open Go.RowKit
section
variable {P : Program} {ops : Array Oper} {Q : Exit → Act → World → Prop} {n : Nat} {L : List (Nat × Value)} {H F : List Ch} {d : Nat} {ty : TypeId} {pos : String} {af : Array Edge} {g : Option (Nat × Bool)} {x y : Operand} {xt yt : TypeId}
theorem op_indexVN {t e : TypeId} {k : IntKind} {i : Int} {len sz : Nat} {cs vs : List Value} (hu : P.underlying t = some (.array len e)) (hsz : (P.info? e).map (·.size) = some sz) (hf : Agg P e sz) (hn : d < n)
    (hx : evr L x = some (.agg cs.toArray)) (hi : evr L y = some (.int k i)) (h0 : 0 ≤ i) (h1 : i < len) (hv : (cs.drop (i.toNat * sz)).take sz = vs) (hl : i.toNat * sz + sz ≤ cs.length) :
    Val P ⟨some d, .index t x y, ty, pos, af, g⟩ n L H d (.agg vs.toArray) :=
  Val.mk rfl hn fun a w hs => by
    have hp : (part e cs.toArray (i.toNat * sz)).run P w = .ok (.agg vs.toArray) w := by
      simp [part, Sem.run_bind, hf.isAgg, run_sizeOf hsz, ← hv, List.extract_eq_take_drop]
    simp [execOp, hs.eval hx, hs.eval hi, Instr.index, asIntOf, Sem.run_bind, run_underlying hu, h0, h1, run_sizeOf hsz, hp]
theorem op_shri {a s : Int} {k' : IntKind} (hn : d < n) (hx : evr L x = some (.int .i64 a)) (hy : evr L y = some (.int k' s)) (hs : 0 ≤ a ∧ a < 9223372036854775808 ∧ 0 ≤ s ∧ s < 64) :
    Val P ⟨some d, .binOp .shr xt x y yt, ty, pos, af, g⟩ n L H d (.int .i64 (a / (2 ^ s.toNat : Nat))) :=
  binop_val hn hx hy (fun _ _ => rfl) fun w => by
    have h0 : ¬ s < 0 := by omega
    have h1 : min s.toNat 64 = s.toNat := by omega
    simp [binOp_shr, Op.shift, h0, IntKind.bits, h1]
theorem op_shl8i {a : Int} (hn : d < n) (hx : evr L x = some (.int .i64 a)) (hy : evr L y = some (.int .u64 8)) (hs : 0 ≤ a ∧ a < 36028797018963968) :
    Val P ⟨some d, .binOp .shl xt x y yt, ty, pos, af, g⟩ n L H d (.int .i64 (a * 256)) :=
  binop_val hn hx hy (fun _ _ => rfl) fun w => by
    have e : IntKind.i64.wrap (a * 256) = a * 256 := by simp [IntKind.wrap_i64]; omega
    simp [binOp_shl, Op.shift, IntKind.bits, e]
theorem op_ori8 {a b : Int} (hn : d < n) (hx : evr L x = some (.int .i64 a)) (hy : evr L y = some (.int .i64 b)) (hs : 0 ≤ b ∧ b < 256 ∧ 0 ≤ a ∧ a < 9223372036854775808 ∧ a % 256 = 0) :
    Val P ⟨some d, .binOp .or xt x y yt, ty, pos, af, g⟩ n L H d (.int .i64 (a + b)) :=
  binop_val hn hx hy (fun _ _ => rfl) fun w => by
    obtain ⟨m, rfl⟩ := Int.eq_ofNat_of_zero_le hs.1
    obtain ⟨k, rfl⟩ := Int.eq_ofNat_of_zero_le hs.2.2.1
    obtain ⟨q, rfl⟩ : ∃ q, k = q <<< 8 := ⟨k / 256, by rw [Nat.shiftLeft_eq]; omega⟩
    have hk : q <<< 8 < 2 ^ 64 := by omega
    have hm : m < 2 ^ 8 := by omega
    have hor : (q <<< 8) ||| m = q <<< 8 + m := (Nat.shiftLeft_add_eq_or_of_lt hm q).symm
    have e : IntKind.i64.wrap ((BitVec.ofInt 64 ((q <<< 8 : Nat) : Int) ||| BitVec.ofInt 64 (m : Int)).toNat : Int) = ((q <<< 8 : Nat) : Int) + (m : Int) := by
      rw [BitVec.toNat_or, BitVec.ofInt_natCast, BitVec.ofInt_natCast, BitVec.toNat_ofNat, BitVec.toNat_ofNat, Nat.mod_eq_of_lt hk, Nat.mod_eq_of_lt (by omega : m < 2 ^ 64), hor]
      generalize q <<< 8 = A at *
      simp [IntKind.wrap_i64]; omega
    rw [binOp_or]
    exact congrArg (fun z : Int => (Result.ok (Value.int .i64 z) w : Result Value)) e
/-- 'append(s, t...)' where there is room, in a block that is known whole. -/
theorem op_appendBlk {t e : TypeId} {b m k c cB by' : Nat} {B : Option Addr} {zero cs ys : List Value} (hu : P.underlying t = some (.slice e)) (he : TInf P e 1 by' zero) (hn : d < n)
    (hx : evr L x = some (.slice (some ⟨b, 0, none⟩) m c)) (hy : evr L y = some (.slice B k cB)) (ht : Take H (blk b cs e) F) (hsrc : Src F (.slice B k cB) 1 k ys)
    (h1 : ys.all (·.oneCell') = true) (hr : m + k ≤ c) (hc : c = cs.length) :
    Opn P Q ⟨some d, .call { callee := .builtin .append, args := #[x, y], argTypes := #[t, t] }, ty, pos, af, g⟩ n L H
      (St n (upd L d (.slice (some ⟨b, 0, none⟩) (m + k) c)) (blk b (pset cs m ys) e :: F)) := by
  obtain ⟨i, z, hi, hs1, hs2, hz, hzz⟩ := he.open
  intro a w hs K hK
  have hF : Sat w F := (hs.sat.perm ht.perm).tail
  have hb : w.heap[b]? = some (.cells cs.toArray e (0, 0)) := hs.sat.ok _ (ht.perm.mem_iff.2 (List.mem_cons_self ..))
  obtain ⟨y1, y2, B', cB', y3, y4, y5⟩ := hsrc.ok hF
  cases y3
  have hyl : ys.length = k := by simpa using y1
  have hmain : ∃ w', (Builtin.append_ #[t, t] ty #[.slice (some ⟨b, 0, none⟩) m c, .slice B k cB]).run P w = .ok (.slice (some ⟨b, 0, none⟩) (m + k) c) w' ∧ Sat w' (blk b (pset cs m ys) e :: F) := by
    by_cases hk : k = 0
    · subst hk
      have hys : ys = [] := List.eq_nil_of_length_eq_zero hyl
      subst hys
      refine ⟨w, ?_, ?_⟩
      · have hmc : m ≤ c := by omega
        cases B <;> simp [Builtin.append_, run_underlying hu, sizeOf, typeInfo, hi, Builtin.lenOf, Builtin.firstCells, loadCells, loadCellsFrom, hmc, storeCells]
      · have : pset cs m [] = cs := by simp [pset]
        rw [this]
        exact hs.sat.perm ht.perm
    · obtain ⟨b', o', rfl, y6⟩ := y5 (by omega)
      have h := run_append_room (P := P) w t ty e i hu hi b m c cs.toArray hb ⟨b', o', none⟩ k cB ys (by rw [hs1, hyl, Nat.mul_one]) (fun j u hu => by rw [add_at]; exact y6 j u hu) (List.all_eq_true.1 h1) hr (by rw [hs1, hyl]; simp; omega)
      refine ⟨_, h, ?_⟩
      rw [hs1, Nat.mul_one]
      show Sat (w.setRow b (pset cs m ys).toArray) _
      exact blk_store hs.sat ht (by omega)
  obtain ⟨w', hrun', hsat⟩ := hmain
  unfold Oper.wp
  have hrun : (execOp a.eval ⟨some d, .call { callee := .builtin .append, args := #[x, y], argTypes := #[t, t] }, ty, pos, af, g⟩).run P w = .ok (.value (.slice (some ⟨b, 0, none⟩) (m + k) c)) w' := by
    simp only [execOp, resolve, invoke, builtin, Sem.run_bind, Sem.run_pure, Result.andThen_ok, List.map_toArray, List.map_cons, List.map_nil, hs.eval hx, hs.eval hy, hrun']
  rw [hrun, Oper.upon_value]
  exact hK _ _ ⟨hs.regs.put hn _, hsat⟩
/-- 'copy(s, t)' into a block that is known whole. -/
theorem op_copyBlk {t t' e : TypeId} {b o m c k cB : Nat} {B : Option Addr} {cs ys : List Value} (hu : P.underlying t = some (.slice e)) (hs1 : (P.info? e).map (·.size) = some 1) (hn : d < n)
    (hx : evr L x = some (.slice (some ⟨b, o, none⟩) m c)) (hy : evr L y = some (.slice B k cB)) (ht : Take H (blk b cs e) F) (hsrc : Src F (.slice B k cB) 1 k ys) (h1 : ys.all (·.oneCell') = true) (hk : k ≤ m) (hp : 0 < k) (hfit : o + k ≤ cs.length) :
    Opn P Q ⟨some d, .call { callee := .builtin .copy, args := #[x, y], argTypes := #[t, t'] }, ty, pos, af, g⟩ n L H (St n (upd L d (.int .i64 (k : Int))) (blk b (pset cs o ys) e :: F)) := by
  intro a w hs K hK
  have hF : Sat w F := (hs.sat.perm ht.perm).tail
  have hb : w.heap[b]? = some (.cells cs.toArray e (0, 0)) := hs.sat.ok _ (ht.perm.mem_iff.2 (List.mem_cons_self ..))
  obtain ⟨y1, y2, B', cB', y3, y4, y5⟩ := hsrc.ok hF
  cases y3
  have hyl : ys.length = k := by simpa using y1
  obtain ⟨b', o', rfl, y6⟩ := y5 (by omega)
  have hst := run_storeCells_at P b o e ys 0 cs.toArray w hb (by simp; omega) (List.all_eq_true.1 h1)
  simp only [Nat.add_zero] at hst
  have hr : (Builtin.copy_ #[t, t'] ty #[.slice (some ⟨b, o, none⟩) m c, .slice (some ⟨b', o', none⟩) k cB]).run P w = .ok (.int .i64 (k : Int)) (w.setRow b (pset cs o ys).toArray) := by
    have hload := run_loadCells_list (P := P) w ⟨b', o', none⟩ ys (fun j u hj => by
      rw [add_at]
      exact y6 j u hj)
    have hmin : Nat.min k m = k := Nat.min_eq_left (by omega)
    have hmin' : min k m = k := Nat.min_eq_left (by omega)
    cases hq : P.info? e with
    | none => simp [hq] at hs1
    | some i =>
      have hi : i.size = 1 := by simpa [hq] using hs1
      rw [hyl] at hload
      simp [Builtin.copy_, run_underlying hu, Builtin.lenOf, Builtin.firstCells, sizeOf, typeInfo, hq, hi, hmin, hmin', hload, hst, goInt, pset]
  unfold Oper.wp execOp
  simp only [resolve, invoke, builtin, Sem.run_bind, Sem.run_pure, Result.andThen_ok, List.map_toArray, List.map_cons, List.map_nil, hs.eval hx, hs.eval hy, hr]
  exact hK _ _ ⟨hs.regs.put hn _, blk_store hs.sat ht (by omega)⟩
end
theorem own_le_blk {b m : Nat} {e : TypeId} {cs : List Value} (hl : cs.length = m) (hm : m ≤ maxLen) : (own (.slice (some ⟨b, 0, none⟩) m m) e 1 m cs).Le (blk b cs e) :=
  ⟨fun _ => rfl, fun b' hb => by
    simp only [own, Value.ownBlock, Option.some.injEq] at hb
    exact hb.symm, fun w hw => ⟨by rw [hl, Nat.mul_one], .inr ⟨b, m, cs.toArray, rfl, Nat.zero_le _, hw, Nat.le_refl _, hm, by simp [hl], by simp [← hl]⟩⟩⟩
theorem blk_whole_rd {b m : Nat} {e : TypeId} {cs : List Value} (hl : cs.length = m) (hm : m ≤ maxLen) : (rd (.slice (some ⟨b, 0, none⟩) m m) 1 m cs).Le (blk b cs e) :=
  blk_le_rd (Nat.le_refl _) hm (by rw [List.drop_zero, Nat.mul_one, ← hl, List.take_length]) (by rw [hl, Nat.mul_one])
end Go.Proofs.Ythephcghglldaaa.Sx
