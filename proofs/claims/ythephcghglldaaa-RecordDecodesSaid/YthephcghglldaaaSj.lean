/- The engine: append of zeros. -/
import Derived.Test.YthephcghglldaaaSk
import Derived.Lib.AppendZerosOnto
set_option linter.unusedVariables false
set_option linter.unusedSimpArgs false
namespace Go.Proofs.Ythephcghglldaaa.Sx
open Go.RowKit
theorem zeroCells_one (z1 : Value) (k : Nat) : Builtin.zeroCells #[z1] k = (List.replicate k z1).toArray := by
  apply Array.ext
  · simp [Builtin.zeroCells]
  · intro i h1 h2
    simp [Builtin.zeroCells, Nat.mod_one]
section
variable {P : Program} {Q : Exit → Act → World → Prop} {n : Nat} {L : List (Nat × Value)} {H F : List Ch} {d : Nat} {ty : TypeId} {pos : String} {af : Array Edge} {g : Option (Nat × Bool)} {x y : Operand}
/-- 'append(s, make([]T, k)...)'. -/
theorem op_appendZ {t tn e : TypeId} {A : Option Addr} {m k c by' : Nat} {z1 : Value} {xs : List Value} {kk : IntKind} (hu : P.underlying t = some (.slice e)) (hun : P.underlying tn = some (.int kk)) (he : TInf P e 1 by' [z1]) (hn : d < n)
    (hx : evr L x = some (.slice A m c)) (hy : evr L y = some (.int .i64 (k : Int))) (ht : Take H (own (.slice A m c) e 1 m xs) F) (hm : 0 < m) (hk : 0 < k) (h1 : z1.oneCell' = true) (hb : (m + k) * by' ≤ 140737488355328) (h63 : m + k ≤ 1000000000) :
    Opn P Q ⟨some d, .call { callee := .builtin .append, args := #[x, y], argTypes := #[t, tn] }, ty, pos, af, g⟩ n L H
      (fun a w => ∃ A' c', St n (upd L d (.slice A' (m + k) c')) (own (.slice A' (m + k) c') e 1 (m + k) (xs ++ List.replicate k z1) :: F) a w) := by
  obtain ⟨i, z, hi, hs1, hs2, hz, hzz⟩ := he.open
  intro a w hs K hK
  have hown : w.ownsRow 0 e 1 (.slice A m c) m xs := hs.sat.ok _ (ht.perm.mem_iff.2 (List.mem_cons_self ..))
  have hzc : z.cells = #[z1] := by rw [← Array.toArray_toList (xs := z.cells), hzz]
  have hxl : xs.length = m := by simpa using hown.1
  have hmain : ∃ v' w', (Builtin.append_ #[t, tn] ty #[.slice A m c, .int .i64 (k : Int)]).run P w = .ok v' w' ∧ w'.ownsRow 0 e 1 v' (m + k) (xs ++ List.replicate k z1) ∧ w.grownBy w' (Value.ownBlock (.slice A m c)) ∧ (v'.ownBlock = (Value.ownBlock (.slice A m c)) ∨ v'.ownBlock = some w.heap.size) := by
    rcases hown.2 with ⟨_, h0⟩ | ⟨b, cap, cur, he', hb0, hh, hnc, hcap, hcs, htk⟩
    · omega
    · simp only [Value.slice.injEq] at he'
      obtain ⟨rfl, _, rfl⟩ := he'
      have hlen : (xs ++ List.replicate k z1).length = (m + k) * 1 := by simp [hxl]
      by_cases hroom : m + k ≤ c
      · have hst := run_storeCells_at P b m e (List.replicate k z1) 0 cur w hh (by simp; omega) (by intro u hu; rw [List.eq_of_mem_replicate hu]; exact h1)
        have hw : IntKind.i64.wrap (k : Int) = k := by rw [IntKind.wrap_i64]; omega
        have hneg : ¬ ((k : Int) < 0) := by omega
        have hbig : ¬ (281474976710656 < (k : Int) * (by' : Int)) := by
          have h2 : k * by' ≤ (m + k) * by' := Nat.mul_le_mul_right _ (by omega)
          rw [← Int.natCast_mul]
          omega
        have hk0 : ¬ k = 0 := by omega
        refine ⟨.slice (some ⟨b, 0, none⟩) (m + k) c, w.setRow b (cur.toList.take m ++ List.replicate k z1 ++ cur.toList.drop (m + k)).toArray, ?_, ⟨hlen, .inr ⟨b, c, _, rfl, hb0, setRow_heap w b cur _ e _ hh, hroom, hcap, ?_, ?_⟩⟩, ⟨rfl, rfl, rfl, by simp, fun j _ hj => setRow_other w b j _ (fun e => hj (by simp [Value.ownBlock, e]))⟩, .inl rfl⟩
        · simp only [Nat.add_zero, List.length_replicate] at hst
          simp [Builtin.append_, run_underlying hu, run_underlying hun, sizeOf, typeInfo, zeroValue, hi, hz, hs1, hs2, asInt, asIntOf, hw, hneg, hbig, hk0, hroom, hzc, zeroCells_one, hst, add_at]
        · simp only [List.size_toArray, List.length_append, List.length_take, List.length_drop, Array.length_toList, List.length_replicate]
          omega
        · have htk' : cur.toList.take m = xs := by rw [Nat.mul_one] at htk; exact htk
          simp only [htk']
          rw [← hlen]
          exact List.take_left
      · have hold : (Builtin.firstCells i.size m (.slice (some ⟨b, 0, none⟩) m c)).run P w.drew = .ok xs.toArray w.drew := by
          have h := run_loadCells_list (P := P) w.drew ⟨b, 0, none⟩ xs (fun j u hj => (hown.cells (g := b) rfl) j u hj)
          rw [hxl] at h
          simp only [Builtin.firstCells, hs1, Nat.mul_one]
          exact h
        have hr := Lib.run_append_grow_zeros (P := P) w t tn ty e i z .i64 kk hu hun hi hz (some ⟨b, 0, none⟩) m c xs hold k hk (by omega) (by omega) (by omega) (by rw [hs2]; have h2 : k * by' ≤ (m + k) * by' := Nat.mul_le_mul_right _ (by omega); omega) (by rw [hs2]; exact growslice_fits (by omega) hb)
        have hge := grownCap_ge w (m + k) c e
        have hcm : grownCap w (m + k) c e ≤ maxLen := grownCap_le_maxLen w (m + k) c e (Nat.le_trans h63 (by decide))
        refine ⟨_, _, hr, ⟨hlen, .inr ⟨w.heap.size, _, _, rfl, Nat.zero_le _, heap_alloc_new w.drew _, hge, hcm, ?_, ?_⟩⟩, ⟨rfl, rfl, rfl, by simp, fun j hj _ => heap_alloc_old w.drew _ hj⟩, .inr rfl⟩
        · rw [hzc, zeroCells_one, zeroCells_one]
          simp only [Array.size_append, List.size_toArray, hxl, List.length_replicate]
          omega
        · rw [hzc, zeroCells_one, zeroCells_one]
          simp only [Array.toList_append, List.append_assoc]
          rw [← List.append_assoc, ← hlen]
          exact List.take_left
  obtain ⟨v', w', hr, ho, hg, hat⟩ := hmain
  obtain ⟨A', c', rfl⟩ := own_value (sz := 1) (e := e) ho
  unfold Oper.wp
  have hrun : (execOp a.eval ⟨some d, .call { callee := .builtin .append, args := #[x, y], argTypes := #[t, tn] }, ty, pos, af, g⟩).run P w = .ok (.value (.slice A' (m + k) c')) w' := by
    simp only [execOp, resolve, invoke, builtin, Sem.run_bind, Sem.run_pure, Result.andThen_ok, List.map_toArray, List.map_cons, List.map_nil, hs.eval hx, hs.eval hy, hr]
  rw [hrun, Oper.upon_value]
  have hnew : ∀ b, (own (.slice A' (m + k) c') e 1 (m + k) (xs ++ List.replicate k z1)).foot b → w.heap.size ≤ b ∨ (own (.slice A m c) e 1 m xs).foot b := by
    intro b hb'
    rcases hat with hat | hat
    · exact .inr (hat.symm.trans hb')
    · left
      have := hat.symm.trans hb'
      simp only [Option.some.injEq] at this
      omega
  exact hK _ _ ⟨A', c', hs.regs.put hn _, hs.sat.swap ht rfl ho ((Chg.grown hg).mono fun i hi => hi) hnew⟩
end
end Go.Proofs.Ythephcghglldaaa.Sx
