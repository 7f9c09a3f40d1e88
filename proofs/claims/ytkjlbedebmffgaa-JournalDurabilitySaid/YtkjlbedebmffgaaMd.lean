import Derived.Test.YtkjlbedebmffgaaMa
import Derived.MapKept
import Derived.RangeFuncRecord
import Derived.Carry
import Derived.Test.YtkjlbedebmffgaaMc
import Derived.ChangeKeysEq
import Derived.Laws.StructEq
import Derived.Defers
/- The engine: maps with whole numbers as keys. -/
set_option linter.unusedVariables false
set_option linter.unusedSimpArgs false
namespace Go.Proofs.Ytkjlbedebmffgaa.Sx
open Go.RowKit
/-- An entry under a whole number. -/
def ment (p : Int × Value × Nat) : MapEntry := ⟨.int .i64 p.1, p.2.1, p.2.2⟩
def mgo : List (Int × Value × Nat) → Int → Nat → Option (Nat × Value)
  | [], _, _ => none
  | p :: ps, a, i => if a = p.1 then some (i, p.2.1) else mgo ps a (i + 1)
theorem findNow_mgo {k : IntKind} {a : Int} : ∀ (l : List (Int × Value × Nat)) (i : Nat), Instr.findNow (.int k) (.int .i64 a) (l.map ment) i = some (mgo l a i)
  | [], _ => rfl
  | p :: ps, i => by
    simp only [List.map_cons, Instr.findNow, ment, Instr.sameNow, if_true]
    by_cases h : a = p.1
    · have : (a == p.1) = true := by simpa using h
      simp [this, mgo, h]
    · have : (a == p.1) = false := by simpa using h
      simp only [this, mgo, if_neg h]
      exact findNow_mgo ps (i + 1)
theorem mgo_spec (a : Int) : ∀ (l : List (Int × Value × Nat)) (i : Nat), (∃ j p, l[j]? = some p ∧ p.1 = a ∧ mgo l a i = some (i + j, p.2.1)) ∨ ((∀ p ∈ l, ¬ p.1 = a) ∧ mgo l a i = none)
  | [], i => .inr ⟨fun p hp => (by cases hp), rfl⟩
  | p :: ps, i => by
    by_cases h : a = p.1
    · exact .inl ⟨0, p, rfl, h.symm, by simp [mgo, h]⟩
    · rcases mgo_spec a ps (i + 1) with ⟨j, q, h1, h2, h3⟩ | ⟨h1, h2⟩
      · exact .inl ⟨j + 1, q, by simpa using h1, h2, by simp only [mgo, if_neg h, h3]; congr 2; omega⟩
      · refine .inr ⟨fun q hq => ?_, by simp only [mgo, if_neg h, h2]⟩
        rcases List.mem_cons.1 hq with rfl | hq
        · exact fun e => h e.symm
        · exact h1 q hq
/-- A map's block: what it holds for each number. -/
def mapC (b : Nat) (f : Int → Option Value) : Ch where
  foot b' := b' = b
  ex := true
  ok w := ∃ (l : List (Int × Value × Nat)) (clock : Nat), w.heap[b]? = some (.map (l.map ment).toArray clock) ∧ (l.map (·.1)).Nodup ∧ (∀ p ∈ l, f p.1 = some p.2.1) ∧ ∀ a, (∀ p ∈ l, ¬ p.1 = a) → f a = none
  loc w w' h _ _ _ _ hb := by
    obtain ⟨l, c, h1, h2⟩ := h
    exact ⟨l, c, (hb b rfl).trans h1, h2⟩
  inb w h b' hb := by
    subst hb
    obtain ⟨l, c, h1, _⟩ := h
    exact (Array.getElem?_eq_some_iff.1 h1).1
@[simp] theorem mapC_ex (b : Nat) (f : Int → Option Value) : (mapC b f).ex = true := rfl
section
variable {P : Program} {Q : Exit → Act → World → Prop} {n : Fr} {L L' : List (Nat × Value)} {H H' F : List Ch} {ops : Array Oper} {rest : List Oper} {o : Oper}
variable {d : Nat} {ty : TypeId} {pos : String} {af : Array Edge} {g : Option (Nat × Bool)} {x y z : Operand} {v u : Value} {t k e : TypeId} {kk : IntKind}
theorem run_findKey {w : World} {a : Int} {l : List (Int × Value × Nat)} (hk : P.underlying k = some (.int kk)) : (Instr.findKey k (.int .i64 a) (l.map ment)).run P w = .ok (mgo l a 0) w := by
  unfold Instr.findKey
  rw [Sem.run_bind, run_underlying hk w]
  simp [Result.andThen, findNow_mgo]
theorem run_checkInt {w : World} {a : Int} {b : Bool} (hk : P.underlying k = some (.int kk)) : (Instr.checkKey b 10000 k (.int .i64 a)).run P w = .ok () w := by
  have h : ∀ m, (Instr.checkKey b (m + 1) k (.int .i64 a)).run P w = .ok () w := fun m => by
    simp [Instr.checkKey, Sem.run_bind, run_underlying hk]
  exact h 9999
theorem op_makeMap (hn : d < n.n) : Opn P Q ⟨some d, .makeMap t none, ty, pos, af, g⟩ n L H (fun a w => ∃ b, St n (upd L d (.map (some b))) (mapC b (fun _ => none) :: H) a w) := by
  intro a w hs K hK
  unfold Oper.wp
  have hr : (execOp a.eval ⟨some d, .makeMap t none, ty, pos, af, g⟩).run P w = .ok (.value (.map (some w.heap.size))) (w.alloc (.map #[] 0)) := by
    simp [execOp, run_makeMap]
  rw [hr, Oper.upon_value]
  exact hK _ _ ⟨_, hs.regs.put hn _, hs.sat.grow ⟨[], 0, heap_alloc_new w _, by simp, (fun p hp => by cases hp), fun _ _ => rfl⟩ (Chg.alloc _ _ _) (fun b hb => by cases hb; exact Nat.le_refl _)⟩
/-- What a map gives for a number. -/
theorem run_lookup {w : World} {b : Nat} {f : Int → Option Value} {a : Int} {zv : Value} {ok : Bool} (ht : P.underlying t = some (.map k e)) (hk : P.underlying k = some (.int kk)) (hz : (P.info? e).map (·.zero) = some (some zv)) (hm : (mapC b f).ok w) :
    (Instr.lookup t (.map (some b)) (.int .i64 a) ok).run P w = .ok (if ok then .tuple #[(f a).getD zv, .bool (f a).isSome] else (f a).getD zv) w := by
  obtain ⟨l, c, h1, h2, h3, h4⟩ := hm
  obtain ⟨i, hi, hz'⟩ := Option.map_eq_some_iff.1 hz
  have hf := run_findKey (P := P) (w := w) (a := a) (l := l) hk
  rcases mgo_spec a l 0 with ⟨j, p, g1, g2, g3⟩ | ⟨g1, g2⟩
  · have hfa : f a = some p.2.1 := by rw [← g2]; exact h3 p (List.mem_of_getElem? g1)
    rw [g3] at hf
    cases ok <;> simp [Instr.lookup, run_underlying ht, MapKept.run_getObj_map h1, run_checkInt hk, hf, hfa, Result.andThen]
  · have hfa : f a = none := h4 a g1
    rw [g2] at hf
    cases ok <;> simp [Instr.lookup, run_underlying ht, MapKept.run_getObj_map h1, run_checkInt hk, hf, hfa, zeroValue, typeInfo, hi, hz', Result.andThen]
theorem op_lookup {b : Nat} {f : Int → Option Value} {a : Int} {zv : Value} (ht : P.underlying t = some (.map k e)) (hk : P.underlying k = some (.int kk)) (hz : (P.info? e).map (·.zero) = some (some zv)) (hn : d < n.n)
    (hx : evr L x = some (.map (some b))) (hy : evr L y = some (.int .i64 a)) (hm : mapC b f ∈ H) : Val P ⟨some d, .lookup t x y false, ty, pos, af, g⟩ n L H d ((f a).getD zv) :=
  Val.mk rfl hn fun a' w hs => by
    have := run_lookup (P := P) (a := a) (ok := false) ht hk hz (hs.sat.ok _ hm)
    simp [execOp, hs.eval hx, hs.eval hy, this]
theorem op_lookupOk {b : Nat} {f : Int → Option Value} {a : Int} {zv : Value} (ht : P.underlying t = some (.map k e)) (hk : P.underlying k = some (.int kk)) (hz : (P.info? e).map (·.zero) = some (some zv)) (hn : d < n.n)
    (hx : evr L x = some (.map (some b))) (hy : evr L y = some (.int .i64 a)) (hm : mapC b f ∈ H) : Val P ⟨some d, .lookup t x y true, ty, pos, af, g⟩ n L H d (.tuple #[(f a).getD zv, .bool (f a).isSome]) :=
  Val.mk rfl hn fun a' w hs => by
    have := run_lookup (P := P) (a := a) (ok := true) ht hk hz (hs.sat.ok _ hm)
    simp [execOp, hs.eval hx, hs.eval hy, this]
theorem nodup_inj {l : List (Int × Value × Nat)} (h : (l.map (·.1)).Nodup) {i j : Nat} {p q : Int × Value × Nat} (hp : l[i]? = some p) (hq : l[j]? = some q) (e : p.1 = q.1) : i = j := by
  have hi : i < (l.map (·.1)).length := by rw [List.length_map]; exact (List.getElem?_eq_some_iff.1 hp).1
  exact (List.getElem?_inj hi h).1 (by rw [List.getElem?_map, List.getElem?_map, hp, hq]; simp [e])
theorem chg_putMap (w : World) (b : Nat) (o : Obj) : Chg (· = b) w { w with heap := w.heap.setIfInBounds b o } :=
  ⟨rfl, rfl, rfl, by simp, fun k _ hk => by
    show (w.heap.setIfInBounds b o)[k]? = _
    rw [Array.getElem?_setIfInBounds_ne (fun e => hk e.symm)]⟩
theorem keyStays {w : World} {a : Int} : (Instr.keyThatStays (.int .i64 a) (.int .i64 a)).run P w = .ok (.int .i64 a) w := by
  have h : Instr.sameBits 10000 (.int .i64 a) (.int .i64 a) = true := by
    have : ∀ m, Instr.sameBits m (.int .i64 a) (.int .i64 a) = true := fun m => by cases m <;> simp [Instr.sameBits]
    exact this _
  simp [Instr.keyThatStays, h]
theorem map_put {w : World} {b : Nat} {f : Int → Option Value} {a : Int} (ht : P.underlying t = some (.map k e)) (hk : P.underlying k = some (.int kk)) (hm : (mapC b f).ok w) :
    ∃ o, (Instr.mapUpdate t (.map (some b)) (.int .i64 a) v).run P w = .ok () { w with heap := w.heap.setIfInBounds b o } ∧ (mapC b (fun x => if x = a then some v else f x)).ok { w with heap := w.heap.setIfInBounds b o } := by
  obtain ⟨l, c, h1, h2, h3, h4⟩ := hm
  have hb := (Array.getElem?_eq_some_iff.1 h1).1
  have hf := run_findKey (P := P) (w := w) (a := a) (l := l) hk
  have hnew : ∀ o, (w.heap.setIfInBounds b o)[b]? = some o := fun o => by simp [hb]
  rcases mgo_spec a l 0 with ⟨j, p, g1, g2, g3⟩ | ⟨g1, g2⟩
  · rw [g3, Nat.zero_add] at hf
    have hjl := (List.getElem?_eq_some_iff.1 g1).1
    have hle : l[j] = p := (List.getElem?_eq_some_iff.1 g1).2
    have hj : ((l.map ment).toArray)[j]? = some (ment p) := by simp [g1]
    have hmod : (l.map ment).toArray.modify j (fun e => { e with key := .int .i64 a, val := v }) = ((l.set j (a, v, p.2.2)).map ment).toArray := by
      apply Array.toList_inj.1
      apply List.ext_getElem?
      intro q
      rw [Array.toList_modify, List.getElem?_modify]
      simp only [List.getElem?_map, List.getElem?_set]
      by_cases hq : j = q
      · subst hq
        simp [hle, hjl, ment]
      · simp [hq]
    refine ⟨.map ((l.set j (a, v, p.2.2)).map ment).toArray c, ?_, l.set j (a, v, p.2.2), c, hnew _, ?_, ?_, ?_⟩
    · have hd : (((l.map ment).toArray)[j]?.map (·.key)).getD (.int .i64 a) = .int .i64 a := by rw [hj]; simp [ment, g2]
      simp only [Instr.mapUpdate, Sem.run_bind, run_underlying ht, MapKept.run_getObj_map h1, run_checkInt hk, hf, Result.andThen, Sem.run_pure, hd, keyStays, hmod, MapKept.run_setObj_map _ h1]
    · have e : (l.set j (a, v, p.2.2)).map (·.1) = l.map (·.1) := by
        rw [List.map_set]
        apply List.ext_getElem?
        intro q
        rw [List.getElem?_set]
        by_cases hq : j = q
        · subst hq; simp [hle, g2, hjl]
        · simp [hq]
      rw [e]; exact h2
    · intro q hq
      rcases List.mem_or_eq_of_mem_set hq with hq' | rfl
      · by_cases hqa : q.1 = a
        · obtain ⟨i, hi⟩ := List.mem_iff_getElem?.1 hq
          rw [List.getElem?_set] at hi
          by_cases hij : j = i
          · subst hij
            simp only [if_true, hjl] at hi
            cases hi
            simp
          · rw [if_neg hij] at hi
            exact absurd (nodup_inj h2 g1 hi (g2.trans hqa.symm)) hij
        · simp only [hqa, if_false]
          exact h3 q hq'
      · simp
    · intro x hx
      have hxa : ¬ x = a := fun e => hx (a, v, p.2.2) (List.mem_iff_getElem?.2 ⟨j, by simp [hjl]⟩) e.symm
      simp only [hxa, if_false]
      refine h4 x fun q hq e => ?_
      obtain ⟨i, hi⟩ := List.mem_iff_getElem?.1 hq
      by_cases hij : j = i
      · subst hij
        rw [g1] at hi
        cases hi
        exact hxa (e.symm.trans g2)
      · exact hx q (List.mem_iff_getElem?.2 ⟨i, by rw [List.getElem?_set_ne hij]; exact hi⟩) e
  · rw [g2] at hf
    refine ⟨.map ((l ++ [(a, v, c)]).map ment).toArray (c + 1), ?_, l ++ [(a, v, c)], c + 1, hnew _, ?_, ?_, ?_⟩
    · have hp : (l.map ment).toArray.push { key := .int .i64 a, val := v, born := c } = ((l ++ [(a, v, c)]).map ment).toArray := by simp [ment]
      simp only [Instr.mapUpdate, Sem.run_bind, run_underlying ht, MapKept.run_getObj_map h1, run_checkInt hk, hf, Result.andThen, Sem.run_pure, hp, MapKept.run_setObj_map _ h1]
    · rw [List.map_append, List.nodup_append]
      refine ⟨h2, by simp, fun x hx y hy => ?_⟩
      obtain ⟨q, hq, rfl⟩ := List.mem_map.1 hx
      simp only [List.map_cons, List.map_nil, List.mem_singleton] at hy
      rw [hy]
      exact g1 q hq
    · intro q hq
      rcases List.mem_append.1 hq with hq | hq
      · dsimp only; rw [if_neg (g1 q hq)]; exact h3 q hq
      · rw [List.mem_singleton.1 hq]; simp
    · intro x hx
      have hxa : ¬ x = a := fun e => hx (a, v, c) (by simp) e.symm
      simp only [hxa, if_false]
      exact h4 x fun q hq => hx q (List.mem_append_left _ hq)
theorem map_del {w : World} {b : Nat} {f : Int → Option Value} {a : Int} {ats : Array TypeId} (ht : P.underlying t = some (.map k e)) (hk : P.underlying k = some (.int kk)) (ha : ats[0]? = some t) (hm : (mapC b f).ok w) :
    ∃ o, (Builtin.delete_ ats ty #[.map (some b), .int .i64 a]).run P w = .ok (.tuple #[]) { w with heap := w.heap.setIfInBounds b o } ∧ (mapC b (fun x => if x = a then none else f x)).ok { w with heap := w.heap.setIfInBounds b o } := by
  obtain ⟨l, c, h1, h2, h3, h4⟩ := hm
  have hb := (Array.getElem?_eq_some_iff.1 h1).1
  have hf := run_findKey (P := P) (w := w) (a := a) (l := l) hk
  have hnew : ∀ o, (w.heap.setIfInBounds b o)[b]? = some o := fun o => by simp [hb]
  rcases mgo_spec a l 0 with ⟨j, p, g1, g2, g3⟩ | ⟨g1, g2⟩
  · rw [g3, Nat.zero_add] at hf
    have hjl := (List.getElem?_eq_some_iff.1 g1).1
    have her : (l.map ment).toArray.eraseIdxIfInBounds j = ((l.eraseIdx j).map ment).toArray := by
      apply Array.toList_inj.1
      apply List.ext_getElem?
      intro q
      simp only [Array.toList_eraseIdxIfInBounds, List.getElem?_eraseIdx, List.getElem?_map]
      split <;> rfl
    have her2 : (l.map ment).eraseIdx j = (l.eraseIdx j).map ment := by
      apply List.ext_getElem?
      intro q
      simp only [List.getElem?_eraseIdx, List.getElem?_map]
      split <;> rfl
    refine ⟨.map ((l.eraseIdx j).map ment).toArray c, ?_, l.eraseIdx j, c, hnew _, ?_, ?_, ?_⟩
    · simp [Builtin.delete_, ha, run_underlying ht, MapKept.run_getObj_map h1, run_checkInt hk, hf, her, her2, MapKept.run_setObj_map _ h1]
    · exact h2.sublist ((List.eraseIdx_sublist l j).map _)
    · intro q hq
      have hq' := List.mem_of_mem_eraseIdx hq
      have hqa : ¬ q.1 = a := fun e => by
        obtain ⟨i, hi⟩ := List.mem_iff_getElem?.1 hq
        rw [List.getElem?_eraseIdx] at hi
        split at hi
        · have := nodup_inj h2 g1 hi (g2.trans e.symm); omega
        · have := nodup_inj h2 g1 hi (g2.trans e.symm); omega
      dsimp only
      rw [if_neg hqa]
      exact h3 q hq'
    · intro x hx
      dsimp only
      by_cases hxa : x = a
      · rw [if_pos hxa]
      · rw [if_neg hxa]
        refine h4 x fun q hq e => ?_
        obtain ⟨i, hi⟩ := List.mem_iff_getElem?.1 hq
        rcases Nat.lt_trichotomy i j with h | h | h
        · exact hx q (List.mem_iff_getElem?.2 ⟨i, by rw [List.getElem?_eraseIdx, if_pos h]; exact hi⟩) e
        · subst h
          rw [g1] at hi
          cases hi
          exact hxa (e.symm.trans g2)
        · exact hx q (List.mem_iff_getElem?.2 ⟨i - 1, by rw [List.getElem?_eraseIdx, if_neg (by omega), show i - 1 + 1 = i by omega]; exact hi⟩) e
  · rw [g2] at hf
    refine ⟨.map (l.map ment).toArray c, ?_, l, c, hnew _, h2, ?_, ?_⟩
    · simp [Builtin.delete_, ha, run_underlying ht, MapKept.run_getObj_map h1, run_checkInt hk, hf, MapKept.run_setObj_map _ h1]
    · intro q hq
      dsimp only
      rw [if_neg (g1 q hq)]
      exact h3 q hq
    · intro x hx
      dsimp only
      by_cases hxa : x = a
      · rw [if_pos hxa]
      · rw [if_neg hxa]; exact h4 x hx
theorem op_mapUpdate {b : Nat} {f : Int → Option Value} {a : Int} (ht : P.underlying t = some (.map k e)) (hk : P.underlying k = some (.int kk)) (hx : evr L x = some (.map (some b))) (hy : evr L y = some (.int .i64 a)) (hz : evr L z = some v) (hm : Take H (mapC b f) F) :
    Opn P Q ⟨none, .mapUpdate t x y z, ty, pos, af, g⟩ n L H (St n L (mapC b (fun x => if x = a then some v else f x) :: F)) :=
  Opn.skip rfl fun a' w hs => by
    obtain ⟨o, h1, h2⟩ := map_put (P := P) (v := v) (a := a) ht hk (hs.sat.ok _ (hm.perm.mem_iff.2 (List.mem_cons_self ..)))
    exact ⟨_, by simp [execOp, hs.eval hx, hs.eval hy, hs.eval hz, h1], hs.sat.swap hm rfl h2 (chg_putMap w b o) (fun b' h => .inr h)⟩
theorem op_delete {b : Nat} {f : Int → Option Value} {a : Int} {ats : Array TypeId} (ht : P.underlying t = some (.map k e)) (hk : P.underlying k = some (.int kk)) (ha : ats[0]? = some t) (hx : evr L x = some (.map (some b))) (hy : evr L y = some (.int .i64 a)) (hm : Take H (mapC b f) F) :
    Opn P Q ⟨none, .call { callee := .builtin .delete, args := #[x, y], argTypes := ats }, ty, pos, af, g⟩ n L H (St n L (mapC b (fun x => if x = a then none else f x) :: F)) := by
  intro a' w hs K hK
  obtain ⟨o, h1, h2⟩ := map_del (P := P) (ty := ty) (a := a) ht hk ha (hs.sat.ok _ (hm.perm.mem_iff.2 (List.mem_cons_self ..)))
  unfold Oper.wp execOp
  simp only [resolve, invoke, builtin, Sem.run_bind, Sem.run_pure, Result.andThen_ok, List.map_toArray, List.map_cons, List.map_nil, hs.eval hx, hs.eval hy, h1]
  exact hK _ _ ⟨hs.regs, hs.sat.swap hm rfl h2 (chg_putMap w b o) (fun b' h => .inr h)⟩
end
end Go.Proofs.Ytkjlbedebmffgaa.Sx

/- The engine: loops over a function's values; functions that leave with a loop's mark. -/
set_option linter.unusedVariables false
set_option linter.unusedSimpArgs false
namespace Go.Proofs.Ytkjlbedebmffgaa.Sx
open Go.RowKit
/-- A block's object, known whole. -/
def objC (b : Nat) (o : Obj) : Ch where
  foot b' := b' = b
  ex := true
  ok w := w.heap[b]? = some o
  loc w w' h _ _ _ _ hb := (hb b rfl).trans h
  inb w h b' hb := by subst hb; exact (Array.getElem?_eq_some_iff.1 h).1
@[simp] theorem objC_ex (b : Nat) (o : Obj) : (objC b o).ex = true := rfl
theorem chg_putObj (w : World) (b : Nat) (o : Obj) : Chg (· = b) w (w.putObj b o) := chg_putMap w b o
theorem obj_put {w : World} {b : Nat} {o o' : Obj} {H F : List Ch} (hs : Sat w H) (hm : Take H (objC b o) F) : Sat (w.putObj b o') (objC b o' :: F) := by
  have h : w.heap[b]? = some o := hs.ok _ (hm.perm.mem_iff.2 (List.mem_cons_self ..))
  exact hs.swap hm rfl (World.putObj_heap_same (Array.getElem?_eq_some_iff.1 h).1) (chg_putObj w b o') (fun b' h => .inr h)
/-- The frame is kept beside. -/
theorem Sat.withFrame {w : World} {T D : List Ch} (hD : ∀ d ∈ D, d.ex = false) (hs : Sat w (T ++ D)) : Sat w (T ++ D ++ [frameC w (MutF T)]) := by
  refine ⟨fun x hx => ?_, List.pairwise_append.2 ⟨hs.apart, List.pairwise_singleton .., fun x hx y hy hm b hxf hyf => ?_⟩⟩
  · rcases List.mem_append.1 hx with hx | hx
    · exact hs.ok x hx
    · rw [List.mem_singleton.1 hx]
      exact Chg.refl _ _
  · rw [List.mem_singleton.1 hy] at hyf hm
    rcases hm with hm | hm
    · rcases List.mem_append.1 hx with hx | hx
      · exact hyf.2 ⟨x, hx, hm, hxf⟩
      · rw [hD x hx] at hm; cases hm
    · cases hm
theorem frame_new {w0 w : World} {T : List Ch} {L F : List Ch} (hs : Sat w (frameC w0 (MutF T) :: L)) (hex : ∀ c ∈ L, c.ex = true) : Chg (MutF T) w0 w ∧ ∀ c ∈ L, ∀ b, c.foot b → w0.heap.size ≤ b ∨ MutF T b := by
  have hchg : Chg (MutF T) w0 w := hs.head
  have hap := (List.pairwise_cons.1 hs.apart).1
  refine ⟨hchg, fun c hc b hb => ?_⟩
  by_cases hlt : b < w0.heap.size
  · right
    by_cases hm : MutF T b
    · exact hm
    · exact absurd hb (hap c hc (.inr (hex c hc)) b ⟨hlt, hm⟩)
  · left; omega
/-! ### Code in a round's frame -/
def notDefer : Op → Bool
  | .defer _ => false
  | _ => true
theorem semAt_of {ro : Option Nat} {ρ : Operand → Value} {o : Oper} (h : notDefer o.op = true) : o.semAt ro ρ = execOp ρ o := by
  unfold Oper.semAt
  split
  · rename_i c hc; rw [hc] at h; cases h
  · rfl
section
variable {P : Program} {Q : Exit → Act → World → Prop} {n : Fr} {L L' : List (Nat × Value)} {H H' F : List Ch} {ops : Array Oper} {o : Oper} {Fe : Fence} {i : Nat} {is : List Nat}
def Fence.free (Fe : Fence) : Prop := (∀ f, Fe.fn f) ∧ Fe.depth = none
theorem free_wide : Fence.free Fence.wide := ⟨fun _ => trivial, rfl⟩
theorem free_round {l : Nat} : Fence.free (Fence.wide.inRound l) := ⟨fun _ => trivial, rfl⟩
def WI (Fe : Fence) (P : Program) (c : Code) (Q : Exit → Act → World → Prop) (n : Fr) (L : List (Nat × Value)) (H : List Ch) : Prop := ∀ a w, St n L H a w → c.wpIn Fe 0 P Q a w
def WLI (Fe : Fence) (P : Program) (ops : Array Oper) (Q : Exit → Act → World → Prop) (is : List Nat) (n : Fr) (L : List (Nat × Value)) (H : List Ch) : Prop := ∀ a w, St n L H a w → wpOpsIn Fe 0 P ops Q is a w
theorem WI.region {id : Nat} {l : List Oper} (h : WLI Fe P l.toArray Q (List.range l.toArray.size) n L H) : WI Fe P (.region id l.toArray false) Q n L H := fun a w hs => wpIn_region (h a w hs)
theorem WI.seq {x y : Code} (h : WI Fe P x (Exit.then (y.wpIn Fe 0 P Q) Q) n L H) : WI Fe P (.seq x y) Q n L H := fun a w hs => wpIn_seq (h a w hs)
theorem WI.block {id : Nat} {c : Code} (h : WI Fe P c (Exit.inBlock id Q) n L H) : WI Fe P (.block id c) Q n L H := fun a w hs => wpIn_block (h a w hs)
theorem WI.ret (h : WX Q .ret n L H) : WI Fe P .ret Q n L H := fun a w hs => wpIn_ret (h a w hs)
theorem WI.skip (h : WX Q .normal n L H) : WI Fe P .skip Q n L H := fun a w hs => wpIn_skip (h a w hs)
theorem WI.cond {x y : Code} {p : Prop} [Decidable p] {z : Operand} (hc : evr L z = some (.bool (decide p))) (ht : p → WI Fe P x Q n L H) (hf : ¬ p → WI Fe P y Q n L H) : WI Fe P (.cond z x y) Q n L H :=
  fun a w hs => wpIn_cond_split (hs.eval hc) (fun h => ht (of_decide_eq_true h) a w hs) (fun h => hf (of_decide_eq_false h) a w hs)
theorem WXI.next {y : Code} {Q' : Exit → Act → World → Prop} (h : WI Fe P y Q n L H) : WX (Exit.then (y.wpIn Fe 0 P Q) Q') .normal n L H := fun a w hs => h a w hs
theorem WLI.nil (h : WX Q .normal n L H) : WLI Fe P ops Q [] n L H := fun a w hs => h a w hs
theorem WLI.step {Post : Act → World → Prop} (hF : Fence.free Fe) (hi : ops[i]? = some o) (hg : o.guard = none) (hd : notDefer o.op = true)
    (ho : ∀ a w, St n L H a w → ∀ K : Act → World → Prop, (∀ a' w', Post a' w' → K a' w') → o.uponIn Fe 0 P a K Q ((execOp a.eval o).run P w)) (h : ∀ a w, Post a w → wpOpsIn Fe 0 P ops Q is a w) : WLI Fe P ops Q (i :: is) n L H := fun a w hs => by
  simp only [wpOpsIn, hi]
  rw [if_pos (by simp [Region.wanted, hg])]
  refine ⟨fun f _ => hF.1 f, ?_⟩
  rw [semAt_of hd]
  exact ho a w hs _ h
theorem WLI.v {d : Nat} {v : Value} (hF : Fence.free Fe) (hi : ops[i]? = some o) (hg : o.guard = none) (hd : notDefer o.op = true) (hv : Val P o n L H d v) (h : WLI Fe P ops Q is n (upd L d v) H) : WLI Fe P ops Q (i :: is) n L H :=
  WLI.step (Post := St n (upd L d v) H) hF hi hg hd (fun a w hs K hK => by rw [hv.run a w hs, Oper.uponIn_value, hv.dst]; exact hK _ _ ⟨hs.regs.put hv.lt v, hs.sat⟩) h
theorem WLI.alloc {d : Nat} {ty t : TypeId} {pos : String} {af : Array Edge} {sz by' : Nat} {zero : List Value} (hF : Fence.free Fe) (hi : ops[i]? = some ⟨some d, .alloc t, ty, pos, af, none⟩) (ht : TInf P t sz by' zero) (hn : d < n.n)
    (h : ∀ b, WLI Fe P ops Q is n (upd L d (.pointer (some ⟨b, 0, none⟩))) (blk b zero t :: H)) : WLI Fe P ops Q (i :: is) n L H :=
  WLI.step (Post := fun a w => ∃ b, St n (upd L d (.pointer (some ⟨b, 0, none⟩))) (blk b zero t :: H) a w) hF hi rfl rfl (fun a w hs K hK => by
    obtain ⟨i, z, hi, _, _, hz, hzz⟩ := ht.open
    have hr : (execOp a.eval ⟨some d, .alloc t, ty, pos, af, none⟩).run P w = .ok (.value (.pointer (some ⟨w.heap.size, 0, none⟩))) (w.alloc (.cells zero.toArray t)) := by
      simp [execOp, Instr.alloc, zeroValue, typeInfo, hi, hz, newVar, newRow, ← hzz]
    rw [hr, Oper.uponIn_value]
    exact hK _ _ ⟨_, hs.regs.put hn _, hs.sat.grow (blk_new w zero t) (Chg.alloc _ _ _) (fun b hb => by cases hb; exact Nat.le_refl _)⟩) fun a w ⟨b, hs⟩ => h b a w hs
theorem WLI.storeAll {ty t tb : TypeId} {pos : String} {af : Array Edge} {x y : Operand} {v : Value} {sz b : Nat} {cs : List Value} (hF : Fence.free Fe) (hi : ops[i]? = some ⟨none, .store t x y, ty, pos, af, none⟩) (hsz : (P.info? t).map (·.size) = some sz) (hx : evr L x = some (.pointer (some ⟨b, 0, none⟩))) (hy : evr L y = some v)
    (ht : Take H (blk b cs tb) F) (hl : v.cells.size = sz) (h1 : v.cells.toList.all (·.oneCell') = true) (hk : cs.length = sz) (h : WLI Fe P ops Q is n L (blk b v.cells.toList tb :: F)) : WLI Fe P ops Q (i :: is) n L H :=
  WLI.step (Post := St n L (blk b v.cells.toList tb :: F)) hF hi rfl rfl (fun a w hs K hK => by
    have hb : w.heap[b]? = some (.cells cs.toArray tb (0, 0)) := hs.sat.ok _ (ht.perm.mem_iff.2 (List.mem_cons_self ..))
    have hr : (execOp a.eval ⟨none, .store t x y, ty, pos, af, none⟩).run P w = .ok .skip (w.setRow b (pset cs 0 v.cells.toList).toArray) := by
      have hst := run_storeVar (P := P) (k := 0) (cs := cs) hsz hl h1 hb (by omega)
      simp [execOp, hs.eval hx, hs.eval hy, Instr.storeAt, Instr.sureAddr, hst]
    rw [hr, Oper.uponIn_skip]
    have hp : pset cs 0 v.cells.toList = v.cells.toList := pset_all _ _ (by simp; omega)
    have hsat := blk_store hs.sat ht (k := 0) (vs := v.cells.toList) (by simp; omega)
    rw [hp] at hsat ⊢
    exact hK _ _ ⟨hs.regs, hsat⟩) h
/-! ### A round -/
/-- What a round of the loop l does: 'T' is given to it; true: on; false: stopped. -/
def Round (P : Program) (l f : Nat) (tmps : Array Value) (assign body : Code) (T : List Ch) (r : Bool) (B : List Ch) : Prop :=
  ∀ w, Sat w T → RoundIn Fence.wide 0 P l f tmps assign body w fun e w' => e = .returned (.bool r) ∧ Sat w' B ∧ Chg (MutF T) w w' ∧ ∀ c ∈ B, ∀ b, c.foot b → w.heap.size ≤ b ∨ MutF T b
/-- A round's end. -/
theorem Round.intro {l f m : Nat} {tmps : Array Value} {assign body : Code} {T B : List Ch} {r : Bool} {rec : Loop} {L0 : List (Nat × Value)} (hready : rec.state = .ready) (hsz : tmps.size = m) (hL : ∀ d v, get L0 d = some v → tmps[d]? = some v)
    (h : ∀ w0, WI (Fence.wide.inRound l) P assign (Exit.then (fun a₁ w₁ => ∃ H1, Take H1 (objC l (.loop rec)) (H1.tail) ∧ ∃ L1, St ⟨m, []⟩ L1 H1 a₁ w₁ ∧ (WI (Fence.wide.inRound l) P body (fun e a w => ∃ st, (e = .normal ∧ r = true ∧ st = none ∨ e = .ret ∧ r = false ∧ st = some Code.ret) ∧ ∃ L2 F2, St ⟨m, []⟩ L2 (objC l (.loop { rec with state := .busy }) :: frameC w0 (MutF (objC l (.loop rec) :: T)) :: F2) a w ∧ (objC l (.loop { rec with state := if st.isNone then .ready else .done, pending := st }) :: F2) = B ∧ ∀ c ∈ F2, c.ex = true) ⟨m, []⟩ L1 (objC l (.loop { rec with state := .busy }) :: H1.tail))) (fun _ _ _ => False)) ⟨m, []⟩ L0 ((objC l (.loop rec) :: T) ++ [frameC w0 (MutF (objC l (.loop rec) :: T))])) :
    Round P l f tmps assign body (objC l (.loop rec) :: T) r B := by
  intro w hs
  have hs0 : St ⟨m, []⟩ L0 ((objC l (.loop rec) :: T) ++ [frameC w (MutF (objC l (.loop rec) :: T))]) { tmps := tmps, defers := [] } w := ⟨⟨hsz, rfl, hL⟩, by have := Sat.withFrame (D := []) (fun d hd => by cases hd) (by simpa using hs); simpa using this⟩
  refine roundIn_of_wpIn trivial (wpIn_mono (h w _ _ hs0) ?_)
  intro e a₁ w₁ he
  cases e with
  | normal =>
    obtain ⟨H1, htk, L1, hst, hbody⟩ := he
    have hobj : w₁.heap[l]? = some (.loop rec) := hst.sat.ok _ (htk.perm.mem_iff.2 (List.mem_cons_self ..))
    refine ⟨_, run_beginRound hobj hready, wpIn_mono (hbody _ _ ⟨hst.regs, obj_put hst.sat htk⟩) ?_⟩
    rintro e a w' ⟨st, hor, L2, F2, hst2, rfl, hex⟩
    have hobj2 : w'.heap[l]? = some (.loop { rec with state := .busy }) := hst2.sat.ok _ (List.mem_cons_self ..)
    have hsat3 := obj_put (o' := .loop { rec with state := if st.isNone then .ready else .done, pending := st }) hst2.sat .here
    have hsat4 : Sat (w'.putObj l (.loop { rec with state := if st.isNone then .ready else .done, pending := st })) (frameC w (MutF (objC l (.loop rec) :: T)) :: objC l (.loop { rec with state := if st.isNone then .ready else .done, pending := st }) :: F2) :=
      hsat3.perm (List.Perm.swap ..)
    have hfin := frame_new (F := []) hsat4 (fun c hc => by rcases List.mem_cons.1 hc with rfl | hc; rfl; exact hex c hc)
    rcases hor with ⟨rfl, rfl, rfl⟩ | ⟨rfl, rfl, rfl⟩
    · exact ⟨_, _, run_endRound none hobj2, rfl, hsat4.tail, hfin⟩
    · exact ⟨_, _, run_endRound (some .ret) hobj2, rfl, hsat4.tail, hfin⟩
  | exit id => exact he
  | goto t => exact he
  | ret => exact he
  | panic ch => exact he
  | outgrown => exact he
end
end Go.Proofs.Ytkjlbedebmffgaa.Sx

/- The engine: yield, the range statement, and the way out past its mark. -/
set_option linter.unusedVariables false
set_option linter.unusedSimpArgs false
namespace Go.Proofs.Ytkjlbedebmffgaa.Sx
open Go.RowKit
section
variable {P : Program} {Q : Exit → Act → World → Prop} {n : Fr} {L L' : List (Nat × Value)} {H H' F : List Ch} {ops : Array Oper} {o : Oper} {i : Nat} {is : List Nat}
theorem WC.wide {c : Code} (h : WI Fence.wide P c Q n L H) : WC P c Q n L H := fun a w hs => wpIn_wide.1 (h a w hs)
theorem WLI.yield {d l : Nat} {ty : TypeId} {pos : String} {af : Array Edge} {fx : Operand} {zs : List Operand} {vs : List Value} {ats : Array TypeId} {rec : Loop} {T B : List Ch} {r : Bool} (hi : ops[i]? = some ⟨some d, .call { callee := .value fx, args := zs.toArray, argTypes := ats }, ty, pos, af, none⟩) (hn : d < n.n)
    (hf : evr L fx = some (.func (.yield l) #[] #[])) (hargs : zs.map (evr L) = vs.map some) (hps : rec.params.size = vs.length) (hT : Takes H (objC l (.loop rec) :: T) F)
    (hr : Round P l rec.fn ((rec.params.zip vs.toArray).foldl (fun tmps (t, a) => tmps.setIfInBounds t a) rec.tmps) rec.assign rec.body (objC l (.loop rec) :: T) r B)
    (h : WLI Fence.wide P ops Q is n (upd L d (.bool r)) (B ++ F)) : WLI Fence.wide P ops Q (i :: is) n L H :=
  WLI.step (Post := St n (upd L d (.bool r)) (B ++ F)) free_wide hi rfl rfl (fun a w hs K hK => by
    have h1 := hs.sat.takes hT
    have hobj : w.heap[l]? = some (.loop rec) := h1.ok _ (List.mem_cons_self ..)
    have e1 : zs.toArray.map a.eval = vs.toArray := by rw [List.map_toArray, evals hs zs vs hargs]
    have hrun : (execOp a.eval ⟨some d, .call { callee := .value fx, args := zs.toArray, argTypes := ats }, ty, pos, af, none⟩).run P w =
        .ok (.round l rec.fn ((rec.params.zip vs.toArray).foldl (fun tmps (t, a) => tmps.setIfInBounds t a) rec.tmps) rec.assign rec.body) w := by
      have hy := run_yield (P := P) (args := vs.toArray) hobj (by simp [hps])
      simp only [execOp, resolve, Deferred.ofValue, invoke, e1, hs.eval hf, Sem.run_bind, Sem.run_pure, Result.andThen_ok]
      simpa using hy
    rw [hrun, Oper.uponIn_round]
    refine ⟨fun h => (by cases h), (hr w h1.app_left).mono ?_⟩
    rintro e w' ⟨rfl, hB, hchg, hnew⟩
    exact hK _ _ ⟨hs.regs.put hn _, h1.frame hB hchg hnew⟩) h
/-- 'for .. := range g { .. }', at a loop that no other holds. -/
theorem WC.range {m f : Nat} {g : Operand} {ps : Array Tmp} {assign body : Code} {v1 : Value} {T D : List Ch} {R : Type} {φ : R → Prop} {ret : R → Value} {B : R → List Ch} {stop : R → Bool}
    (hg : evr L g = some (.func (.func f) #[] #[v1])) (hc : Callable P f) (hG : Give H T D F)
    (hspec : ∀ (l dl fn : Nat) (tmps : Array Value), tmps.size = m → (∀ d v, get L d = some v → tmps[d]? = some v) →
      Spec P f [.func (.yield l) #[] #[], v1] (objC l (.loop ⟨.ready, none, fn, tmps, ps, assign, body, dl⟩) :: T) D φ ret (fun r => objC l (.loop ⟨if stop r then .done else .ready, if stop r then some .ret else none, fn, tmps, ps, assign, body, dl⟩) :: B r))
    (hno : ∀ r dl, φ r → stop r = false → WX Q .normal ⟨m, [⟨.collected dl, #[]⟩]⟩ L (objC dl (.deferred (some [])) :: (B r ++ F)))
    (hyes : ∀ r dl, φ r → stop r = true → WX Q .ret ⟨m, [⟨.collected dl, #[]⟩]⟩ L (objC dl (.deferred (some [])) :: (B r ++ F))) : WC P (.rangeFunc g ps assign body) Q ⟨m, []⟩ L H :=
  WC.wide fun a w hs => wpIn_rangeFunc fun fn _ => by
    have hen := run_enterLoop_outer (P := P) (w := w) fn a.tmps ps assign body
    have hs1 : Sat (w.alloc (.deferred (some []))) (objC w.heap.size (.deferred (some [])) :: H) := hs.sat.grow (heap_alloc_new w _) (Chg.alloc _ _ _) (fun b hb => by cases hb; exact Nat.le_refl _)
    have hs2 : Sat ((w.alloc (.deferred (some []))).alloc (.loop ⟨.ready, none, fn, a.tmps, ps, assign, body, w.heap.size⟩)) (objC (w.heap.size + 1) (.loop ⟨.ready, none, fn, a.tmps, ps, assign, body, w.heap.size⟩) :: objC w.heap.size (.deferred (some [])) :: H) := by
      have e : (w.alloc (.deferred (some []))).heap.size = w.heap.size + 1 := by simp
      refine hs1.grow ?_ (Chg.alloc _ _ _) (fun b hb => by cases hb; rw [e]; exact Nat.le_refl _)
      have := heap_alloc_new (w.alloc (.deferred (some []))) (.loop ⟨.ready, none, fn, a.tmps, ps, assign, body, w.heap.size⟩)
      rw [e] at this
      exact this
    have hres : (resolve a.eval (rangeCall g (w.heap.size + 1)) 0).run P ((w.alloc (.deferred (some []))).alloc (.loop ⟨.ready, none, fn, a.tmps, ps, assign, body, w.heap.size⟩)) = .ok ⟨.fn (.func f) #[v1], #[.func (.yield (w.heap.size + 1)) #[] #[]]⟩ ((w.alloc (.deferred (some []))).alloc (.loop ⟨.ready, none, fn, a.tmps, ps, assign, body, w.heap.size⟩)) := by
      simp [resolve, Deferred.ofValue, rangeCall, hs.eval hg]
      rfl
    refine ⟨_, _, _, _, _, f, #[.func (.yield (w.heap.size + 1)) #[] #[], v1], ((w.alloc (.deferred (some []))).alloc (.loop ⟨.ready, none, fn, a.tmps, ps, assign, body, w.heap.size⟩)), hen, hres, fun _ _ => trivial, ?_, fun h => (by cases h), callsIn_wide.2 ?_⟩
    · simp [invoke, hc.run]
    · have hsp := hspec (w.heap.size + 1) w.heap.size fn a.tmps hs.regs.size hs.regs.get
      have h3 : Sat ((w.alloc (.deferred (some []))).alloc (.loop ⟨.ready, none, fn, a.tmps, ps, assign, body, w.heap.size⟩)) ((objC (w.heap.size + 1) (.loop ⟨.ready, none, fn, a.tmps, ps, assign, body, w.heap.size⟩) :: T) ++ (objC w.heap.size (.deferred (some [])) :: F)) := by
        refine hs2.perm (List.Perm.cons _ ?_)
        exact (List.Perm.cons _ hG.t.perm).trans (List.perm_middle.symm)
      refine (hsp _ (h3.ros fun d hd => ⟨(hG.d.all d hd).1, ?_⟩)).mono ?_
      · obtain ⟨c, hc1, hc2⟩ := (hG.d.all d hd).2
        exact ⟨c, List.mem_cons_of_mem _ hc1, hc2⟩
      · rintro e w' ⟨r, rfl, hφ, hB, hchg, hnew⟩
        have h4 := h3.frame hB hchg hnew
        have hobj : w'.heap[w.heap.size + 1]? = some (.loop ⟨if stop r then .done else .ready, if stop r then some .ret else none, fn, a.tmps, ps, assign, body, w.heap.size⟩) := h4.ok _ (List.mem_cons_self ..)
        have hend := run_endLoop (P := P) hobj (by cases stop r <;> simp)
        have h5 := obj_put (o' := .loop { (⟨if stop r then .done else .ready, if stop r then some .ret else none, fn, a.tmps, ps, assign, body, w.heap.size⟩ : Loop) with state := .exhausted }) h4 .here
        have h6 : St ⟨m, [⟨.collected w.heap.size, #[]⟩]⟩ L (objC w.heap.size (.deferred (some [])) :: (B r ++ F)) { a with defers := [{ target := .collected w.heap.size, args := #[] }] ++ a.defers } (w'.putObj (w.heap.size + 1) (.loop { (⟨if stop r then .done else .ready, if stop r then some .ret else none, fn, a.tmps, ps, assign, body, w.heap.size⟩ : Loop) with state := .exhausted })) := by
          refine ⟨⟨hs.regs.size, ?_, hs.regs.get⟩, h5.tail.perm List.perm_middle⟩
          rw [hs.regs.defers]
          rfl
        cases hst : stop r with
        | false =>
          simp only [hst, Bool.false_eq_true, if_false] at hend h6
          exact ⟨none, _, hend, hno r _ hφ hst _ _ h6⟩
        | true =>
          simp only [hst, if_true] at hend h6
          exact ⟨some .ret, _, hend, wpIn_ret (hyes r _ hφ hst _ _ h6)⟩
/-! ### A function that leaves with a mark -/
def FinM (P : Program) (fn : Func) (w0 : World) (T : List Ch) {R : Type} (φ : R → Prop) (ret : R → Value) (B : R → List Ch) : Exit → Act → World → Prop
  | .normal, a, w => bodyPostM Fence.wide 0 P fn (fun e w' => ∃ r, e = .returned (ret r) ∧ φ r ∧ Sat w' (B r) ∧ Chg (MutF T) w0 w' ∧ ∀ c ∈ B r, ∀ b, c.foot b → w0.heap.size ≤ b ∨ MutF T b) .normal a w
  | .ret, a, w => bodyPostM Fence.wide 0 P fn (fun e w' => ∃ r, e = .returned (ret r) ∧ φ r ∧ Sat w' (B r) ∧ Chg (MutF T) w0 w' ∧ ∀ c ∈ B r, ∀ b, c.foot b → w0.heap.size ≤ b ∨ MutF T b) .ret a w
  | _, _, _ => False
theorem FinM.body {fn : Func} {w0 : World} {T : List Ch} {R : Type} {φ : R → Prop} {ret : R → Value} {B : R → List Ch} {e : Exit} {a : Act} {w : World} (h : FinM P fn w0 T φ ret B e a w) :
    bodyPostM Fence.wide 0 P fn (fun e w' => ∃ r, e = .returned (ret r) ∧ φ r ∧ Sat w' (B r) ∧ Chg (MutF T) w0 w' ∧ ∀ c ∈ B r, ∀ b, c.foot b → w0.heap.size ≤ b ∨ MutF T b) e a w := by
  cases e <;> first | exact h | exact h.elim
theorem Spec.introM {c : Code} {f : FuncId} {fn : Func} {args : List Value} {T D : List Ch} {R : Type} {φ : R → Prop} {ret : R → Value} {B : R → List Ch} (hf : P.funcs[f]? = some fn) {m : Nat} (hm : fn.ntmps = m) (hb : fn.body = some c)
    (hsz : args.length ≤ m) (hD : ∀ d ∈ D, d.ex = false) (h : ∀ w0, WC P c (FinM P fn w0 T φ ret B) ⟨m, []⟩ (argL 0 args) (T ++ D ++ [frameC w0 (MutF T)])) : Spec P f args T D φ ret B := by
  intro w hs
  refine callsIn_wide.1 (callsIn_of_wp_marks (n := 0) hf hb trivial (wpIn_mono (wpIn_wide.2 (h w _ w ⟨⟨?_, rfl, ?_⟩, hs.withFrame hD⟩)) fun _ _ _ h => h.body))
  · simp [hm]; omega
  · intro d v hv
    obtain ⟨_, h2⟩ := argL_get args 0 d v hv
    simp only [Nat.sub_zero] at h2
    have hlt := (List.getElem?_eq_some_iff.1 h2).1
    rw [Array.getElem?_append_left (by simpa using hlt)]
    simpa using h2
theorem FinM.go {m dl : Nat} {fn : Func} {w0 : World} {T : List Ch} {R : Type} {φ : R → Prop} {ret : R → Value} {B : R → List Ch} {e : Exit} (he : e = .ret ∨ e = .normal) (r : R) (hφ : φ r)
    (hres : ∀ a w, St ⟨m, []⟩ L (objC dl (.deferred none) :: F) a w → (results fn a.tmps).run P w = .ok (ret r) w) (hM : Take H (objC dl (.deferred (some []))) F) {F2 : List Ch} (hB : Takes (objC dl (.deferred none) :: F) (frameC w0 (MutF T) :: B r) F2) (hex : ∀ c ∈ B r, c.ex = true) :
    WX (FinM P fn w0 T φ ret B) e ⟨m, [⟨.collected dl, #[]⟩]⟩ L H := by
  intro a w hs
  have hobj : w.heap[dl]? = some (.deferred (some [])) := hs.sat.ok _ (hM.perm.mem_iff.2 (List.mem_cons_self ..))
  have htake := run_takeDeferred (P := P) hobj
  have h1 := obj_put (o' := .deferred none) hs.sat hM
  have h2 := (h1.takes hB).app_left
  have hnew := frame_new (F := []) h2 hex
  have hr := hres { a with defers := [] } (w.putObj dl (.deferred none)) ⟨⟨hs.regs.size, rfl, hs.regs.get⟩, h1⟩
  have hfin : LeavesInM Fence.wide 0 P fn a.tmps (fun e w' => ∃ r, e = .returned (ret r) ∧ φ r ∧ Sat w' (B r) ∧ Chg (MutF T) w0 w' ∧ ∀ c ∈ B r, ∀ b, c.foot b → w0.heap.size ≤ b ∨ MutF T b) a.defers .returning w := by
    rw [hs.regs.defers]
    exact ⟨by simp, .inl ⟨dl, _, rfl, htake, _, hr, r, rfl, hφ, h2.tail, hnew⟩⟩
  rcases he with rfl | rfl <;> exact hfin
theorem FinM.ret1 {m dl : Nat} {fn : Func} {w0 : World} {T : List Ch} {R : Type} {φ : R → Prop} {ret : R → Value} {B : R → List Ch} {e : Exit} (he : e = .ret ∨ e = .normal) (r : R) (hφ : φ r) {r1 : ResultVar}
    (hM : Take H (objC dl (.deferred (some []))) F) (hr : fn.results = #[r1]) (h1 : Res P ⟨m, []⟩ L (objC dl (.deferred none) :: F) r1 (ret r)) {F2 : List Ch} (hB : Takes (objC dl (.deferred none) :: F) (frameC w0 (MutF T) :: B r) F2) (hex : ∀ c ∈ B r, c.ex = true) : WX (FinM P fn w0 T φ ret B) e ⟨m, [⟨.collected dl, #[]⟩]⟩ L H :=
  FinM.go he r hφ (fun a w hs => by rw [results_eq, hr]; simp [h1.run a w hs]) hM hB hex
end
end Go.Proofs.Ytkjlbedebmffgaa.Sx

/- Devices: sectors, what a device's cells are; arrays of bytes compared. -/
set_option linter.unusedVariables false
set_option linter.unusedSimpArgs false
namespace Go.Proofs.Ytkjlbedebmffgaa.Sx
open Go.RowKit Go.ChangeMaps
theorem flat_at {α : Type} {f : α → List Value} {sz : Nat} (hf : ∀ a, (f a).length = sz) : ∀ (l : List α) (i : Nat) (a : α), l[i]? = some a → ((l.flatMap f).drop (i * sz)).take sz = f a := by
  intro l
  induction l with
  | nil => intro i a h; cases h
  | cons x l ih =>
    intro i a h
    cases i with
    | zero =>
      simp only [List.getElem?_cons_zero, Option.some.injEq] at h
      subst h
      rw [Nat.zero_mul, List.drop_zero, List.flatMap_cons, List.take_append_of_le_length (by rw [hf]; exact Nat.le_refl _), List.take_of_length_le (by rw [hf]; exact Nat.le_refl _)]
    | succ i =>
      rw [List.getElem?_cons_succ] at h
      rw [List.flatMap_cons, Nat.succ_mul, Nat.add_comm (i * sz), ← List.drop_drop, List.drop_left' (hf x)]
      exact ih i a h
theorem flat_len {α : Type} {f : α → List Value} {sz : Nat} (hf : ∀ a, (f a).length = sz) (l : List α) : (l.flatMap f).length = l.length * sz := by
  induction l with
  | nil => simp
  | cons x l ih => rw [List.flatMap_cons, List.length_append, hf, ih, List.length_cons, Nat.succ_mul]; omega
/-- A sector's bytes. -/
structure Sct where
  s : List UInt8
  h : s.length = 256
theorem Sct.ext' {a b : Sct} (h : a.s = b.s) : a = b := by cases a; cases b; cases h; rfl
instance : DecidableEq Sct := fun a b => if h : a.s = b.s then .isTrue (Sct.ext' h) else .isFalse fun e => h (e ▸ rfl)
def Sct.z : Sct := ⟨List.replicate 256 0, List.length_replicate ..⟩
def Sct.v (x : Sct) : Value := .agg (bvs x.s).toArray
section
variable {P : Program} {n : Fr} {L : List (Nat × Value)} {H : List Ch} {d : Nat} {ty : TypeId} {pos : String} {af : Array Edge} {g : Option (Nat × Bool)} {x y : Operand} {t e : TypeId} {yt : TypeId}
theorem run_partB {w : World} {l : List UInt8} {i : Nat} {c : UInt8} (hf : Flat P e) (h : l[i]? = some c) : (part e (bvs l).toArray (i * 1)).run P w = .ok (bv c) w := by
  have h' : (bvs l)[i]? = some (bv c) := by simp [bvs, h]
  simp [part, hf.isAgg, h']
theorem run_eqBytes {w : World} {dd : Nat} (he : P.underlying e = some (.int .u8)) (hf : Flat P e) {a b : List UInt8} (hl : a.length = b.length) : ∀ (m k : Nat), k + m ≤ a.length →
    (Op.eqItems (dd + 1) e 1 (bvs a).toArray (bvs b).toArray (List.range' k m)).run P w = .ok (decide ((a.drop k).take m = (b.drop k).take m)) w := by
  intro m
  induction m with
  | zero => intro k _; simp [Op.eqItems]
  | succ m ih =>
    intro k hk
    obtain ⟨ca, ha⟩ : ∃ c, a[k]? = some c := ⟨a[k]'(by omega), List.getElem?_eq_getElem _⟩
    obtain ⟨cb, hb⟩ : ∃ c, b[k]? = some c := ⟨b[k]'(by omega), List.getElem?_eq_getElem _⟩
    have da : (a.drop k).take (m + 1) = ca :: (a.drop (k + 1)).take m := by
      rw [List.drop_eq_getElem_cons (by omega), List.take_succ_cons, (List.getElem?_eq_some_iff.1 ha).2]
    have db : (b.drop k).take (m + 1) = cb :: (b.drop (k + 1)).take m := by
      rw [List.drop_eq_getElem_cons (by omega), List.take_succ_cons, (List.getElem?_eq_some_iff.1 hb).2]
    rw [List.range'_succ]
    simp only [Op.eqItems, Sem.run_bind, run_partB hf ha, run_partB hf hb, Result.andThen_ok, bv, run_equalIn_int w dd e .u8 .u8 _ _ he]
    rw [da, db]
    by_cases h : ca = cb
    · subst h
      have h2 : (((ca.toNat : Int)) == ((ca.toNat : Int))) = true := by simp
      simp only [h2, Bool.not_true, Bool.false_eq_true, if_false, ih (k + 1) (by omega), List.cons.injEq, true_and]
    · have h2 : (((ca.toNat : Int)) == ((cb.toNat : Int))) = false := by
        have : ¬ ((ca.toNat : Int) = (cb.toNat : Int)) := fun e => h (UInt8.toNat_inj.1 (by exact_mod_cast e))
        simpa using this
      simp [h2, h]
theorem op_eqlArr {a b : Sct} (hu : P.underlying t = some (.array 256 e)) (he : P.underlying e = some (.int .u8)) (hf : Flat P e) (hi : (P.info? e).isSome = true) (hc : P.cellsOf e = 1) (hg : P.eqGuardType P.depth t = false) (hn : d < n.n) (hx : evr L x = some a.v) (hy : evr L y = some b.v) :
    Val P ⟨some d, .binOp .eql t x y yt, ty, pos, af, g⟩ n L H d (.bool (decide (a = b))) :=
  Val.mk rfl hn fun ac w hs => by
    obtain ⟨ti, hti⟩ := Option.isSome_iff_exists.1 hi
    have h1 := run_equalIn_array (P := P) w 9999 (bvs a.s).toArray (bvs b.s).toArray hu hti
    rw [hc, List.range_eq_range', run_eqBytes he hf (by rw [a.h, b.h]) 256 0 (by have := a.h; omega)] at h1
    have h2 : (decide ((a.s.drop 0).take 256 = (b.s.drop 0).take 256)) = decide (a = b) := by
      rw [List.drop_zero, List.drop_zero, List.take_of_length_le (by rw [a.h]; exact Nat.le_refl _), List.take_of_length_le (by rw [b.h]; exact Nat.le_refl _)]
      rw [decide_eq_decide]
      exact ⟨Sct.ext', fun e => e ▸ rfl⟩
    rw [h2] at h1
    have h3 : ∀ X Y, (eqGuard .eql t X Y (.agg (bvs a.s).toArray) (.agg (bvs b.s).toArray)).run P w = .ok () w := fun X Y => run_eqGuard_agg (P := P) w .eql t X Y _ _ hg
    have h4 := run_eql_struct (P := P) w t (bvs a.s).toArray (bvs b.s).toArray
    rw [h1] at h4
    simp [execOp, hs.eval hx, hs.eval hy, Sct.v, h3, h4, Result.andThen]
end
/-! ### Devices -/
structure Dk where
  n : Nat
  dur : Int → Sct
  pend : List (Int × Sct)
  ops : Int
  lim : Bool
  limit : Int
  down : Bool
/-- What the map of a device holds. -/
def dmap (f : Int → Sct) (a : Int) : Option Value := if f a = Sct.z then none else some (f a).v
def wcs (p : Int × Sct) : List Value := .int .i64 p.1 :: bvs p.2.s
theorem wcs_length (p : Int × Sct) : (wcs p).length = 257 := by simp [wcs, bvs_length, p.2.h]
def dcells (D : Dk) (bm : Nat) (A : Option Addr) (c : Nat) : List Value := [.int .i64 (D.n : Int), .map (some bm), .slice A D.pend.length c, .int .i64 D.ops, .bool D.lim, .int .i64 D.limit, .bool D.down]
def put (f : Int → Sct) (a : Int) (x : Sct) (i : Int) : Sct := if i = a then x else f i
theorem dmap_put (f : Int → Sct) (a : Int) (x : Sct) (hx : ¬ x = Sct.z) : (fun i => if i = a then some x.v else dmap f i) = dmap (put f a x) := by
  funext i
  unfold dmap put
  by_cases h : i = a
  · simp [h, hx]
  · simp [h]
theorem dmap_del (f : Int → Sct) (a : Int) : (fun i => if i = a then none else dmap f i) = dmap (put f a Sct.z) := by
  funext i
  unfold dmap put
  by_cases h : i = a
  · simp [h]
  · simp [h]
theorem dmap_get (f : Int → Sct) (a : Int) : (dmap f a).getD Sct.z.v = (f a).v := by
  unfold dmap
  split
  · rename_i h; rw [h]; rfl
  · rfl
def applyW (f : Int → Sct) (l : List (Int × Sct)) : Int → Sct := l.foldl (fun g p => put g p.1 p.2) f
/-- The sector as it is seen. -/
def Dk.vis (D : Dk) (a : Int) : Sct := applyW D.dur D.pend a
theorem applyW_append (f : Int → Sct) (l m : List (Int × Sct)) : applyW f (l ++ m) = applyW (applyW f l) m := by simp [applyW]
theorem applyW_none {l : List (Int × Sct)} {a : Int} (f : Int → Sct) (h : ∀ p ∈ l, ¬ p.1 = a) : applyW f l a = f a := by
  induction l generalizing f with
  | nil => rfl
  | cons p l ih =>
    show applyW (put f p.1 p.2) l a = f a
    rw [ih _ fun q hq => h q (List.mem_cons_of_mem _ hq)]
    unfold put
    rw [if_neg fun e => h p (List.mem_cons_self ..) e.symm]
theorem applyW_at {l : List (Int × Sct)} {a : Int} {i : Nat} {p : Int × Sct} (f : Int → Sct) (hp : l[i]? = some p) (ha : p.1 = a) (h : ∀ k q, i < k → l[k]? = some q → ¬ q.1 = a) : applyW f l a = p.2 := by
  have hlt := (List.getElem?_eq_some_iff.1 hp).1
  have e : l = l.take i ++ (p :: l.drop (i + 1)) := by
    conv => lhs; rw [← List.take_append_drop i l, List.drop_eq_getElem_cons hlt, (List.getElem?_eq_some_iff.1 hp).2]
  rw [e, applyW_append]
  show applyW (put _ p.1 p.2) _ a = _
  rw [applyW_none]
  · simp [put, ha]
  · intro q hq
    obtain ⟨k, hk⟩ := List.mem_iff_getElem?.1 hq
    rw [List.getElem?_drop] at hk
    exact h _ q (by omega) hk
def Dk.operate (D : Dk) : Dk × Int := if D.lim = true ∧ D.limit = 0 then ({ D with down := true }, 28) else ({ D with limit := IntKind.i64.wrap (D.limit - 1), ops := IntKind.i64.wrap (D.ops + 1) }, 0)
def Dk.write (D : Dk) (a : Int) (x : List UInt8) : Dk × Int :=
  if D.down then (D, 28) else if ¬ (0 ≤ a ∧ a < D.n) then (D, 8) else if h : x.length = 256 then
    (if D.operate.2 = 0 then ({ D.operate.1 with pend := D.pend ++ [(a, ⟨x, h⟩)] }, 0) else D.operate) else (D, 2)
def Dk.flush (D : Dk) : Dk × Int :=
  if D.down then (D, 28) else if D.operate.2 = 0 then ({ D.operate.1 with dur := applyW D.dur D.pend, pend := [] }, 0) else D.operate
def Dk.read (D : Dk) (a : Int) : List UInt8 × Int := if D.down then ([], 28) else if ¬ (0 ≤ a ∧ a < D.n) then ([], 8) else ((D.vis a).s, 0)
end Go.Proofs.Ytkjlbedebmffgaa.Sx

/- The engine: more operations. -/
set_option linter.unusedVariables false
set_option linter.unusedSimpArgs false
namespace Go.Proofs.Ytkjlbedebmffgaa.Sx
open Go.RowKit
set_option maxRecDepth 100000 in
theorem zf82 : (Try.prog.info? 82).map (·.zero) = some (some Sct.z.v) := by kernel_rfl
theorem zf9 : (Try.prog.info? 9).map (·.zero) = some (some (sv [])) := by kernel_rfl
theorem blk_whole_rx {b m : Nat} {e : TypeId} {cs : List Value} (hl : cs.length = m) (hm : m ≤ maxLen) : (rx (.slice (some ⟨b, 0, none⟩) m m) 1 m cs).Le (blk b cs e) :=
  ⟨fun _ => rfl, (blk_whole_rd hl hm).foot, (blk_whole_rd hl hm).ok⟩
section
variable {P : Program} {Q : Exit → Act → World → Prop} {n : Fr} {L : List (Nat × Value)} {H : List Ch}
theorem WX.nilrx {e : Exit} (sz : Nat) (h : WX Q e n L (rx (.slice none 0 0) sz 0 [] :: H)) : WX Q e n L H := fun a w hs =>
  h a w ⟨hs.regs, hs.sat.free ⟨by simp, by simp [maxLen], none, 0, rfl, Nat.le_refl _, fun hp => absurd hp (by simp)⟩ (fun b hb => absurd hb.1 (by simp))⟩
end
/-! ### Structs built of parts of any length -/
theorem fill_put (post : List Value) (off : Nat) : ∀ (vs zs pre : List Value) (k : Nat), vs.length = zs.length → off + k = pre.length →
    (vs.zipIdx k).foldl (fun (cs : Array Value) p => cs.setIfInBounds (off + p.2) p.1) (pre ++ (zs ++ post)).toArray = (pre ++ (vs ++ post)).toArray := by
  intro vs
  induction vs with
  | nil =>
    intro zs pre k hl _
    have : zs = [] := List.eq_nil_of_length_eq_zero (by simpa using hl.symm)
    subst this
    rfl
  | cons v vs ih =>
    intro zs pre k hl hk
    obtain ⟨z, zs', rfl⟩ : ∃ z zs', zs = z :: zs' := by cases zs with | nil => simp at hl | cons z zs' => exact ⟨z, zs', rfl⟩
    have h2 := ih zs' (pre ++ [v]) (k + 1) (by simpa using hl) (by simp; omega)
    simp only [List.zipIdx_cons, List.foldl_cons]
    have e1 : (pre ++ (z :: zs' ++ post)).toArray.setIfInBounds (off + k) v = (pre ++ [v] ++ (zs' ++ post)).toArray := by
      apply Array.ext'
      rw [hk]
      simp [List.set_append]
    rw [e1, h2]
    simp
theorem fill_cons {place : Nat → Option (Nat × Nat)} {cells : List Value} {i off size : Nat} {v : Value} {rest : List (Nat × Value)} (hp : place i = some (off, size)) (hl : v.cells.toList.length = size) (hb : off + size ≤ cells.length) :
    Instr.fill place cells.toArray ((i, v) :: rest) = Instr.fill place (pset cells off v.cells.toList).toArray rest := by
  have hl' : v.cells.size = size := by simpa using hl
  have h1 : ¬ (v.cells.size ≠ size ∨ off + v.cells.size > cells.toArray.size) := by simp [hl']; omega
  have hc : cells = cells.take off ++ ((cells.drop off).take size ++ cells.drop (off + size)) := by
    rw [← List.drop_drop, List.take_append_drop, List.take_append_drop]
  have h2 := fill_put (cells.drop (off + size)) off v.cells.toList ((cells.drop off).take size) (cells.take off) 0 (by simp [hl']; omega) (by simp; omega)
  rw [← hc] at h2
  conv => lhs; unfold Instr.fill
  rw [hp]
  dsimp only
  rw [if_neg (by simpa using h1)]
  congr 1
  have e3 : pset cells off v.cells.toList = cells.take off ++ (v.cells.toList ++ cells.drop (off + size)) := by simp [pset, hl']
  rw [e3, ← h2, ← Array.foldl_toList]
  simp
def bplaces (P : Program) (t : TypeId) : Option (List Value × List (Nat × Nat)) :=
  match P.info? t, P.underlying t with
  | some it, some (.struct fields) =>
    match it.zero, fields.toList.mapM (fun f => (P.info? f.type).map fun i => (f.offset, i.size)) with
    | some z, some pl => some (z.cells.toList, pl)
    | _, _ => none
  | _, _ => none
theorem built_eq {P : Program} {t : TypeId} {zs : List Value} {pl : List (Nat × Nat)} {parts : List (Nat × Value)} (h : bplaces P t = some (zs, pl)) : P.built t parts = Instr.fill (pl.toArray[·]?) zs.toArray parts := by
  unfold bplaces at h
  unfold Program.built
  split at h
  · rename_i it fs h1 h2
    split at h
    · rename_i z pl' h3 h4
      cases h
      simp only [h1, h2, h3, h4]
    · cases h
  · cases h
set_option maxRecDepth 100000 in
theorem bp84 : bplaces Try.prog 84 = some (.int .i64 0 :: bvs Sct.z.s, [(0, 1), (1, 256)]) := by kernel_rfl
theorem built84 (i : Int) (x : Sct) : Try.prog.built 84 [(0, .int .i64 i), (1, .agg (bvs x.s).toArray)] = some (wcs (i, x)).toArray := by
  have hz : (bvs Sct.z.s).length = 256 := by rw [bvs_length, Sct.z.h]
  have hx : (bvs x.s).length = 256 := by rw [bvs_length, x.h]
  rw [built_eq bp84, fill_cons (off := 0) (size := 1) rfl rfl (by simp), fill_cons (off := 1) (size := 256) (v := .agg (bvs x.s).toArray) rfl hx (by simp [pset, Value.cells, hz])]
  have e1 : pset (.int .i64 0 :: bvs Sct.z.s) 0 (Value.cells (.int .i64 i)).toList = .int .i64 i :: bvs Sct.z.s := rfl
  have e2 : pset (.int .i64 i :: bvs Sct.z.s) 1 (Value.cells (.agg (bvs x.s).toArray)).toList = wcs (i, x) := by
    show pset _ 1 (bvs x.s) = _
    simp [pset, wcs, hx, List.drop_eq_nil_of_le, hz]
  rw [e1, e2]
  rfl
section
variable {P : Program} {Q : Exit → Act → World → Prop} {n : Fr} {L L' : List (Nat × Value)} {H H' F : List Ch} {d : Nat} {ty : TypeId} {pos : String} {af : Array Edge} {g : Option (Nat × Bool)} {x y z : Operand} {v u : Value} {t e yt : TypeId}
theorem op_neqnil {a0 : Addr} (hu : P.underlying t = some (.pointer e)) (hn : d < n.n) (hx : evr L x = some (.pointer (some a0))) (hy : evr L y = some (.pointer none)) :
    Val P ⟨some d, .binOp .neq t x y yt, ty, pos, af, g⟩ n L H d (.bool true) :=
  binop_val hn hx hy (fun _ _ => rfl) fun w => by
    have h : ∀ k, (Op.equalIn (k + 1) t (.pointer (some a0)) (.pointer none)).run P w = .ok false w := fun k => by
      simp [Op.equalIn, Sem.run_bind, run_underlying hu]
    have h2 : (Op.equal t (.pointer (some a0)) (.pointer none)).run P w = .ok false w := h 9999
    simp only [binOp, Sem.run_bind, h2, Result.andThen]
    rfl
theorem op_makeFunc {f : Fn} (hn : d < n.n) (hx : evr L x = some v) (hg : g = g) : Val P ⟨some d, .makeFunc f #[] #[x], ty, pos, af, g⟩ n L H d (.func f #[] #[v]) :=
  Val.mk rfl hn fun a w hs => by simp [execOp, Instr.makeFunc, hs.eval hx]
section
variable {src dst xt : TypeId}
theorem op_shl8u {a : Nat} (hn : d < n.n) (hx : evr L x = some (.int .u64 (a : Int))) (hy : evr L y = some (.int .u64 8)) (hs : a < 72057594037927936) :
    Val P ⟨some d, .binOp .shl xt x y yt, ty, pos, af, g⟩ n L H d (.int .u64 ((a * 256 : Nat) : Int)) :=
  binop_val hn hx hy (fun _ _ => rfl) fun w => by
    have e : IntKind.u64.wrap ((a : Int) * 256) = ((a * 256 : Nat) : Int) := by simp [IntKind.wrap, IntKind.bits, IntKind.signed]; omega
    simp [binOp_shl, Op.shift, IntKind.bits, e]
theorem op_or8u {a b : Nat} (hn : d < n.n) (hx : evr L x = some (.int .u64 (a : Int))) (hy : evr L y = some (.int .u64 (b : Int))) (hs : b < 256 ∧ a < 18446744073709551616 ∧ a % 256 = 0) :
    Val P ⟨some d, .binOp .or xt x y yt, ty, pos, af, g⟩ n L H d (.int .u64 ((a + b : Nat) : Int)) :=
  binop_val hn hx hy (fun _ _ => rfl) fun w => by
    obtain ⟨q, rfl⟩ : ∃ q, a = q <<< 8 := ⟨a / 256, by rw [Nat.shiftLeft_eq]; omega⟩
    have hk : q <<< 8 < 2 ^ 64 := by omega
    have hm : b < 2 ^ 8 := by omega
    have hor : (q <<< 8) ||| b = q <<< 8 + b := (Nat.shiftLeft_add_eq_or_of_lt hm q).symm
    have e : IntKind.u64.wrap ((BitVec.ofInt 64 ((q <<< 8 : Nat) : Int) ||| BitVec.ofInt 64 (b : Int)).toNat : Int) = ((q <<< 8 + b : Nat) : Int) := by
      rw [BitVec.toNat_or, BitVec.ofInt_natCast, BitVec.ofInt_natCast, BitVec.toNat_ofNat, BitVec.toNat_ofNat, Nat.mod_eq_of_lt hk, Nat.mod_eq_of_lt (by omega : b < 2 ^ 64), hor]
      generalize q <<< 8 = A at *
      simp [IntKind.wrap, IntKind.bits, IntKind.signed]; omega
    rw [binOp_or]
    exact congrArg (fun z : Int => (Result.ok (Value.int .u64 z) w : Result Value)) e
theorem op_conv8u {c : UInt8} (hs : (P.underlying src).isSome = true) (hd : P.underlying dst = some (.int .u64)) (hn : d < n.n) (hx : evr L x = some (bv c)) :
    Val P ⟨some d, .convert src dst x, ty, pos, af, g⟩ n L H d (.int .u64 ((c.toNat : Nat) : Int)) := by
  have h := op_conv (P := P) (H := H) (ty := ty) (pos := pos) (af := af) (g := g) (k := .u8) hs hd hn hx
  have hc := c.toNat_lt
  have e : IntKind.u64.wrap (c.toNat : Int) = (c.toNat : Int) := by simp [IntKind.wrap, IntKind.bits, IntKind.signed]; omega
  rw [e] at h
  exact h
theorem op_convu64i {a : Int} (hs : (P.underlying src).isSome = true) (hd : P.underlying dst = some (.int .i64)) (hn : d < n.n) (hx : evr L x = some (.int .u64 a)) (ha : -9223372036854775808 ≤ a ∧ a < 9223372036854775808) :
    Val P ⟨some d, .convert src dst x, ty, pos, af, g⟩ n L H d (.int .i64 a) := by
  have h := op_conv (P := P) (H := H) (ty := ty) (pos := pos) (af := af) (g := g) (k := .u64) hs hd hn hx
  have e : IntKind.i64.wrap a = a := by rw [IntKind.wrap_i64]; omega
  rw [e] at h
  exact h
theorem op_conv16i {a : Int} (hs : (P.underlying src).isSome = true) (hd : P.underlying dst = some (.int .i64)) (hn : d < n.n) (hx : evr L x = some (.int .u16 a)) (h0 : 0 ≤ a ∧ a < 65536) :
    Val P ⟨some d, .convert src dst x, ty, pos, af, g⟩ n L H d (.int .i64 a) := by
  have h := op_conv (P := P) (H := H) (ty := ty) (pos := pos) (af := af) (g := g) (k := .u16) hs hd hn hx
  have e : IntKind.i64.wrap a = a := by rw [IntKind.wrap_i64]; omega
  rw [e] at h
  exact h
end
/-- 's[:m:m]'. -/
theorem op_clip {A : Option Addr} {m c sz : Nat} {xh xm : Operand} (hu : P.underlying t = some (.slice e)) (hsz : (P.info? e).map (·.size) = some sz) (hn : d < n.n) (hx : evr L x = some (.slice A m c)) (hh : evr L xh = some (.int .i64 (m : Int))) (hm : evr L xm = some (.int .i64 (m : Int))) (hc : m ≤ c) :
    Val P ⟨some d, .slice t x none (some xh) (some xm), ty, pos, af, g⟩ n L H d (.slice A m m) :=
  Val.mk rfl hn fun a w hs => by
    have e1 : (if m = 0 then A else A.map (·.add (0 * sz))) = A := by
      cases A <;> simp [Addr.add]
    have h1 : ((m : Int)) ≤ (c : Int) := by omega
    simp [execOp, hs.eval hx, hs.eval hh, hs.eval hm, Instr.sliceAt, Instr.slice, Sem.run_bind, run_underlying hu, Instr.sliceBounds, run_sliceBound, run_sizeOf hsz, hc]
    cases A <;> simp [Addr.add]
theorem own_le_rdc {A : Option Addr} {e : TypeId} {sz m c : Nat} {xs : List Value} : (rd (.slice A m m) sz m xs).Le (own (.slice A m c) e sz m xs) := by
  refine ⟨fun h => (by cases h), fun b h => ?_, fun w h => ?_⟩
  · have := h.2
    cases A with
    | none => simp [Value.ownBlock] at this
    | some a => simpa [own, Value.ownBlock] using this
  · obtain ⟨h1, h2, A', c', he, hc, h3⟩ := own_le_rd.ok w h
    cases he
    exact ⟨h1, h2, A, m, rfl, Nat.le_refl _, h3⟩
/-- append where there is no room. -/
theorem op_appendFull {A B : Option Addr} {m k cB sz by' : Nat} {zero xs ys : List Value} (hu : P.underlying t = some (.slice e)) (he : TInf P e sz by' zero) (hzl : zero.length = sz) (hpos : 0 < sz) (hn : d < n.n)
    (hx : evr L x = some (.slice A m m)) (hy : evr L y = some (.slice B k cB)) (hsx : Src H (.slice A m m) sz m xs) (hsrc : Src H (.slice B k cB) sz k ys) (hk : 0 < k) (hb : (m + k) * by' ≤ 140737488355328) (h63 : m + k ≤ 1000000000) :
    Opn P Q ⟨some d, .call { callee := .builtin .append, args := #[x, y], argTypes := #[t, t] }, ty, pos, af, g⟩ n L H
      (fun a w => ∃ A' c', St n (upd L d (.slice A' (m + k) c')) (own (.slice A' (m + k) c') e sz (m + k) (xs ++ ys) :: H) a w) := by
  obtain ⟨i, z, hi, hs1, hs2, hz, hzz⟩ := he.open
  intro a w hs K hK
  have hzc : z.cells.size = sz := by rw [← hzl, ← hzz]; simp
  obtain ⟨x1, x2, A', c', x3, x4, x5⟩ := hsx.ok hs.sat
  cases x3
  obtain ⟨y1, y2, B', cB', y3, y4, y5⟩ := hsrc.ok hs.sat
  cases y3
  have hyp : 0 < ys.length := by rw [y1]; exact Nat.mul_pos hk hpos
  obtain ⟨b, o, rfl, y6⟩ := y5 hyp
  have hlen : (xs ++ ys).length = (m + k) * sz := by rw [List.length_append, x1, y1, Nat.add_mul]
  have h63' : m + k ≤ maxLen := Nat.le_trans h63 (by decide)
  have grown : ∀ old, (w.drew.alloc (.cells (xs.toArray ++ ys.toArray ++ Builtin.zeroCells z.cells (grownCap w (m + k) old e - (m + k))) e)).ownsRow 0 e sz (.slice (some ⟨w.heap.size, 0, none⟩) (m + k) (grownCap w (m + k) old e)) (m + k) (xs ++ ys) := by
    intro old
    have hge := grownCap_ge w (m + k) old e
    have hcm := grownCap_le_maxLen w (m + k) old e h63'
    refine ⟨hlen, .inr ⟨w.heap.size, _, _, rfl, Nat.zero_le _, heap_alloc_new w.drew _, hge, hcm, ?_, ?_⟩⟩
    · simp only [Array.size_append, List.size_toArray, size_zeroCells, hzc, x1, y1, ← Nat.add_mul]
      congr 1
      omega
    · simp only [Array.toList_append, List.append_assoc]
      rw [← List.append_assoc, ← hlen]
      exact List.take_left
  have hmain : ∃ old, (Builtin.append_ #[t, t] ty #[.slice A m m, .slice (some ⟨b, o, none⟩) k cB]).run P w = .ok (.slice (some ⟨w.heap.size, 0, none⟩) (m + k) (grownCap w (m + k) old e)) (w.drew.alloc (.cells (xs.toArray ++ ys.toArray ++ Builtin.zeroCells z.cells (grownCap w (m + k) old e - (m + k))) e)) := by
    subst hs1
    subst hs2
    by_cases hm0 : A = none
    · subst hm0
      have hm : m = 0 := by
        by_cases h : m = 0
        · exact h
        · obtain ⟨_, _, h2, _⟩ := x5 (by rw [x1]; exact Nat.mul_pos (Nat.pos_of_ne_zero h) hpos)
          cases h2
      subst hm
      have hx0 : xs = [] := List.eq_nil_of_length_eq_zero (by simpa using x1)
      subst hx0
      have hr := run_append_nil (P := P) w t ty e i z hu hi hz ⟨b, o, none⟩ k cB ys y1 (fun j u hu => by rw [add_at]; exact y6 j u hu) hk (by omega) (by have h := hb; simp only [Nat.zero_add] at h; omega)
      exact ⟨0, by simpa using hr⟩
    · obtain ⟨p, rfl⟩ := Option.ne_none_iff_exists'.1 hm0
      by_cases hmz : xs.length = 0
      · have hxe : xs = [] := List.eq_nil_of_length_eq_zero hmz
        have hm : m = 0 := by
          rw [hmz] at x1
          rcases Nat.mul_eq_zero.1 x1.symm with h | h
          · exact h
          · omega
        subst hxe
        subst hm
        have hr := run_append_grow (P := P) w t ty e i z hu hi hz p 0 0 [] (by simp) (fun j u hj => by simp at hj) ⟨b, o, none⟩ k cB ys y1 (fun j u hu => by rw [add_at]; exact y6 j u hu) (by omega) (by omega) (growslice_fits (by omega) hb)
        exact ⟨0, hr⟩
      · obtain ⟨b2, o2, hp2, x6⟩ := x5 (by omega)
        cases hp2
        have hr := run_append_grow (P := P) w t ty e i z hu hi hz ⟨b2, o2, none⟩ m m xs x1 (fun j u hj => by rw [add_at]; exact x6 j u hj) ⟨b, o, none⟩ k cB ys y1 (fun j u hu => by rw [add_at]; exact y6 j u hu) (by omega) (by omega) (growslice_fits (by omega) hb)
        exact ⟨m, hr⟩
  obtain ⟨old, hr⟩ := hmain
  unfold Oper.wp
  have hrun : (execOp a.eval ⟨some d, .call { callee := .builtin .append, args := #[x, y], argTypes := #[t, t] }, ty, pos, af, g⟩).run P w = .ok (.value (.slice (some ⟨w.heap.size, 0, none⟩) (m + k) (grownCap w (m + k) old e))) (w.drew.alloc (.cells (xs.toArray ++ ys.toArray ++ Builtin.zeroCells z.cells (grownCap w (m + k) old e - (m + k))) e)) := by
    simp only [execOp, resolve, invoke, builtin, Sem.run_bind, Sem.run_pure, Result.andThen_ok, List.map_toArray, List.map_cons, List.map_nil, hs.eval hx, hs.eval hy, hr]
  rw [hrun, Oper.upon_value]
  refine hK _ _ ⟨_, _, hs.regs.put hn _, hs.sat.grow (grown old) ⟨rfl, rfl, rfl, by simp, fun j hj _ => heap_alloc_old w.drew _ hj⟩ (fun b hb => ?_)⟩
  simp only [own, Value.ownBlock, Option.some.injEq] at hb
  omega
/-- A call of a function that is known by its value alone. -/
theorem op_callv {f : FuncId} {fx : Operand} {xs : List Operand} {vs : List Value} {ats : Array TypeId} {T D : List Ch} {R : Type} {φ : R → Prop} {ret : R → Value} {B : R → List Ch} (hsp : Spec P f vs T D φ ret B) (hc : Callable P f) (hn : d < n.n)
    (hf : evr L fx = some (.func (.func f) #[] #[])) (hargs : xs.map (evr L) = vs.map some) (hG : Give H T D F) :
    Opn P Q ⟨some d, .call { callee := .value fx, args := xs.toArray, argTypes := ats }, ty, pos, af, g⟩ n L H (fun a w => ∃ r, φ r ∧ St n (upd L d (ret r)) (B r ++ F) a w) := by
  intro a w hs K hK
  have e1 : xs.toArray.map a.eval = vs.toArray := by rw [List.map_toArray, evals hs xs vs hargs]
  have hrun : (execOp a.eval ⟨some d, .call { callee := .value fx, args := xs.toArray, argTypes := ats }, ty, pos, af, g⟩).run P w = .ok (.enter f vs.toArray) w := by
    simp only [execOp, resolve, Deferred.ofValue, invoke, e1, hs.eval hf, Sem.run_bind, Sem.run_pure, Result.andThen_ok]
    simp [hc.run]
  unfold Oper.wp
  rw [hrun, Oper.upon_enter]
  have h1 := hs.sat.takes hG.t
  refine (hsp w (h1.ros hG.d.all)).mono ?_
  rintro e w' ⟨r, rfl, hφ, hB, hchg, hnew⟩
  exact hK _ _ ⟨r, hφ, hs.regs.put hn _, h1.frame hB hchg hnew⟩
section
variable {a b : Int} {xt : TypeId}
theorem op_addW (hn : d < n.n) (hx : evr L x = some (.int .i64 a)) (hy : evr L y = some (.int .i64 b)) : Val P ⟨some d, .binOp .add xt x y yt, ty, pos, af, g⟩ n L H d ((.int .i64 (IntKind.i64.wrap (a + b)))) :=
  binop_val hn hx hy (fun _ _ => rfl) fun w => by simp [binOp, Op.intArith]
theorem op_subW (hn : d < n.n) (hx : evr L x = some (.int .i64 a)) (hy : evr L y = some (.int .i64 b)) : Val P ⟨some d, .binOp .sub xt x y yt, ty, pos, af, g⟩ n L H d ((.int .i64 (IntKind.i64.wrap (a - b)))) :=
  binop_val hn hx hy (fun _ _ => rfl) fun w => by simp [binOp, Op.intArith]
end
theorem WX.chEq {e : Exit} {c : Ch} (c' : Ch) (hc : Take H c F) (he : c = c') (h : WX Q e n L (c' :: F)) : WX Q e n L H := fun a w hs => h a w ⟨hs.regs, he ▸ hs.sat.perm hc.perm⟩
theorem WL.chEq {ops : Array Oper} {rest : List Oper} {c : Ch} (c' : Ch) (hc : Take H c F) (he : c = c') (h : WL P ops Q rest n L (c' :: F)) : WL P ops Q rest n L H := fun a w hs => h a w ⟨hs.regs, he ▸ hs.sat.perm hc.perm⟩
theorem zip2_get {tmps : Array Value} {x y : Value} {i j m : Nat} {L : List (Nat × Value)} (hsz : tmps.size = m) (hi : i < m) (hj : j < m) (hij : ¬ i = j) (h : ∀ d v, get L d = some v → tmps[d]? = some v) :
    ∀ d v, get ((i, x) :: (j, y) :: L) d = some v → ((#[i, j].zip #[x, y]).foldl (fun (t : Array Value) (p : Nat × Value) => t.setIfInBounds p.1 p.2) tmps)[d]? = some v := by
  intro d v hv
  have e1 := get_upd (L := (j, y) :: L) (d := i) (e := d) (v := x)
  have e2 := get_upd (L := L) (d := j) (e := d) (v := y)
  simp only [upd] at e1 e2
  rw [e1] at hv
  have hf : (#[i, j].zip #[x, y]).foldl (fun (t : Array Value) (p : Nat × Value) => t.setIfInBounds p.1 p.2) tmps = (tmps.setIfInBounds i x).setIfInBounds j y := by simp
  rw [hf, Array.getElem?_setIfInBounds, Array.getElem?_setIfInBounds]
  by_cases h1 : i = d
  · subst h1
    rw [if_pos rfl] at hv
    cases hv
    simp [hsz, hi, Ne.symm hij, fun e : j = i => hij e.symm]
  · rw [if_neg h1, e2] at hv
    by_cases h2 : j = d
    · subst h2
      rw [if_pos rfl] at hv
      cases hv
      simp [hsz, hj]
    · rw [if_neg h2] at hv
      rw [if_neg h2, if_neg h1]
      exact h d v hv
/-- The array at the beginning of a slice that is read. -/
theorem op_sl2arrS {len m c sz : Nat} {A : Option Addr} {xs : List Value} (hu : P.underlying t = some (.array len e)) (hn : d < n.n) (hx : evr L x = some (.slice A m c)) (hm : len ≤ m) (hsrc : Src H (.slice A m c) sz m xs) (hp : 0 < xs.length) :
    Val P ⟨some d, .sliceToArrayPointer t x, ty, pos, af, g⟩ n L H d (cellAddr A 0) :=
  Val.mk rfl hn fun a w hs => by
    obtain ⟨b, o, rfl, _⟩ := hsrc.at_ hs.sat hp
    have : ¬ m < len := by omega
    simp [execOp, hs.eval hx, Instr.arrayAt, Sem.run_bind, run_underlying hu, this, cellAddr]
end
end Go.Proofs.Ytkjlbedebmffgaa.Sx

/- Calls that are deferred: what they do, and a function's leaving through them. -/
set_option linter.unusedVariables false
set_option linter.unusedSimpArgs false
namespace Go.Proofs.Ytkjlbedebmffgaa.Sx
open Go.RowKit
section
variable {P : Program} {Q : Exit → Act → World → Prop} {n : Fr} {L : List (Nat × Value)} {H F : List Ch} {ops : Array Oper} {rest : List Oper} {c : Code}
/-- What a deferred call does. -/
def SpecD (P : Program) (f : FuncId) (args : List Value) (T D : List Ch) {R : Type} (φ : R → Prop) (ret : R → Value) (B : R → List Ch) : Prop :=
  ∀ w, Sat w (T ++ D) → CallsD P f args.toArray .returning w fun e u' w' => u' = .returning ∧ ∃ r, e = .returned (ret r) ∧ φ r ∧ Sat w' (B r) ∧ Chg (MutF T) w w' ∧ ∀ c ∈ B r, ∀ b, c.foot b → w.heap.size ≤ b ∨ MutF T b
theorem SpecD.intro {f : FuncId} {fn : Func} {args : List Value} {T D : List Ch} {R : Type} {φ : R → Prop} {ret : R → Value} {B : R → List Ch} (hf : P.funcs[f]? = some fn) {m : Nat} (hm : fn.ntmps = m) (hb : fn.body = some c)
    (hsz : args.length ≤ m) (hD : ∀ d ∈ D, d.ex = false) (h : ∀ w0, WC P c (Fin P fn w0 T φ ret B) ⟨m, []⟩ (argL 0 args) (T ++ D ++ [frameC w0 (MutF T)])) : SpecD P f args T D φ ret B := by
  intro w hs
  refine (callsD_of_wp hf hb (h w _ w ⟨⟨?_, rfl, ?_⟩, hs.withFrame hD⟩)).mono fun e u' w' k => k
  · simp [hm]; omega
  · intro d v hv
    obtain ⟨_, h2⟩ := argL_get args 0 d v hv
    simp only [Nat.sub_zero] at h2
    have hlt := (List.getElem?_eq_some_iff.1 h2).1
    rw [Array.getElem?_append_left (by simpa using hlt)]
    simpa using h2
/-- The end of a function that may have deferred calls. -/
def FinD (P : Program) (fn : Func) (w0 : World) (T : List Ch) {R : Type} (φ : R → Prop) (ret : R → Value) (B : R → List Ch) : Exit → Act → World → Prop
  | .normal, a, w => Leaves P fn a.tmps (fun e w' => ∃ r, e = .returned (ret r) ∧ φ r ∧ Sat w' (B r) ∧ Chg (MutF T) w0 w' ∧ ∀ c ∈ B r, ∀ b, c.foot b → w0.heap.size ≤ b ∨ MutF T b) a.defers .returning w
  | .ret, a, w => Leaves P fn a.tmps (fun e w' => ∃ r, e = .returned (ret r) ∧ φ r ∧ Sat w' (B r) ∧ Chg (MutF T) w0 w' ∧ ∀ c ∈ B r, ∀ b, c.foot b → w0.heap.size ≤ b ∨ MutF T b) a.defers .returning w
  | _, _, _ => False
theorem FinD.body {fn : Func} {w0 : World} {T : List Ch} {R : Type} {φ : R → Prop} {ret : R → Value} {B : R → List Ch} {e : Exit} {a : Act} {w : World} (h : FinD P fn w0 T φ ret B e a w) :
    bodyPostD P fn (fun e w' => ∃ r, e = .returned (ret r) ∧ φ r ∧ Sat w' (B r) ∧ Chg (MutF T) w0 w' ∧ ∀ c ∈ B r, ∀ b, c.foot b → w0.heap.size ≤ b ∨ MutF T b) e a w := by
  cases e <;> first | exact h | exact h.elim
theorem Spec.introD {f : FuncId} {fn : Func} {args : List Value} {T D : List Ch} {R : Type} {φ : R → Prop} {ret : R → Value} {B : R → List Ch} (hf : P.funcs[f]? = some fn) {m : Nat} (hm : fn.ntmps = m) (hb : fn.body = some c)
    (hsz : args.length ≤ m) (hD : ∀ d ∈ D, d.ex = false) (h : ∀ w0, WC P c (FinD P fn w0 T φ ret B) ⟨m, []⟩ (argL 0 args) (T ++ D ++ [frameC w0 (MutF T)])) : Spec P f args T D φ ret B := by
  intro w hs
  refine calls_of_wp_defers hf hb (wp_mono (h w _ w ⟨⟨?_, rfl, ?_⟩, hs.withFrame hD⟩) fun _ _ _ h => h.body)
  · simp [hm]; omega
  · intro d v hv
    obtain ⟨_, h2⟩ := argL_get args 0 d v hv
    simp only [Nat.sub_zero] at h2
    have hlt := (List.getElem?_eq_some_iff.1 h2).1
    rw [Array.getElem?_append_left (by simpa using hlt)]
    simpa using h2
theorem FinD.go {m : Nat} {fn : Func} {w0 : World} {T : List Ch} {R : Type} {φ : R → Prop} {ret : R → Value} {B : R → List Ch} {e : Exit} (he : e = .ret ∨ e = .normal) (r : R) (hφ : φ r)
    (hres : ∀ a w, St ⟨m, []⟩ L H a w → (results fn a.tmps).run P w = .ok (ret r) w) (hB : Takes H (frameC w0 (MutF T) :: B r) F) (hex : ∀ c ∈ B r, c.ex = true) : WX (FinD P fn w0 T φ ret B) e ⟨m, []⟩ L H := by
  intro a w hs
  have hsat := (hs.sat.takes hB).app_left
  have hchg : Chg (MutF T) w0 w := hsat.head
  have hap := (List.pairwise_cons.1 hsat.apart).1
  have hfin : Leaves P fn a.tmps (fun e w' => ∃ r, e = .returned (ret r) ∧ φ r ∧ Sat w' (B r) ∧ Chg (MutF T) w0 w' ∧ ∀ c ∈ B r, ∀ b, c.foot b → w0.heap.size ≤ b ∨ MutF T b) a.defers .returning w := by
    rw [hs.regs.defers]
    refine ⟨_, hres a w hs, r, rfl, hφ, hsat.tail, hchg, fun c hc b hb => ?_⟩
    by_cases hlt : b < w0.heap.size
    · right
      by_cases hm : MutF T b
      · exact hm
      · exact absurd hb (hap c hc (.inr (hex c hc)) b ⟨hlt, hm⟩)
    · left; omega
  rcases he with rfl | rfl <;> exact hfin
theorem FinD.ret0 {m : Nat} {fn : Func} {w0 : World} {T : List Ch} {R : Type} {φ : R → Prop} {ret : R → Value} {B : R → List Ch} {e : Exit} (he : e = .ret ∨ e = .normal) (r : R) (hφ : φ r)
    (hr : fn.results = #[]) (hv : ret r = .tuple #[]) (hB : Takes H (frameC w0 (MutF T) :: B r) F) (hex : ∀ c ∈ B r, c.ex = true) : WX (FinD P fn w0 T φ ret B) e ⟨m, []⟩ L H :=
  FinD.go he r hφ (fun a w hs => by rw [results_eq, hr, hv]; simp) hB hex
theorem FinD.ret1 {m : Nat} {fn : Func} {w0 : World} {T : List Ch} {R : Type} {φ : R → Prop} {ret : R → Value} {B : R → List Ch} {e : Exit} (he : e = .ret ∨ e = .normal) (r : R) (hφ : φ r) {r1 : ResultVar}
    (hr : fn.results = #[r1]) (h1 : Res P ⟨m, []⟩ L H r1 (ret r)) (hB : Takes H (frameC w0 (MutF T) :: B r) F) (hex : ∀ c ∈ B r, c.ex = true) : WX (FinD P fn w0 T φ ret B) e ⟨m, []⟩ L H :=
  FinD.go he r hφ (fun a w hs => by rw [results_eq, hr]; simp [h1.run a w hs]) hB hex
theorem FinD.ret2 {m : Nat} {fn : Func} {w0 : World} {T : List Ch} {R : Type} {φ : R → Prop} {ret : R → Value} {B : R → List Ch} {e : Exit} (he : e = .ret ∨ e = .normal) (r : R) (hφ : φ r) {r1 r2 : ResultVar} {v1 v2 : Value}
    (hr : fn.results = #[r1, r2]) (hv : ret r = .tuple #[v1, v2]) (h1 : Res P ⟨m, []⟩ L H r1 v1) (h2 : Res P ⟨m, []⟩ L H r2 v2) (hB : Takes H (frameC w0 (MutF T) :: B r) F) (hex : ∀ c ∈ B r, c.ex = true) : WX (FinD P fn w0 T φ ret B) e ⟨m, []⟩ L H :=
  FinD.go he r hφ (fun a w hs => by rw [results_eq, hr, hv]; simp [h1.run a w hs, h2.run a w hs]) hB hex
/-- The last deferred call is carried out; what is behind it goes on as if there had been none. -/
theorem FinD.one {m : Nat} {fn : Func} {w0 : World} {T : List Ch} {R : Type} {φ : R → Prop} {ret : R → Value} {B : R → List Ch} {e : Exit} (he : e = .ret ∨ e = .normal) {f : FuncId} {vs : List Value} {T1 D1 : List Ch} {R1 : Type} {φ1 : R1 → Prop} {ret1 : R1 → Value} {B1 : R1 → List Ch} {ds : List Deferred}
    (hsp : SpecD P f vs T1 D1 φ1 ret1 B1) (hc : Callable P f) (hG : Give H T1 D1 F) (hk : ∀ r, φ1 r → WX (FinD P fn w0 T φ ret B) .ret ⟨m, ds⟩ L (B1 r ++ F)) :
    WX (FinD P fn w0 T φ ret B) e ⟨m, ⟨.fn (.func f) #[], vs.toArray⟩ :: ds⟩ L H := by
  intro a w hs
  have h1 := hs.sat.takes hG.t
  have hfin : Leaves P fn a.tmps (fun e w' => ∃ r, e = .returned (ret r) ∧ φ r ∧ Sat w' (B r) ∧ Chg (MutF T) w0 w' ∧ ∀ c ∈ B r, ∀ b, c.foot b → w0.heap.size ≤ b ∨ MutF T b) a.defers .returning w := by
    rw [hs.regs.defers]
    refine leaves_cons (by simp) (f := f) (args := vs.toArray) (by simp [invoke, hc.run]) ((hsp w (h1.ros hG.d.all)).mono ?_)
    rintro e' u' w' ⟨rfl, r, rfl, hφ, hB, hchg, hnew⟩
    have h2 := hk r hφ { a with defers := ds } w' ⟨⟨hs.regs.size, rfl, hs.regs.get⟩, h1.frame hB hchg hnew⟩
    exact h2
  rcases he with rfl | rfl <;> exact hfin
section
variable {ty : TypeId} {pos : String} {af : Array Edge} {g : Option (Nat × Bool)} {f : FuncId}
theorem op_defer {xs : List Operand} {vs : List Value} {ats : Array TypeId} (hargs : xs.map (evr L) = vs.map some) :
    Opn P Q ⟨none, .defer { callee := .value (.func f), args := xs.toArray, argTypes := ats }, ty, pos, af, g⟩ n L H (fun a w => St ⟨n.n, ⟨.fn (.func f) #[], vs.toArray⟩ :: n.ds⟩ L H a w) := by
  intro a w hs K hK
  unfold Oper.wp
  have e1 : xs.toArray.map a.eval = vs.toArray := by rw [List.map_toArray, evals hs xs vs hargs]
  have e2 : a.eval (.func f) = .func (.func f) #[] #[] := rfl
  have h : (execOp a.eval ⟨none, .defer { callee := .value (.func f), args := xs.toArray, argTypes := ats }, ty, pos, af, g⟩).run P w = .ok (.defer ⟨.fn (.func f) #[], vs.toArray⟩) w := by
    simp only [execOp, resolve, Deferred.ofValue, e1, e2, Sem.run_bind, Sem.run_pure, Result.andThen_ok]
    simp
  rw [h, Oper.upon_defer]
  exact hK _ _ ⟨⟨hs.regs.size, by simp [Act.put, hs.regs.defers], hs.regs.get⟩, hs.sat⟩
end
end
end Go.Proofs.Ytkjlbedebmffgaa.Sx

