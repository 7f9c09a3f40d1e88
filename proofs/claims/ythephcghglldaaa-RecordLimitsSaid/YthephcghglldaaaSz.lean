/- The engine: operations on memory. Plain theorems over any program. -/
import Derived.Test.YthephcghglldaaaSy
import Derived.Maps.AppendAt
set_option linter.unusedVariables false
set_option linter.unusedSimpArgs false
namespace Go.Proofs.Ythephcghglldaaa.Sx
open Go.RowKit

def arrayLenOk (P : Program) (t : TypeId) (len : Nat) (e : TypeId) : Prop := P.underlying t = some (.array len e)
/-- The address of cell j of a slice. -/
def cellAddr (A : Option Addr) (j : Nat) : Value := match A with | some a => .pointer (some ⟨a.block, a.off + j, none⟩) | none => undef

def pset (cs : List Value) (o : Nat) (vs : List Value) : List Value := cs.take o ++ vs ++ cs.drop (o + vs.length)
theorem pset_length (cs : List Value) (o : Nat) (vs : List Value) (h : o + vs.length ≤ cs.length) : (pset cs o vs).length = cs.length := by
  simp [pset]; omega
theorem pset_one (cs : List Value) (o : Nat) (v : Value) (h : o < cs.length) : pset cs o [v] = cs.set o v := by
  unfold pset
  rw [List.set_eq_take_append_cons_drop, if_pos h]
  simp

theorem add_at (b o j : Nat) : (⟨b, o, none⟩ : Addr).add j = ⟨b, o + j, none⟩ := by unfold Addr.add; split <;> simp_all

section
variable {P : Program} {Q : Exit → Act → World → Prop} {n : Nat} {L L' : List (Nat × Value)} {H H' F : List Ch} {ops : Array Oper} {rest : List Oper} {o : Oper}
variable {d : Nat} {ty : TypeId} {pos : String} {af : Array Edge} {g : Option (Nat × Bool)} {x y z : Operand} {v u : Value}

theorem blk_new (w : World) (cs : List Value) (t : TypeId) : (blk w.heap.size cs t).ok (w.alloc (.cells cs.toArray t)) := heap_alloc_new w _

/-- An operation that yields a value and changes memory; 'R' tells what came out. -/
theorem Opn.mem {R : Type} {φ : R → Prop} {V : R → Value} {HH : R → List Ch} (hn : d < n)
    (h : ∀ a w, St n L H a w → ∃ r w', (execOp a.eval ⟨some d, o.op, o.type, o.pos, o.after, o.guard⟩).run P w = .ok (.value (V r)) w' ∧ φ r ∧ Sat w' (HH r)) :
    Opn P Q ⟨some d, o.op, o.type, o.pos, o.after, o.guard⟩ n L H (fun a w => ∃ r, φ r ∧ St n (upd L d (V r)) (HH r) a w) := by
  intro a w hs K hK
  obtain ⟨r, w', hr, hφ, hsat⟩ := h a w hs
  unfold Oper.wp
  rw [hr, Oper.upon_value]
  exact hK _ _ ⟨r, hφ, hs.regs.put hn _, hsat⟩
theorem Opn.skip {H' : List Ch} (hd : o.dst = none)
    (h : ∀ a w, St n L H a w → ∃ w', (execOp a.eval o).run P w = .ok .skip w' ∧ Sat w' H') : Opn P Q o n L H (St n L H') := by
  intro a w hs K hK
  obtain ⟨w', hr, hsat⟩ := h a w hs
  unfold Oper.wp
  rw [hr, Oper.upon_skip, hd]
  exact hK _ _ ⟨hs.regs, hsat⟩

/-- A new variable: its block gets a name. -/
theorem op_alloc {t : TypeId} {sz by' : Nat} {zero : List Value} (ht : TInf P t sz by' zero) (hn : d < n) :
    Opn P Q ⟨some d, .alloc t, ty, pos, af, g⟩ n L H (fun a w => ∃ b, St n (upd L d (.pointer (some ⟨b, 0, none⟩))) (blk b zero t :: H) a w) := by
  obtain ⟨i, z, hi, _, _, hz, hzz⟩ := ht.open
  intro a w hs K hK
  unfold Oper.wp
  have hr : (execOp a.eval ⟨some d, .alloc t, ty, pos, af, g⟩).run P w = .ok (.value (.pointer (some ⟨w.heap.size, 0, none⟩))) (w.alloc (.cells zero.toArray t)) := by
    simp [execOp, Instr.alloc, zeroValue, typeInfo, hi, hz, newVar, newRow, ← hzz]
  rw [hr, Oper.upon_value]
  exact hK _ _ ⟨_, hs.regs.put hn _, hs.sat.grow (blk_new w zero t) (Chg.alloc _ _ _) (fun b hb => by cases hb; exact Nat.le_refl _)⟩
theorem op_box {t : TypeId} {cs : List Value} (hn : d < n) (hx : evr L x = some v) (hv : v.cells.toList = cs) :
    Opn P Q ⟨some d, .box t x, ty, pos, af, g⟩ n L H (fun a w => ∃ b, St n (upd L d (.pointer (some ⟨b, 0, none⟩))) (blk b cs t :: H) a w) := by
  intro a w hs K hK
  unfold Oper.wp
  have hr : (execOp a.eval ⟨some d, .box t x, ty, pos, af, g⟩).run P w = .ok (.value (.pointer (some ⟨w.heap.size, 0, none⟩))) (w.alloc (.cells cs.toArray t)) := by
    simp [execOp, hs.eval hx, Instr.box, newVar, newRow, ← hv]
  rw [hr, Oper.upon_value]
  exact hK _ _ ⟨_, hs.regs.put hn _, hs.sat.grow (blk_new w cs t) (Chg.alloc _ _ _) (fun b hb => by cases hb; exact Nat.le_refl _)⟩

/-! #### loads -/
theorem op_load1 {t bt : TypeId} {b k : Nat} {cs : List Value} (ht : Flat P t) (hn : d < n) (hx : evr L x = some (.pointer (some ⟨b, k, none⟩))) (hc : blk b cs bt ∈ H) (hv : cs[k]? = some v) :
    Val P ⟨some d, .load t x, ty, pos, af, g⟩ n L H d (v) :=
  Val.mk rfl hn fun a w hs => by
    have hb : w.heap[b]? = some (.cells cs.toArray bt (0, 0)) := hs.sat.ok _ hc
    have hcell : w.cell? ⟨b, k, none⟩ = some v := by rw [cell_of_row w b k _ _ _ hb]; simpa using hv
    simp [execOp, hs.eval hx, Instr.loadAt, Instr.sureAddr, run_load1 ht hcell]
theorem op_loadN {t bt : TypeId} {b k sz : Nat} {cs : List Value} (ht : Agg P t sz) (hn : d < n) (hx : evr L x = some (.pointer (some ⟨b, k, none⟩))) (hc : blk b cs bt ∈ H) (hl : ((cs.drop k).take sz).length = sz) :
    Val P ⟨some d, .load t x, ty, pos, af, g⟩ n L H d ((.agg ((cs.drop k).take sz).toArray)) :=
  Val.mk rfl hn fun a w hs => by
    have hb : w.heap[b]? = some (.cells cs.toArray bt (0, 0)) := hs.sat.ok _ hc
    have hcell : ∀ j u, ((cs.drop k).take sz)[j]? = some u → w.cell? ((⟨b, k, none⟩ : Addr).add j) = some u := by
      intro j u hu
      rw [add_at, cell_of_row w b _ _ _ _ hb]
      rw [List.getElem?_take] at hu
      split at hu
      · simpa using hu
      · cases hu
    simp [execOp, hs.eval hx, Instr.loadAt, Instr.sureAddr, run_loadN ht hl hcell]

theorem Ch.Le.trans {a b c : Ch} (h : a.Le b) (k : b.Le c) : a.Le c := ⟨fun x => k.ro (h.ro x), fun b x => k.foot b (h.foot b x), fun w x => h.ok w (k.ok w x)⟩
theorem own_le_rd {v : Value} {e : TypeId} {sz m : Nat} {xs : List Value} : (rd v sz m xs).Le (own v e sz m xs) := by
  refine ⟨fun h => (by cases h), fun b h => h.2, fun w h => ?_⟩
  refine ⟨h.1, ?_⟩
  rcases h.2 with ⟨rfl, rfl⟩ | ⟨b, cap, cur, rfl, hb, hh, hn, hcap, hsz, htk⟩
  · exact ⟨by simp [maxLen], none, 0, rfl, Nat.le_refl _, fun hp => by have := h.1; omega⟩
  · refine ⟨Nat.le_trans hn hcap, _, cap, rfl, hn, fun _ => ⟨b, 0, rfl, fun j u hu => ?_⟩⟩
    rw [Nat.zero_add, cell_of_row w b j cur e (0, 0) hh]
    rw [← htk, List.getElem?_take] at hu
    split at hu
    · simpa using hu
    · cases hu
theorem rd_sub {A : Option Addr} {c m sz l h : Nat} {xs : List Value} (hlh : l ≤ h) (hm : h ≤ m) :
    (rd (sliced A l h c sz) sz (h - l) ((xs.drop (l * sz)).take ((h - l) * sz))).Le (rd (.slice A m c) sz m xs) := by
  refine ⟨fun h => (by cases h), fun b hb => ?_, fun w hw => ?_⟩
  · obtain ⟨h1, h2⟩ := hb
    simp only [List.length_take, List.length_drop] at h1
    refine ⟨by omega, ?_⟩
    unfold sliced at h2
    split at h2
    · cases A with
      | none => simp [Value.ownBlock] at h2
      | some a => simpa [Value.ownBlock] using h2
    · cases A with
      | none => simp [Value.ownBlock] at h2
      | some a => simpa [Value.ownBlock, add_block] using h2
  · obtain ⟨h1, h2, A', c', he, hc, h3⟩ := hw
    simp only [Value.slice.injEq] at he
    obtain ⟨rfl, _, rfl⟩ := he
    have hml : (h - l) * sz ≤ xs.length - l * sz := by
      rw [h1, ← Nat.sub_mul]
      exact Nat.mul_le_mul_right _ (by omega)
    refine ⟨by simp; omega, by omega, _, _, rfl, by omega, fun hp => ?_⟩
    simp only [List.length_take, List.length_drop] at hp
    obtain ⟨b, o, rfl, h4⟩ := h3 (by omega)
    have hne : ¬ c = l := by
      intro e
      have : h - l = 0 := by omega
      rw [this] at hp
      simp at hp
    refine ⟨b, o + l * sz, by simp [hne, add_at], fun j u hu => ?_⟩
    rw [Nat.add_assoc]
    refine h4 _ u ?_
    rw [List.getElem?_take] at hu
    split at hu
    · rwa [List.getElem?_drop] at hu
    · cases hu
theorem blk_le_rd {b k m c sz : Nat} {t : TypeId} {cs xs : List Value} (hmc : m ≤ c) (hm : m ≤ maxLen) (hx : (cs.drop k).take (m * sz) = xs) (hl : xs.length = m * sz) :
    (rd (.slice (some ⟨b, k, none⟩) m c) sz m xs).Le (blk b cs t) := by
  refine ⟨fun h => (by cases h), fun b' hb => ?_, fun w hw => ⟨hl, hm, _, c, rfl, hmc, fun _ => ⟨b, k, rfl, fun j u hu => ?_⟩⟩⟩
  · have := hb.2
    simp only [Value.ownBlock, Option.some.injEq] at this
    exact this.symm
  · rw [cell_of_row w b _ _ _ _ hw]
    rw [← hx, List.getElem?_take] at hu
    split at hu
    · simpa using hu
    · cases hu

/-- 'xs' is what the slice reads as, by something that is there. -/
def Src (H : List Ch) (v : Value) (sz m : Nat) (xs : List Value) : Prop := ∃ c ∈ H, (rd v sz m xs).Le c
theorem Src.ok {v : Value} {sz m : Nat} {xs : List Value} (h : Src H v sz m xs) {w : World} (hs : Sat w H) : (rd v sz m xs).ok w := by
  obtain ⟨c, hc, hl⟩ := h
  exact hl.ok w (hs.ok c hc)
theorem Src.len {v : Value} {sz m : Nat} {xs : List Value} (h : Src H v sz m xs) {w : World} (hs : Sat w H) : xs.length = m * sz ∧ m ≤ maxLen := ⟨(h.ok hs).1, (h.ok hs).2.1⟩
theorem Src.at_ {A : Option Addr} {c sz m : Nat} {xs : List Value} (h : Src H (.slice A m c) sz m xs) {w : World} (hs : Sat w H) (hp : 0 < xs.length) :
    ∃ b o, A = some ⟨b, o, none⟩ ∧ ∀ j u, xs[j]? = some u → w.cell? ⟨b, o + j, none⟩ = some u := by
  obtain ⟨h1, h2, A', c', he, hc, h3⟩ := h.ok hs
  simp only [Value.slice.injEq] at he
  obtain ⟨rfl, _, rfl⟩ := he
  exact h3 hp

theorem op_index {t e : TypeId} {k : IntKind} {i : Int} {A : Option Addr} {c m sz : Nat} {xs : List Value} (hu : P.underlying t = some (.slice e)) (hsz : (P.info? e).map (·.size) = some sz) (hn : d < n)
    (hx : evr L x = some (.slice A m c)) (hi : evr L y = some (.int k i)) (h0 : 0 ≤ i) (h1 : i < m) (hpos : 0 < sz) (hsrc : Src H (.slice A m c) sz m xs) :
    Val P ⟨some d, .indexAddr t x y, ty, pos, af, g⟩ n L H d ((cellAddr A (i.toNat * sz))) :=
  Val.mk rfl hn fun a w hs => by
    have hlen := (hsrc.len hs.sat).1
    have hp : 0 < xs.length := by rw [hlen]; exact Nat.mul_pos (by omega) hpos
    obtain ⟨b, o, rfl, _⟩ := hsrc.at_ hs.sat hp
    simp [execOp, hs.eval hx, hs.eval hi, Instr.indexAt, asIntOf, Sem.run_bind, run_underlying hu, h0, h1, run_sizeOf hsz, cellAddr, add_at]
theorem op_indexArr {t e : TypeId} {k : IntKind} {i : Int} {b o len sz : Nat} (hu : P.underlying t = some (.array len e)) (hsz : (P.info? e).map (·.size) = some sz) (hn : d < n)
    (hx : evr L x = some (.pointer (some ⟨b, o, none⟩))) (hi : evr L y = some (.int k i)) (h0 : 0 ≤ i) (h1 : i < len) :
    Val P ⟨some d, .indexAddr t x y, ty, pos, af, g⟩ n L H d ((.pointer (some ⟨b, o + i.toNat * sz, none⟩))) :=
  Val.mk rfl hn fun a w hs => by
    simp [execOp, hs.eval hx, hs.eval hi, Instr.indexAt, Instr.sureAddr, asIntOf, Sem.run_bind, run_underlying hu, h0, h1, run_sizeOf hsz, add_at]
theorem op_fieldAddrS {s : TypeId} {f off j : Nat} {A : Option Addr} {c m sz : Nat} {xs : List Value} (hf : FOff P s f off) (hn : d < n) (hx : evr L x = some (cellAddr A j)) (hsrc : Src H (.slice A m c) sz m xs) (hp : 0 < xs.length) :
    Val P ⟨some d, .fieldAddr s x f, ty, pos, af, g⟩ n L H d ((cellAddr A (j + off))) :=
  Val.mk rfl hn fun a w hs => by
    obtain ⟨b, o, rfl, _⟩ := hsrc.at_ hs.sat hp
    simp [execOp, hs.eval hx, cellAddr, hf ⟨b, o + j, none⟩ w rfl, Nat.add_assoc]
theorem op_loadS {t : TypeId} {j : Nat} {A : Option Addr} {c m sz : Nat} {xs : List Value} (ht : Flat P t) (hn : d < n) (hx : evr L x = some (cellAddr A j)) (hsrc : Src H (.slice A m c) sz m xs) (hv : xs[j]? = some v) :
    Val P ⟨some d, .load t x, ty, pos, af, g⟩ n L H d (v) :=
  Val.mk rfl hn fun a w hs => by
    have hp : 0 < xs.length := by
      have := (List.getElem?_eq_some_iff.1 hv).1
      omega
    obtain ⟨b, o, rfl, hcell⟩ := hsrc.at_ hs.sat hp
    have := hcell j v hv
    simp [execOp, hs.eval hx, cellAddr, Instr.loadAt, Instr.sureAddr, run_load1 ht this]
theorem op_loadSN {t : TypeId} {j sz' : Nat} {A : Option Addr} {c m sz : Nat} {xs : List Value} (ht : Agg P t sz') (hn : d < n) (hx : evr L x = some (cellAddr A j)) (hsrc : Src H (.slice A m c) sz m xs) (hl : ((xs.drop j).take sz').length = sz') (hpos : 0 < sz') :
    Val P ⟨some d, .load t x, ty, pos, af, g⟩ n L H d ((.agg ((xs.drop j).take sz').toArray)) :=
  Val.mk rfl hn fun a w hs => by
    have hp : 0 < xs.length := by
      simp only [List.length_take, List.length_drop] at hl
      omega
    obtain ⟨b, o, rfl, hcell⟩ := hsrc.at_ hs.sat hp
    have hc : ∀ i u, ((xs.drop j).take sz')[i]? = some u → w.cell? ((⟨b, o + j, none⟩ : Addr).add i) = some u := by
      intro i u hu
      rw [add_at, Nat.add_assoc]
      rw [List.getElem?_take] at hu
      split at hu
      · exact hcell _ u (by simpa using hu)
      · cases hu
    simp [execOp, hs.eval hx, cellAddr, Instr.loadAt, Instr.sureAddr, run_loadN ht hl hc]

/-! #### stores -/
theorem run_storeVar {t tb : TypeId} {sz b k : Nat} {cs : List Value} {w : World} (hsz : (P.info? t).map (·.size) = some sz) (hl : v.cells.size = sz) (h1 : v.cells.toList.all (·.oneCell') = true)
    (hb : w.heap[b]? = some (.cells cs.toArray tb (0, 0))) (hk : k + sz ≤ cs.length) :
    (storeVar t ⟨b, k, none⟩ v).run P w = .ok () (w.setRow b (pset cs k v.cells.toList).toArray) := by
  have hs := run_storeCells_at P b k tb v.cells.toList 0 cs.toArray w hb (by simp; omega) (List.all_eq_true.1 h1)
  simp only [Nat.add_zero, List.toList_toArray] at hs
  unfold storeVar
  rw [Sem.run_bind, run_sizeOf hsz w]
  simp [Result.andThen, hl, hs, pset]
theorem blk_store {b k : Nat} {tb : TypeId} {cs vs : List Value} {w : World} (hs : Sat w H) (ht : Take H (blk b cs tb) F) (hk : k + vs.length ≤ cs.length) : Sat (w.setRow b (pset cs k vs).toArray) (blk b (pset cs k vs) tb :: F) := by
  have hb : w.heap[b]? = some (.cells cs.toArray tb (0, 0)) := hs.ok _ (ht.perm.mem_iff.2 (List.mem_cons_self ..))
  exact hs.swap ht rfl (setRow_heap w b _ _ tb _ hb) ((Chg.setRow w b _).mono fun i hi => hi) (fun b' h => .inr h)
theorem op_store {t tb : TypeId} {sz b k : Nat} {cs : List Value} (hsz : (P.info? t).map (·.size) = some sz) (hx : evr L x = some (.pointer (some ⟨b, k, none⟩))) (hy : evr L y = some v)
    (ht : Take H (blk b cs tb) F) (hl : v.cells.size = sz) (h1 : v.cells.toList.all (·.oneCell') = true) (hk : k + sz ≤ cs.length) :
    Opn P Q ⟨none, .store t x y, ty, pos, af, g⟩ n L H (St n L (blk b (pset cs k v.cells.toList) tb :: F)) :=
  Opn.skip rfl fun a w hs => by
    have hb : w.heap[b]? = some (.cells cs.toArray tb (0, 0)) := hs.sat.ok _ (ht.perm.mem_iff.2 (List.mem_cons_self ..))
    exact ⟨_, by simp [execOp, hs.eval hx, hs.eval hy, Instr.storeAt, Instr.sureAddr, run_storeVar hsz hl h1 hb hk], blk_store hs.sat ht (by simp; omega)⟩
theorem own_store {A : Option Addr} {c m sz j : Nat} {e : TypeId} {xs vs : List Value} {w : World} (hs : Sat w H) (ht : Take H (own (.slice A m c) e sz m xs) F) (hk : j + vs.length ≤ xs.length) (hp : 0 < vs.length) (h1 : vs.all (·.oneCell') = true) (i : Nat) :
    ∃ b, A = some ⟨b, 0, none⟩ ∧ ∃ w', (storeCells ⟨b, j, none⟩ vs 0).run P w = .ok () w' ∧ Sat w' (own (.slice A m c) e sz m (pset xs j vs) :: F) := by
  have hown : w.ownsRow 0 e sz (.slice A m c) m xs := hs.ok _ (ht.perm.mem_iff.2 (List.mem_cons_self ..))
  obtain ⟨hl, hrest⟩ := hown
  rcases hrest with ⟨_, hm⟩ | ⟨b, cap, cur, he, hb, hh, hnc, hcap, hcs, htk⟩
  · subst hm
    have : xs.length = 0 := by simpa using hl
    omega
  · simp only [Value.slice.injEq] at he
    obtain ⟨rfl, _, rfl⟩ := he
    have hlen : m * sz ≤ cur.size := by rw [hcs]; exact Nat.mul_le_mul_right _ hnc
    have hst := run_storeCells_at P b j e vs 0 cur w hh (by simp; omega) (List.all_eq_true.1 h1)
    simp only [Nat.add_zero] at hst
    refine ⟨b, rfl, _, hst, hs.swap ht rfl ?_ ((Chg.setRow w b _).mono fun i hi => by simp [own, Value.ownBlock, hi]) (fun b' h => .inr h)⟩
    refine ⟨by rw [pset_length _ _ _ hk]; exact hl, .inr ⟨b, c, _, rfl, hb, setRow_heap w b _ _ e _ hh, hnc, hcap, ?_, ?_⟩⟩
    · simp; omega
    · rw [← htk]
      have hx : xs.length = m * sz := hl
      unfold pset
      apply List.ext_getElem?
      intro q
      simp only [List.getElem?_take, List.getElem?_append, List.length_append, List.length_take, Array.length_toList, List.getElem?_drop]
      have e1 : min j cur.size = j := by omega
      have e2 : min j (min (m * sz) cur.size) = j := by omega
      simp only [e1, e2]
      by_cases hq : q < m * sz
      · by_cases hq1 : q < j + vs.length
        · simp [hq, hq1]
        · simp only [hq, hq1, if_true, if_false]
          rw [if_pos (by omega)]
      · simp only [hq, if_false]
        rw [if_neg (by omega), if_neg (by omega)]

theorem op_storeS {t e : TypeId} {sz sz' j : Nat} {A : Option Addr} {c m : Nat} {xs : List Value} (hsz : (P.info? t).map (·.size) = some sz') (hx : evr L x = some (cellAddr A j)) (hy : evr L y = some v)
    (ht : Take H (own (.slice A m c) e sz m xs) F) (hl : v.cells.size = sz') (h1 : v.cells.toList.all (·.oneCell') = true) (hk : j + sz' ≤ xs.length) (hp : 0 < sz') :
    Opn P Q ⟨none, .store t x y, ty, pos, af, g⟩ n L H (St n L (own (.slice A m c) e sz m (pset xs j v.cells.toList) :: F)) :=
  Opn.skip rfl fun a w hs => by
    obtain ⟨b, rfl, w', hr, hsat⟩ := own_store (P := P) (j := j) (vs := v.cells.toList) hs.sat ht (by simp; omega) (by simp; omega) h1 0
    refine ⟨w', ?_, hsat⟩
    have hst : (storeVar t ⟨b, j, none⟩ v).run P w = .ok () w' := by
      unfold storeVar
      rw [Sem.run_bind, run_sizeOf hsz w]
      simp [Result.andThen, hl, hr]
    simp [execOp, hs.eval hx, hs.eval hy, Instr.storeAt, Instr.sureAddr, cellAddr, hst]

/-! #### lengths, slices of slices -/
theorem op_len {t e : TypeId} {A : Option Addr} {m c : Nat} (hu : P.underlying t = some (.slice e)) (hn : d < n) (hx : evr L x = some (.slice A m c)) :
    Val P ⟨some d, .call { callee := .builtin .len, args := #[x], argTypes := #[t] }, ty, pos, af, g⟩ n L H d ((.int .i64 (m : Int))) :=
  Val.mk rfl hn fun a w hs => by simp [execOp, hs.eval hx, resolve, invoke, builtin, Builtin.len_, Sem.run_bind, run_underlying hu, goInt]
theorem op_cap {t e : TypeId} {A : Option Addr} {m c : Nat} (hu : P.underlying t = some (.slice e)) (hn : d < n) (hx : evr L x = some (.slice A m c)) :
    Val P ⟨some d, .call { callee := .builtin .cap, args := #[x], argTypes := #[t] }, ty, pos, af, g⟩ n L H d ((.int .i64 (c : Int))) :=
  Val.mk rfl hn fun a w hs => by simp [execOp, hs.eval hx, resolve, invoke, builtin, Builtin.cap_, Sem.run_bind, run_underlying hu, goInt]
section
variable {t e : TypeId} {A : Option Addr} {m c sz : Nat} {kl kh : IntKind} {l h : Int} {xl xh : Operand}
theorem op_slice_lh (hu : P.underlying t = some (.slice e)) (hsz : (P.info? e).map (·.size) = some sz) (hn : d < n) (hx : evr L x = some (.slice A m c)) (hxl : evr L xl = some (.int kl l)) (hxh : evr L xh = some (.int kh h))
    (h0 : 0 ≤ l) (h1 : l ≤ h) (h2 : h ≤ c) : Val P ⟨some d, .slice t x (some xl) (some xh) none, ty, pos, af, g⟩ n L H d ((sliced A l.toNat h.toNat c sz)) :=
  Val.mk rfl hn fun a w hs => by
    have e1 : (h.toNat : Int) = h := Int.toNat_of_nonneg (by omega)
    simp [execOp, hs.eval hx, hs.eval hxl, hs.eval hxh, Instr.sliceAt, Instr.slice, Sem.run_bind, run_underlying hu, Instr.sliceBounds, run_sliceBound, run_sizeOf hsz, sliced, *, e1, (by omega : 0 ≤ h)]
theorem op_slice_h (hu : P.underlying t = some (.slice e)) (hsz : (P.info? e).map (·.size) = some sz) (hn : d < n) (hx : evr L x = some (.slice A m c)) (hxh : evr L xh = some (.int kh h))
    (h0 : 0 ≤ h) (h2 : h ≤ c) : Val P ⟨some d, .slice t x none (some xh) none, ty, pos, af, g⟩ n L H d ((sliced A 0 h.toNat c sz)) :=
  Val.mk rfl hn fun a w hs => by
    simp [execOp, hs.eval hx, hs.eval hxh, Instr.sliceAt, Instr.slice, Sem.run_bind, run_underlying hu, Instr.sliceBounds, run_sliceBound, run_sizeOf hsz, sliced, *]
theorem op_slice_l (hu : P.underlying t = some (.slice e)) (hsz : (P.info? e).map (·.size) = some sz) (hn : d < n) (hx : evr L x = some (.slice A m c)) (hxl : evr L xl = some (.int kl l))
    (h0 : 0 ≤ l) (h1 : l ≤ m) : Val P ⟨some d, .slice t x (some xl) none none, ty, pos, af, g⟩ n L H d ((sliced A l.toNat m c sz)) :=
  Val.mk rfl hn fun a w hs => by
    simp [execOp, hs.eval hx, hs.eval hxl, Instr.sliceAt, Instr.slice, Sem.run_bind, run_underlying hu, Instr.sliceBounds, run_sliceBound, run_sizeOf hsz, sliced, *]
/-- A slice of an array variable. -/
theorem op_sliceArr_h {len b o : Nat} (hu : P.underlying t = some (.array len e)) (hsz : (P.info? e).map (·.size) = some sz) (hn : d < n) (hx : evr L x = some (.pointer (some ⟨b, o, none⟩))) (hxh : evr L xh = some (.int kh h))
    (h0 : 0 ≤ h) (h2 : h ≤ len) : Val P ⟨some d, .slice t x none (some xh) none, ty, pos, af, g⟩ n L H d ((.slice (some ⟨b, o, none⟩) h.toNat len)) :=
  Val.mk rfl hn fun a w hs => by
    simp [execOp, hs.eval hx, hs.eval hxh, Instr.sliceAt, Instr.sureAddr, Sem.run_bind, run_underlying hu, Instr.sliceBounds, run_sliceBound, run_sizeOf hsz, *, Addr.add_zero']
theorem op_sliceArr {len b o : Nat} (hu : P.underlying t = some (.array len e)) (hsz : (P.info? e).map (·.size) = some sz) (hn : d < n) (hx : evr L x = some (.pointer (some ⟨b, o, none⟩))) :
    Val P ⟨some d, .slice t x none none none, ty, pos, af, g⟩ n L H d ((.slice (some ⟨b, o, none⟩) len len)) :=
  Val.mk rfl hn fun a w hs => by
    simp [execOp, hs.eval hx, Instr.sliceAt, Instr.sureAddr, Sem.run_bind, run_underlying hu, Instr.sliceBounds, run_sizeOf hsz, Addr.add_zero']
theorem op_sliceArr_l {len b o : Nat} (hu : P.underlying t = some (.array len e)) (hsz : (P.info? e).map (·.size) = some sz) (hn : d < n) (hx : evr L x = some (.pointer (some ⟨b, o, none⟩))) (hxl : evr L xl = some (.int kl l))
    (h0 : 0 ≤ l) (h2 : l < len) : Val P ⟨some d, .slice t x (some xl) none none, ty, pos, af, g⟩ n L H d ((.slice (some ⟨b, o + l.toNat * sz, none⟩) (len - l.toNat) (len - l.toNat))) :=
  Val.mk rfl hn fun a w hs => by
    have : ¬ len = l.toNat := by omega
    simp [execOp, hs.eval hx, hs.eval hxl, Instr.sliceAt, Instr.sureAddr, Sem.run_bind, run_underlying hu, Instr.sliceBounds, run_sliceBound, run_sizeOf hsz, *, add_at, (by omega : l ≤ (len : Int))]
end
/-! #### min, max -/
theorem op_min {t : TypeId} {ats : Array TypeId} {k : IntKind} {a b : Int} (hn : d < n) (hx : evr L x = some (.int k a)) (hy : evr L y = some (.int k b)) :
    Val P ⟨some d, .call { callee := .builtin .min, args := #[x, y], argTypes := ats }, ty, pos, af, g⟩ n L H d ((.int k (min a b))) :=
  Val.mk rfl hn fun a' w hs => by
    have : (if b < a then b else a) = min a b := by rw [Int.min_def]; split <;> split <;> omega
    simp [execOp, hs.eval hx, hs.eval hy, resolve, invoke, builtin, Builtin.min_, Builtin.min2, this]
theorem op_max {t : TypeId} {ats : Array TypeId} {k : IntKind} {a b : Int} (hn : d < n) (hx : evr L x = some (.int k a)) (hy : evr L y = some (.int k b)) :
    Val P ⟨some d, .call { callee := .builtin .max, args := #[x, y], argTypes := ats }, ty, pos, af, g⟩ n L H d ((.int k (max a b))) :=
  Val.mk rfl hn fun a' w hs => by
    have : (if a < b then b else a) = max a b := by rw [Int.max_def]; split <;> split <;> omega
    simp [execOp, hs.eval hx, hs.eval hy, resolve, invoke, builtin, Builtin.max_, Builtin.max2, this]

/-! #### new slices, append, copy -/
theorem own_new (w : World) (cs : List Value) (e : TypeId) (sz m : Nat) (hl : cs.length = m * sz) (hm : m ≤ maxLen) : (own (.slice (some ⟨w.heap.size, 0, none⟩) m m) e sz m cs).ok (w.alloc (.cells cs.toArray e)) :=
  ⟨hl, .inr ⟨_, m, _, rfl, Nat.zero_le _, heap_alloc_new w _, Nat.le_refl _, hm, by simp [hl], by simp [← hl]⟩⟩
theorem op_buildSlice {t e : TypeId} {len : Nat} {parts : Array (Nat × Operand)} {pv : List (Nat × Value)} {sz by' : Nat} {zero cs : List Value} (hu : P.underlying t = some (.slice e)) (he : TInf P e sz by' zero)
    (hn : d < n) (hp : ∀ a : Act, Regs n L a → (parts.map fun p => (p.1, a.eval p.2)) = pv.toArray) (hlen : len * sz ≤ 16777216) (hsm : len ≤ maxLen)
    (hf : Instr.fill (fun i => some (i * sz, sz)) ((Array.range (len * sz)).map (zero.toArray[· % zero.length]!)) pv = some cs.toArray) (hcs : cs.length = len * sz) :
    Opn P Q ⟨some d, .buildSlice t len parts, ty, pos, af, g⟩ n L H (fun a w => ∃ b, St n (upd L d (.slice (some ⟨b, 0, none⟩) len len)) (own (.slice (some ⟨b, 0, none⟩) len len) e sz len cs :: H) a w) := by
  obtain ⟨i, z, hi, hs1, _, hz, hzz⟩ := he.open
  intro a w hs K hK
  unfold Oper.wp
  have hp' := hp a hs.regs
  have hr : (execOp a.eval ⟨some d, .buildSlice t len parts, ty, pos, af, g⟩).run P w = .ok (.value (.slice (some ⟨w.heap.size, 0, none⟩) len len)) (w.alloc (.cells cs.toArray e)) := by
    have hz' : z.cells = zero.toArray := by rw [← hzz]
    have hsz : (sizeOf e).run P w = .ok sz w := by simp [sizeOf, typeInfo, hi, hs1]
    have hle : ¬ (len * sz > 2 ^ 24) := by simp only [Nat.reducePow]; omega
    have hle' : ¬ (16777216 < len * sz) := by omega
    by_cases h0 : len * sz = 0
    · have hcs0 : cs = [] := List.eq_nil_of_length_eq_zero (by omega)
      have hf0 : Instr.fill (fun i => some (i * sz, sz)) #[] pv = some #[] := by
        have h := hf
        rw [h0] at h
        simpa [hcs0, Array.range_zero'] using h
      simp [execOp, hp', Instr.buildSlice, Sem.run_bind, run_underlying hu, hsz, h0, hf0, newRow, hcs0, Array.range_zero']
    · simp [execOp, hp', Instr.buildSlice, Sem.run_bind, run_underlying hu, hsz, hle', h0, zeroValue, typeInfo, hi, hz, hz', newRow] at hf ⊢
      simp [hf]
  rw [hr, Oper.upon_value]
  refine hK _ _ ⟨_, hs.regs.put hn _, hs.sat.grow (own_new w cs e sz len hcs hsm) (Chg.alloc _ _ _) (fun b hb => ?_)⟩
  simp only [own, Value.ownBlock, Option.some.injEq] at hb
  omega
theorem op_make {t e : TypeId} {kl kc : IntKind} {l c : Int} {sz by' : Nat} {zero : List Value} {z1 : Value} (hu : P.underlying t = some (.slice e)) (he : TInf P e 1 by' [z1])
    (hn : d < n) (hx : evr L x = some (.int kl l)) (hy : evr L y = some (.int kc c)) (h0 : 0 ≤ l) (hlc : l ≤ c) (hb : (by' : Int) * c ≤ 281474976710656) (h63 : c ≤ 9223372036854775807) :
    Opn P Q ⟨some d, .makeSlice t x y, ty, pos, af, g⟩ n L H (fun a w => ∃ b, St n (upd L d (.slice (some ⟨b, 0, none⟩) l.toNat c.toNat)) (blk b (List.replicate c.toNat z1) e :: H) a w) := by
  obtain ⟨i, z, hi, hs1, hs2, hz, hzz⟩ := he.open
  intro a w hs K hK
  unfold Oper.wp
  have hm := run_make (P := P) w t e i z hu hi hz kl kc l c h0 hlc (by rw [hs2]; exact hb) h63
  have hz' : z.cells = #[z1] := by rw [← Array.toArray_toList (xs := z.cells), hzz]
  have hcells : madeCells z.cells (c.toNat * i.size) = (List.replicate c.toNat z1).toArray := by
    rw [hz', hs1, Nat.mul_one, ← toList_madeCells_one z1 c.toNat]
  rw [hcells] at hm
  have hr : (execOp a.eval ⟨some d, .makeSlice t x y, ty, pos, af, g⟩).run P w = .ok (.value (.slice (some ⟨w.heap.size, 0, none⟩) l.toNat c.toNat)) (w.alloc (.cells (List.replicate c.toNat z1).toArray e)) := by
    simp only [execOp, hs.eval hx, hs.eval hy, Sem.run_bind, hm, Result.andThen]
    simp
  rw [hr, Oper.upon_value]
  exact hK _ _ ⟨_, hs.regs.put hn _, hs.sat.grow (blk_new w _ e) (Chg.alloc _ _ _) (fun b hb => by cases hb; exact Nat.le_refl _)⟩
theorem own_value {w : World} {v : Value} {e : TypeId} {sz m : Nat} {xs : List Value} (h : (own v e sz m xs).ok w) : ∃ A c, v = .slice A m c := by
  rcases h.2 with ⟨rfl, rfl⟩ | ⟨b, cap, cur, rfl, _⟩
  · exact ⟨none, 0, rfl⟩
  · exact ⟨_, cap, rfl⟩
theorem op_append {t e : TypeId} {A B : Option Addr} {m k c cB sz by' : Nat} {zero xs ys : List Value} (hu : P.underlying t = some (.slice e)) (he : TInf P e sz by' zero) (hzl : zero.length = sz) (hpos : 0 < sz) (hn : d < n)
    (hx : evr L x = some (.slice A m c)) (hy : evr L y = some (.slice B k cB)) (ht : Take H (own (.slice A m c) e sz m xs) F) (hsrc : Src F (.slice B k cB) sz k ys)
    (h1 : ys.all (·.oneCell') = true) (hb : (m + k) * by' ≤ 140737488355328) (h63 : m + k ≤ 9223372036854775807) :
    Opn P Q ⟨some d, .call { callee := .builtin .append, args := #[x, y], argTypes := #[t, t] }, ty, pos, af, g⟩ n L H
      (fun a w => ∃ A' c', St n (upd L d (.slice A' (m + k) c')) (own (.slice A' (m + k) c') e sz (m + k) (xs ++ ys) :: F) a w) := by
  obtain ⟨i, z, hi, hs1, hs2, hz, hzz⟩ := he.open
  intro a w hs K hK
  have hF : Sat w F := (hs.sat.perm ht.perm).tail
  have hown : w.ownsRow 0 e sz (.slice A m c) m xs := hs.sat.ok _ (ht.perm.mem_iff.2 (List.mem_cons_self ..))
  have hlen := (hsrc.len hF).1
  have hmain : ∃ v' w', (Builtin.append_ #[t, t] ty #[.slice A m c, .slice B k cB]).run P w = .ok v' w' ∧ w'.ownsRow 0 e sz v' (m + k) (xs ++ ys) ∧ w.grownBy w' (Value.ownBlock (.slice A m c)) ∧ (v'.ownBlock = (Value.ownBlock (.slice A m c)) ∨ v'.ownBlock = some w.heap.size) := by
    by_cases hk : k = 0
    · subst hk
      have hys : ys = [] := List.eq_nil_of_length_eq_zero (by rw [hlen]; simp)
      subst hys
      refine ⟨.slice A m c, w, ?_, by simpa using hown, ⟨rfl, rfl, rfl, Nat.le_refl _, fun _ _ _ => rfl⟩, .inl rfl⟩
      rcases hown.2 with ⟨he', h0⟩ | ⟨b, cap, cur, he', _, _, hnc, _⟩
      · simp only [Value.slice.injEq] at he'
        obtain ⟨rfl, h0', rfl⟩ := he'
        subst h0'
        cases B <;> simp [Builtin.append_, run_underlying hu, sizeOf, typeInfo, hi, Builtin.lenOf, Builtin.firstCells, loadCells, loadCellsFrom]
      · simp only [Value.slice.injEq] at he'
        obtain ⟨rfl, _, rfl⟩ := he'
        cases B <;> simp [Builtin.append_, run_underlying hu, sizeOf, typeInfo, hi, Builtin.lenOf, Builtin.firstCells, loadCells, loadCellsFrom, hnc, storeCells]
    · have hp : 0 < ys.length := by rw [hlen]; exact Nat.mul_pos (by omega) hpos
      obtain ⟨b, o, rfl, hcell⟩ := hsrc.at_ hF hp
      obtain ⟨v', w', hr, ho, hg, _, hat⟩ := run_append_own_at (P := P) w 0 t ty e i z sz by' hu hi hz hs1 hs2 (by rw [← hzl, ← hzz]; simp) hpos (.slice A m c) m xs hown ⟨b, o, none⟩ k cB ys hlen
        (fun j u hu => by rw [add_at]; exact hcell j u hu) (List.all_eq_true.1 h1) (by simp only [maxLen]; omega) hb (Nat.zero_le _)
      exact ⟨v', w', hr, ho, hg, hat⟩
  obtain ⟨v', w', hr, ho, hg, hat⟩ := hmain
  obtain ⟨A', c', rfl⟩ := own_value (sz := sz) (e := e) ho
  unfold Oper.wp
  have hrun : (execOp a.eval ⟨some d, .call { callee := .builtin .append, args := #[x, y], argTypes := #[t, t] }, ty, pos, af, g⟩).run P w = .ok (.value (.slice A' (m + k) c')) w' := by
    simp only [execOp, resolve, invoke, builtin, Sem.run_bind, Sem.run_pure, Result.andThen_ok, List.map_toArray, List.map_cons, List.map_nil, hs.eval hx, hs.eval hy, hr]
  rw [hrun, Oper.upon_value]
  have hnew : ∀ b, (own (.slice A' (m + k) c') e sz (m + k) (xs ++ ys)).foot b → w.heap.size ≤ b ∨ (own (.slice A m c) e sz m xs).foot b := by
    intro b hb'
    rcases hat with hat | hat
    · exact .inr (hat.symm.trans hb')
    · left
      have := hat.symm.trans hb'
      simp only [Option.some.injEq] at this
      omega
  exact hK _ _ ⟨A', c', hs.regs.put hn _, hs.sat.swap ht rfl ho ((Chg.grown hg).mono fun i hi => hi) hnew⟩
end
end Go.Proofs.Ythephcghglldaaa.Sx
