import Derived.Test.YtkjlbedebmffgaaGreatNa
import Derived.Maps.AppendAt
import Derived.Laws.StructEq
import Derived.Laws.IdiomCopy
import Derived.Laws.BytesArg
set_option linter.unusedVariables false
set_option linter.unusedSimpArgs false
namespace Go.Proofs.YtkjlbedebmffgaaGreat.Sx
open Go.RowKit
def arrayLenOk (P : Program) (t : TypeId) (len : Nat) (e : TypeId) : Prop := P.underlying t = some (.array len e)
def cellAddr (A : Option Addr) (j : Nat) : Value := match A with | some a => .pointer (some ⟨a.block, a.off + j, none⟩) | none => undef
def pset (cs : List Value) (o : Nat) (vs : List Value) : List Value := cs.take o ++ vs ++ cs.drop (o + vs.length)
theorem pset_length (cs : List Value) (o : Nat) (vs : List Value) (h : o + vs.length ≤ cs.length) : (pset cs o vs).length = cs.length := by
 simp [pset]; omega
theorem pset_one (cs : List Value) (o : Nat) (v : Value) (h : o < cs.length) : pset cs o [v] = cs.set o v := by
 unfold pset
 rw [List.set_eq_take_append_cons_drop, if_pos h]
 simp
theorem add_at (b o j : Nat) : (⟨b, o, none⟩ : Addr).add j = ⟨b, o + j, none⟩ := by unfold Addr.add; split <;> simp_all
section
variable {P : Program} {Q : Exit → Act → World → Prop} {n : Fr} {L L' : List (Nat × Value)} {H H' F : List Ch} {ops : Array Oper} {rest : List Oper} {o : Oper}
variable {d : Nat} {ty : TypeId} {pos : String} {af : Array Edge} {g : Option (Nat × Bool)} {x y z : Operand} {v u : Value}
theorem blk_new (w : World) (cs : List Value) (t : TypeId) : (blk w.heap.size cs t).ok (w.alloc (.cells cs.toArray t)) := heap_alloc_new w _
theorem Opn.skip {H' : List Ch} (hd : o.dst = none)
  (h : ∀ a w, St n L H a w → ∃ w', (execOp a.eval o).run P w = .ok .skip w' ∧ Sat w' H') : Opn P Q o n L H (St n L H') := by
 intro a w hs K hK
 obtain ⟨w', hr, hsat⟩ := h a w hs
 unfold Oper.wp
 rw [hr, Oper.upon_skip, hd]
 exact hK _ _ ⟨hs.regs, hsat⟩
theorem op_alloc {t : TypeId} {sz by' : Nat} {zero : List Value} (ht : TInf P t sz by' zero) (hn : d < n.n) :
  Opn P Q ⟨some d, .alloc t, ty, pos, af, g⟩ n L H (fun a w => ∃ b, St n (upd L d (.pointer (some ⟨b, 0, none⟩))) (blk b zero t :: H) a w) := by
 obtain ⟨i, z, hi, _, _, hz, hzz⟩ := ht.open
 intro a w hs K hK
 unfold Oper.wp
 have hr : (execOp a.eval ⟨some d, .alloc t, ty, pos, af, g⟩).run P w = .ok (.value (.pointer (some ⟨w.heap.size, 0, none⟩))) (w.alloc (.cells zero.toArray t)) := by
  simp [execOp, Instr.alloc, zeroValue, typeInfo, hi, hz, newVar, newRow, ← hzz]
 rw [hr, Oper.upon_value]
 exact hK _ _ ⟨_, hs.regs.put hn _, hs.sat.grow (blk_new w zero t) (Chg.alloc _ _ _) (fun b hb => by cases hb; exact Nat.le_refl _)⟩
theorem op_box {t : TypeId} {cs : List Value} (hn : d < n.n) (hx : evr L x = some v) (hv : v.cells.toList = cs) :
  Opn P Q ⟨some d, .box t x, ty, pos, af, g⟩ n L H (fun a w => ∃ b, St n (upd L d (.pointer (some ⟨b, 0, none⟩))) (blk b cs t :: H) a w) := by
 intro a w hs K hK
 unfold Oper.wp
 have hr : (execOp a.eval ⟨some d, .box t x, ty, pos, af, g⟩).run P w = .ok (.value (.pointer (some ⟨w.heap.size, 0, none⟩))) (w.alloc (.cells cs.toArray t)) := by
  simp [execOp, hs.eval hx, Instr.box, newVar, newRow, ← hv]
 rw [hr, Oper.upon_value]
 exact hK _ _ ⟨_, hs.regs.put hn _, hs.sat.grow (blk_new w cs t) (Chg.alloc _ _ _) (fun b hb => by cases hb; exact Nat.le_refl _)⟩
theorem op_load1 {t bt : TypeId} {b k : Nat} {cs : List Value} (ht : Flat P t) (hn : d < n.n) (hx : evr L x = some (.pointer (some ⟨b, k, none⟩))) (hc : blk b cs bt ∈ H) (hv : cs[k]? = some v) :
  Val P ⟨some d, .load t x, ty, pos, af, g⟩ n L H d (v) :=
 Val.mk rfl hn fun a w hs => by
  have hb : w.heap[b]? = some (.cells cs.toArray bt (0, 0)) := hs.sat.ok _ hc
  have hcell : w.cell? ⟨b, k, none⟩ = some v := by rw [cell_of_row w b k _ _ _ hb]; simpa using hv
  simp [execOp, hs.eval hx, Instr.loadAt, Instr.sureAddr, run_load1 ht hcell]
theorem op_loadN {t bt : TypeId} {b k sz : Nat} {cs : List Value} (ht : Agg P t sz) (hn : d < n.n) (hx : evr L x = some (.pointer (some ⟨b, k, none⟩))) (hc : blk b cs bt ∈ H) (hl : ((cs.drop k).take sz).length = sz) :
  Val P ⟨some d, .load t x, ty, pos, af, g⟩ n L H d ((.agg ((cs.drop k).take sz).toArray)) :=
 Val.mk rfl hn fun a w hs => by
  have hb : w.heap[b]? = some (.cells cs.toArray bt (0, 0)) := hs.sat.ok _ hc
  have hcell : ∀ j u, ((cs.drop k).take sz)[j]? = some u → w.cell? ((⟨b, k, none⟩ : Addr).add j) = some u := by
   intro j u hu
   rw [add_at, cell_of_row w b _ _ _ _ hb]
   rw [List.getElem?_take] at hu
   split at hu
   ·simpa using hu
   ·cases hu
  simp [execOp, hs.eval hx, Instr.loadAt, Instr.sureAddr, run_loadN ht hl hcell]
theorem Ch.Le.trans {a b c : Ch} (h : a.Le b) (k : b.Le c) : a.Le c := ⟨fun x => k.ro (h.ro x), fun b x => k.foot b (h.foot b x), fun w x => h.ok w (k.ok w x)⟩
theorem own_le_rd {v : Value} {e : TypeId} {sz m : Nat} {xs : List Value} : (rd v sz m xs).Le (own v e sz m xs) := by
 refine ⟨fun h => (by cases h), fun b h => h.2, fun w h => ?_⟩
 refine ⟨h.1, ?_⟩
 rcases h.2 with ⟨rfl, rfl⟩ | ⟨b, cap, cur, rfl, hb, hh, hn, hcap, hsz, htk⟩
 ·exact ⟨by simp [maxLen], none, 0, rfl, Nat.le_refl _, fun hp => by have := h.1; omega⟩
 ·refine ⟨Nat.le_trans hn hcap, _, cap, rfl, hn, fun _ => ⟨b, 0, rfl, fun j u hu => ?_⟩⟩
  rw [Nat.zero_add, cell_of_row w b j cur e (0, 0) hh]
  rw [← htk, List.getElem?_take] at hu
  split at hu
  ·simpa using hu
  ·cases hu
theorem rd_sub {A : Option Addr} {c m sz l h : Nat} {xs : List Value} (hlh : l ≤ h) (hm : h ≤ m) :
  (rd (sliced A l h c sz) sz (h - l) ((xs.drop (l * sz)).take ((h - l) * sz))).Le (rd (.slice A m c) sz m xs) := by
 refine ⟨fun h => (by cases h), fun b hb => ?_, fun w hw => ?_⟩
 ·obtain ⟨h1, h2⟩ := hb
  simp only [List.length_take, List.length_drop] at h1
  refine ⟨by omega, ?_⟩
  unfold sliced at h2
  split at h2
  ·cases A with
   | none => simp [Value.ownBlock] at h2
   | some a => simpa [Value.ownBlock] using h2
  ·cases A with
   | none => simp [Value.ownBlock] at h2
   | some a => simpa [Value.ownBlock, add_block] using h2
 ·obtain ⟨h1, h2, A', c', he, hc, h3⟩ := hw
  simp only [Value.slice.injEq] at he
  obtain ⟨rfl, _, rfl⟩ := he
  have hml : (h - l) * sz ≤ xs.length - l * sz := by
   rw [h1, ← Nat.sub_mul]
   exact Nat.mul_le_mul_right _ (by omega)
  refine ⟨by simp; omega, by omega, _, _, rfl, by omega, fun hp => ?_⟩
  simp only [List.length_take, List.length_drop] at hp
  obtain ⟨b, o, rfl, h4⟩ := h3 (by omega)
  have hne : ¬ c = l := by
   intro e
   have : h - l = 0 := by omega
   rw [this] at hp
   simp at hp
  refine ⟨b, o + l * sz, by simp [hne, add_at], fun j u hu => ?_⟩
  rw [Nat.add_assoc]
  refine h4 _ u ?_
  rw [List.getElem?_take] at hu
  split at hu
  ·rwa [List.getElem?_drop] at hu
  ·cases hu
theorem blk_le_rd {b k m c sz : Nat} {t : TypeId} {cs xs : List Value} (hmc : m ≤ c) (hm : m ≤ maxLen) (hx : (cs.drop k).take (m * sz) = xs) (hl : xs.length = m * sz) :
  (rd (.slice (some ⟨b, k, none⟩) m c) sz m xs).Le (blk b cs t) := by
 refine ⟨fun h => (by cases h), fun b' hb => ?_, fun w hw => ⟨hl, hm, _, c, rfl, hmc, fun _ => ⟨b, k, rfl, fun j u hu => ?_⟩⟩⟩
 ·have := hb.2
  simp only [Value.ownBlock, Option.some.injEq] at this
  exact this.symm
 ·rw [cell_of_row w b _ _ _ _ hw]
  rw [← hx, List.getElem?_take] at hu
  split at hu
  ·simpa using hu
  ·cases hu
def Src (H : List Ch) (v : Value) (sz m : Nat) (xs : List Value) : Prop := ∃ c ∈ H, (rd v sz m xs).Le c
theorem Src.ok {v : Value} {sz m : Nat} {xs : List Value} (h : Src H v sz m xs) {w : World} (hs : Sat w H) : (rd v sz m xs).ok w := by
 obtain ⟨c, hc, hl⟩ := h
 exact hl.ok w (hs.ok c hc)
theorem Src.len {v : Value} {sz m : Nat} {xs : List Value} (h : Src H v sz m xs) {w : World} (hs : Sat w H) : xs.length = m * sz ∧ m ≤ maxLen := ⟨(h.ok hs).1, (h.ok hs).2.1⟩
theorem Src.at_ {A : Option Addr} {c sz m : Nat} {xs : List Value} (h : Src H (.slice A m c) sz m xs) {w : World} (hs : Sat w H) (hp : 0 < xs.length) :
  ∃ b o, A = some ⟨b, o, none⟩ ∧ ∀ j u, xs[j]? = some u → w.cell? ⟨b, o + j, none⟩ = some u := by
 obtain ⟨h1, h2, A', c', he, hc, h3⟩ := h.ok hs
 simp only [Value.slice.injEq] at he
 obtain ⟨rfl, _, rfl⟩ := he
 exact h3 hp
theorem op_index {t e : TypeId} {k : IntKind} {i : Int} {A : Option Addr} {c m sz : Nat} {xs : List Value} (hu : P.underlying t = some (.slice e)) (hsz : (P.info? e).map (·.size) = some sz) (hn : d < n.n)
  (hx : evr L x = some (.slice A m c)) (hi : evr L y = some (.int k i)) (h0 : 0 ≤ i) (h1 : i < m) (hpos : 0 < sz) (hsrc : Src H (.slice A m c) sz m xs) :
  Val P ⟨some d, .indexAddr t x y, ty, pos, af, g⟩ n L H d ((cellAddr A (i.toNat * sz))) :=
 Val.mk rfl hn fun a w hs => by
  have hlen := (hsrc.len hs.sat).1
  have hp : 0 < xs.length := by rw [hlen]; exact Nat.mul_pos (by omega) hpos
  obtain ⟨b, o, rfl, _⟩ := hsrc.at_ hs.sat hp
  simp [execOp, hs.eval hx, hs.eval hi, Instr.indexAt, asIntOf, Sem.run_bind, run_underlying hu, h0, h1, run_sizeOf hsz, cellAddr, add_at]
theorem op_indexArr {t e : TypeId} {k : IntKind} {i : Int} {b o len sz : Nat} (hu : P.underlying t = some (.array len e)) (hsz : (P.info? e).map (·.size) = some sz) (hn : d < n.n)
  (hx : evr L x = some (.pointer (some ⟨b, o, none⟩))) (hi : evr L y = some (.int k i)) (h0 : 0 ≤ i) (h1 : i < len) :
  Val P ⟨some d, .indexAddr t x y, ty, pos, af, g⟩ n L H d ((.pointer (some ⟨b, o + i.toNat * sz, none⟩))) :=
 Val.mk rfl hn fun a w hs => by
  simp [execOp, hs.eval hx, hs.eval hi, Instr.indexAt, Instr.sureAddr, asIntOf, Sem.run_bind, run_underlying hu, h0, h1, run_sizeOf hsz, add_at]
theorem op_fieldAddrS {s : TypeId} {f off j : Nat} {A : Option Addr} {c m sz : Nat} {xs : List Value} (hf : FOff P s f off) (hn : d < n.n) (hx : evr L x = some (cellAddr A j)) (hsrc : Src H (.slice A m c) sz m xs) (hp : 0 < xs.length) :
  Val P ⟨some d, .fieldAddr s x f, ty, pos, af, g⟩ n L H d ((cellAddr A (j + off))) :=
 Val.mk rfl hn fun a w hs => by
  obtain ⟨b, o, rfl, _⟩ := hsrc.at_ hs.sat hp
  simp [execOp, hs.eval hx, cellAddr, hf ⟨b, o + j, none⟩ w rfl, Nat.add_assoc]
theorem op_loadS {t : TypeId} {j : Nat} {A : Option Addr} {c m sz : Nat} {xs : List Value} (ht : Flat P t) (hn : d < n.n) (hx : evr L x = some (cellAddr A j)) (hsrc : Src H (.slice A m c) sz m xs) (hv : xs[j]? = some v) :
  Val P ⟨some d, .load t x, ty, pos, af, g⟩ n L H d (v) :=
 Val.mk rfl hn fun a w hs => by
  have hp : 0 < xs.length := by
   have := (List.getElem?_eq_some_iff.1 hv).1
   omega
  obtain ⟨b, o, rfl, hcell⟩ := hsrc.at_ hs.sat hp
  have := hcell j v hv
  simp [execOp, hs.eval hx, cellAddr, Instr.loadAt, Instr.sureAddr, run_load1 ht this]
theorem op_loadSN {t : TypeId} {j sz' : Nat} {A : Option Addr} {c m sz : Nat} {xs : List Value} (ht : Agg P t sz') (hn : d < n.n) (hx : evr L x = some (cellAddr A j)) (hsrc : Src H (.slice A m c) sz m xs) (hl : ((xs.drop j).take sz').length = sz') (hpos : 0 < sz') :
  Val P ⟨some d, .load t x, ty, pos, af, g⟩ n L H d ((.agg ((xs.drop j).take sz').toArray)) :=
 Val.mk rfl hn fun a w hs => by
  have hp : 0 < xs.length := by
   simp only [List.length_take, List.length_drop] at hl
   omega
  obtain ⟨b, o, rfl, hcell⟩ := hsrc.at_ hs.sat hp
  have hc : ∀ i u, ((xs.drop j).take sz')[i]? = some u → w.cell? ((⟨b, o + j, none⟩ : Addr).add i) = some u := by
   intro i u hu
   rw [add_at, Nat.add_assoc]
   rw [List.getElem?_take] at hu
   split at hu
   ·exact hcell _ u (by simpa using hu)
   ·cases hu
  simp [execOp, hs.eval hx, cellAddr, Instr.loadAt, Instr.sureAddr, run_loadN ht hl hc]
theorem run_storeVar {t tb : TypeId} {sz b k : Nat} {cs : List Value} {w : World} (hsz : (P.info? t).map (·.size) = some sz) (hl : v.cells.size = sz) (h1 : v.cells.toList.all (·.oneCell') = true)
  (hb : w.heap[b]? = some (.cells cs.toArray tb (0, 0))) (hk : k + sz ≤ cs.length) :
  (storeVar t ⟨b, k, none⟩ v).run P w = .ok () (w.setRow b (pset cs k v.cells.toList).toArray) := by
 have hs := run_storeCells_at P b k tb v.cells.toList 0 cs.toArray w hb (by simp; omega) (List.all_eq_true.1 h1)
 simp only [Nat.add_zero, List.toList_toArray] at hs
 unfold storeVar
 rw [Sem.run_bind, run_sizeOf hsz w]
 simp [Result.andThen, hl, hs, pset]
theorem blk_store {b k : Nat} {tb : TypeId} {cs vs : List Value} {w : World} (hs : Sat w H) (ht : Take H (blk b cs tb) F) (hk : k + vs.length ≤ cs.length) : Sat (w.setRow b (pset cs k vs).toArray) (blk b (pset cs k vs) tb :: F) := by
 have hb : w.heap[b]? = some (.cells cs.toArray tb (0, 0)) := hs.ok _ (ht.perm.mem_iff.2 (List.mem_cons_self ..))
 exact hs.swap ht rfl (setRow_heap w b _ _ tb _ hb) ((Chg.setRow w b _).mono fun i hi => hi) (fun b' h => .inr h)
theorem op_store {t tb : TypeId} {sz b k : Nat} {cs : List Value} (hsz : (P.info? t).map (·.size) = some sz) (hx : evr L x = some (.pointer (some ⟨b, k, none⟩))) (hy : evr L y = some v)
  (ht : Take H (blk b cs tb) F) (hl : v.cells.size = sz) (h1 : v.cells.toList.all (·.oneCell') = true) (hk : k + sz ≤ cs.length) :
  Opn P Q ⟨none, .store t x y, ty, pos, af, g⟩ n L H (St n L (blk b (pset cs k v.cells.toList) tb :: F)) :=
 Opn.skip rfl fun a w hs => by
  have hb : w.heap[b]? = some (.cells cs.toArray tb (0, 0)) := hs.sat.ok _ (ht.perm.mem_iff.2 (List.mem_cons_self ..))
  exact ⟨_, by simp [execOp, hs.eval hx, hs.eval hy, Instr.storeAt, Instr.sureAddr, run_storeVar hsz hl h1 hb hk], blk_store hs.sat ht (by simp; omega)⟩
theorem own_store {A : Option Addr} {c m sz j : Nat} {e : TypeId} {xs vs : List Value} {w : World} (hs : Sat w H) (ht : Take H (own (.slice A m c) e sz m xs) F) (hk : j + vs.length ≤ xs.length) (hp : 0 < vs.length) (h1 : vs.all (·.oneCell') = true) (i : Nat) :
  ∃ b, A = some ⟨b, 0, none⟩ ∧ ∃ w', (storeCells ⟨b, j, none⟩ vs 0).run P w = .ok () w' ∧ Sat w' (own (.slice A m c) e sz m (pset xs j vs) :: F) := by
 have hown : w.ownsRow 0 e sz (.slice A m c) m xs := hs.ok _ (ht.perm.mem_iff.2 (List.mem_cons_self ..))
 obtain ⟨hl, hrest⟩ := hown
 rcases hrest with ⟨_, hm⟩ | ⟨b, cap, cur, he, hb, hh, hnc, hcap, hcs, htk⟩
 ·subst hm
  have : xs.length = 0 := by simpa using hl
  omega
 ·simp only [Value.slice.injEq] at he
  obtain ⟨rfl, _, rfl⟩ := he
  have hlen : m * sz ≤ cur.size := by rw [hcs]; exact Nat.mul_le_mul_right _ hnc
  have hst := run_storeCells_at P b j e vs 0 cur w hh (by simp; omega) (List.all_eq_true.1 h1)
  simp only [Nat.add_zero] at hst
  refine ⟨b, rfl, _, hst, hs.swap ht rfl ?_ ((Chg.setRow w b _).mono fun i hi => by simp [own, Value.ownBlock, hi]) (fun b' h => .inr h)⟩
  refine ⟨by rw [pset_length _ _ _ hk]; exact hl, .inr ⟨b, c, _, rfl, hb, setRow_heap w b _ _ e _ hh, hnc, hcap, ?_, ?_⟩⟩
  ·simp; omega
  ·rw [← htk]
   have hx : xs.length = m * sz := hl
   unfold pset
   apply List.ext_getElem?
   intro q
   simp only [List.getElem?_take, List.getElem?_append, List.length_append, List.length_take, Array.length_toList, List.getElem?_drop]
   have e1 : min j cur.size = j := by omega
   have e2 : min j (min (m * sz) cur.size) = j := by omega
   simp only [e1, e2]
   by_cases hq : q < m * sz
   ·by_cases hq1 : q < j + vs.length
    ·simp [hq, hq1]
    ·simp only [hq, hq1, if_true, if_false]
     rw [if_pos (by omega)]
   ·simp only [hq, if_false]
    rw [if_neg (by omega), if_neg (by omega)]
theorem op_storeS {t e : TypeId} {sz sz' j : Nat} {A : Option Addr} {c m : Nat} {xs : List Value} (hsz : (P.info? t).map (·.size) = some sz') (hx : evr L x = some (cellAddr A j)) (hy : evr L y = some v)
  (ht : Take H (own (.slice A m c) e sz m xs) F) (hl : v.cells.size = sz') (h1 : v.cells.toList.all (·.oneCell') = true) (hk : j + sz' ≤ xs.length) (hp : 0 < sz') :
  Opn P Q ⟨none, .store t x y, ty, pos, af, g⟩ n L H (St n L (own (.slice A m c) e sz m (pset xs j v.cells.toList) :: F)) :=
 Opn.skip rfl fun a w hs => by
  obtain ⟨b, rfl, w', hr, hsat⟩ := own_store (P := P) (j := j) (vs := v.cells.toList) hs.sat ht (by simp; omega) (by simp; omega) h1 0
  refine ⟨w', ?_, hsat⟩
  have hst : (storeVar t ⟨b, j, none⟩ v).run P w = .ok () w' := by
   unfold storeVar
   rw [Sem.run_bind, run_sizeOf hsz w]
   simp [Result.andThen, hl, hr]
  simp [execOp, hs.eval hx, hs.eval hy, Instr.storeAt, Instr.sureAddr, cellAddr, hst]
theorem op_len {t e : TypeId} {A : Option Addr} {m c : Nat} (hu : P.underlying t = some (.slice e)) (hn : d < n.n) (hx : evr L x = some (.slice A m c)) :
  Val P ⟨some d, .call { callee := .builtin .len, args := #[x], argTypes := #[t] }, ty, pos, af, g⟩ n L H d ((.int .i64 (m : Int))) :=
 Val.mk rfl hn fun a w hs => by simp [execOp, hs.eval hx, resolve, invoke, builtin, Builtin.len_, Sem.run_bind, run_underlying hu, goInt]
section
variable {t e : TypeId} {A : Option Addr} {m c sz : Nat} {kl kh : IntKind} {l h : Int} {xl xh : Operand}
theorem op_slice_lh (hu : P.underlying t = some (.slice e)) (hsz : (P.info? e).map (·.size) = some sz) (hn : d < n.n) (hx : evr L x = some (.slice A m c)) (hxl : evr L xl = some (.int kl l)) (hxh : evr L xh = some (.int kh h))
  (h0 : 0 ≤ l) (h1 : l ≤ h) (h2 : h ≤ c) : Val P ⟨some d, .slice t x (some xl) (some xh) none, ty, pos, af, g⟩ n L H d ((sliced A l.toNat h.toNat c sz)) :=
 Val.mk rfl hn fun a w hs => by
  have e1 : (h.toNat : Int) = h := Int.toNat_of_nonneg (by omega)
  simp [execOp, hs.eval hx, hs.eval hxl, hs.eval hxh, Instr.sliceAt, Instr.slice, Sem.run_bind, run_underlying hu, Instr.sliceBounds, run_sliceBound, run_sizeOf hsz, sliced, *, e1, (by omega : 0 ≤ h)]
theorem op_slice_h (hu : P.underlying t = some (.slice e)) (hsz : (P.info? e).map (·.size) = some sz) (hn : d < n.n) (hx : evr L x = some (.slice A m c)) (hxh : evr L xh = some (.int kh h))
  (h0 : 0 ≤ h) (h2 : h ≤ c) : Val P ⟨some d, .slice t x none (some xh) none, ty, pos, af, g⟩ n L H d ((sliced A 0 h.toNat c sz)) :=
 Val.mk rfl hn fun a w hs => by
  simp [execOp, hs.eval hx, hs.eval hxh, Instr.sliceAt, Instr.slice, Sem.run_bind, run_underlying hu, Instr.sliceBounds, run_sliceBound, run_sizeOf hsz, sliced, *]
theorem op_slice_l (hu : P.underlying t = some (.slice e)) (hsz : (P.info? e).map (·.size) = some sz) (hn : d < n.n) (hx : evr L x = some (.slice A m c)) (hxl : evr L xl = some (.int kl l))
  (h0 : 0 ≤ l) (h1 : l ≤ m) : Val P ⟨some d, .slice t x (some xl) none none, ty, pos, af, g⟩ n L H d ((sliced A l.toNat m c sz)) :=
 Val.mk rfl hn fun a w hs => by
  simp [execOp, hs.eval hx, hs.eval hxl, Instr.sliceAt, Instr.slice, Sem.run_bind, run_underlying hu, Instr.sliceBounds, run_sliceBound, run_sizeOf hsz, sliced, *]
theorem op_sliceArr_h {len b o : Nat} (hu : P.underlying t = some (.array len e)) (hsz : (P.info? e).map (·.size) = some sz) (hn : d < n.n) (hx : evr L x = some (.pointer (some ⟨b, o, none⟩))) (hxh : evr L xh = some (.int kh h))
  (h0 : 0 ≤ h) (h2 : h ≤ len) : Val P ⟨some d, .slice t x none (some xh) none, ty, pos, af, g⟩ n L H d ((.slice (some ⟨b, o, none⟩) h.toNat len)) :=
 Val.mk rfl hn fun a w hs => by
  simp [execOp, hs.eval hx, hs.eval hxh, Instr.sliceAt, Instr.sureAddr, Sem.run_bind, run_underlying hu, Instr.sliceBounds, run_sliceBound, run_sizeOf hsz, *, Addr.add_zero']
theorem op_sliceArr {len b o : Nat} (hu : P.underlying t = some (.array len e)) (hsz : (P.info? e).map (·.size) = some sz) (hn : d < n.n) (hx : evr L x = some (.pointer (some ⟨b, o, none⟩))) :
  Val P ⟨some d, .slice t x none none none, ty, pos, af, g⟩ n L H d ((.slice (some ⟨b, o, none⟩) len len)) :=
 Val.mk rfl hn fun a w hs => by
  simp [execOp, hs.eval hx, Instr.sliceAt, Instr.sureAddr, Sem.run_bind, run_underlying hu, Instr.sliceBounds, run_sizeOf hsz, Addr.add_zero']
end
theorem op_min {t : TypeId} {ats : Array TypeId} {k : IntKind} {a b : Int} (hn : d < n.n) (hx : evr L x = some (.int k a)) (hy : evr L y = some (.int k b)) :
  Val P ⟨some d, .call { callee := .builtin .min, args := #[x, y], argTypes := ats }, ty, pos, af, g⟩ n L H d ((.int k (min a b))) :=
 Val.mk rfl hn fun a' w hs => by
  have : (if b < a then b else a) = min a b := by rw [Int.min_def]; split <;> split <;> omega
  simp [execOp, hs.eval hx, hs.eval hy, resolve, invoke, builtin, Builtin.min_, Builtin.min2, this]
theorem op_max {t : TypeId} {ats : Array TypeId} {k : IntKind} {a b : Int} (hn : d < n.n) (hx : evr L x = some (.int k a)) (hy : evr L y = some (.int k b)) :
  Val P ⟨some d, .call { callee := .builtin .max, args := #[x, y], argTypes := ats }, ty, pos, af, g⟩ n L H d ((.int k (max a b))) :=
 Val.mk rfl hn fun a' w hs => by
  have : (if a < b then b else a) = max a b := by rw [Int.max_def]; split <;> split <;> omega
  simp [execOp, hs.eval hx, hs.eval hy, resolve, invoke, builtin, Builtin.max_, Builtin.max2, this]
theorem own_new (w : World) (cs : List Value) (e : TypeId) (sz m : Nat) (hl : cs.length = m * sz) (hm : m ≤ maxLen) : (own (.slice (some ⟨w.heap.size, 0, none⟩) m m) e sz m cs).ok (w.alloc (.cells cs.toArray e)) :=
 ⟨hl, .inr ⟨_, m, _, rfl, Nat.zero_le _, heap_alloc_new w _, Nat.le_refl _, hm, by simp [hl], by simp [← hl]⟩⟩
theorem op_buildSlice {t e : TypeId} {len : Nat} {parts : Array (Nat × Operand)} {pv : List (Nat × Value)} {sz by' : Nat} {zero cs : List Value} (hu : P.underlying t = some (.slice e)) (he : TInf P e sz by' zero)
  (hn : d < n.n) (hp : ∀ a : Act, Regs n L a → (parts.map fun p => (p.1, a.eval p.2)) = pv.toArray) (hlen : len * sz ≤ 16777216) (hsm : len ≤ maxLen)
  (hf : Instr.fill (fun i => some (i * sz, sz)) ((Array.range (len * sz)).map (zero.toArray[· % zero.length]!)) pv = some cs.toArray) (hcs : cs.length = len * sz) :
  Opn P Q ⟨some d, .buildSlice t len parts, ty, pos, af, g⟩ n L H (fun a w => ∃ b, St n (upd L d (.slice (some ⟨b, 0, none⟩) len len)) (own (.slice (some ⟨b, 0, none⟩) len len) e sz len cs :: H) a w) := by
 obtain ⟨i, z, hi, hs1, _, hz, hzz⟩ := he.open
 intro a w hs K hK
 unfold Oper.wp
 have hp' := hp a hs.regs
 have hr : (execOp a.eval ⟨some d, .buildSlice t len parts, ty, pos, af, g⟩).run P w = .ok (.value (.slice (some ⟨w.heap.size, 0, none⟩) len len)) (w.alloc (.cells cs.toArray e)) := by
  have hz' : z.cells = zero.toArray := by rw [← hzz]
  have hsz : (sizeOf e).run P w = .ok sz w := by simp [sizeOf, typeInfo, hi, hs1]
  have hle : ¬ (len * sz > 2 ^ 24) := by simp only [Nat.reducePow]; omega
  have hle' : ¬ (16777216 < len * sz) := by omega
  by_cases h0 : len * sz = 0
  ·have hcs0 : cs = [] := List.eq_nil_of_length_eq_zero (by omega)
   have hf0 : Instr.fill (fun i => some (i * sz, sz)) #[] pv = some #[] := by
    have h := hf
    rw [h0] at h
    simpa [hcs0, Array.range_zero'] using h
   simp [execOp, hp', Instr.buildSlice, Sem.run_bind, run_underlying hu, hsz, h0, hf0, newRow, hcs0, Array.range_zero']
  ·simp [execOp, hp', Instr.buildSlice, Sem.run_bind, run_underlying hu, hsz, hle', h0, zeroValue, typeInfo, hi, hz, hz', newRow] at hf ⊢
   simp [hf]
 rw [hr, Oper.upon_value]
 refine hK _ _ ⟨_, hs.regs.put hn _, hs.sat.grow (own_new w cs e sz len hcs hsm) (Chg.alloc _ _ _) (fun b hb => ?_)⟩
 simp only [own, Value.ownBlock, Option.some.injEq] at hb
 omega
theorem op_make {t e : TypeId} {kl kc : IntKind} {l c : Int} {sz by' : Nat} {zero : List Value} {z1 : Value} (hu : P.underlying t = some (.slice e)) (he : TInf P e 1 by' [z1])
  (hn : d < n.n) (hx : evr L x = some (.int kl l)) (hy : evr L y = some (.int kc c)) (h0 : 0 ≤ l) (hlc : l ≤ c) (hb : (by' : Int) * c ≤ 281474976710656) (h63 : c ≤ 9223372036854775807) :
  Opn P Q ⟨some d, .makeSlice t x y, ty, pos, af, g⟩ n L H (fun a w => ∃ b, St n (upd L d (.slice (some ⟨b, 0, none⟩) l.toNat c.toNat)) (blk b (List.replicate c.toNat z1) e :: H) a w) := by
 obtain ⟨i, z, hi, hs1, hs2, hz, hzz⟩ := he.open
 intro a w hs K hK
 unfold Oper.wp
 have hm := run_make (P := P) w t e i z hu hi hz kl kc l c h0 hlc (by rw [hs2]; exact hb) h63
 have hz' : z.cells = #[z1] := by rw [← Array.toArray_toList (xs := z.cells), hzz]
 have hcells : madeCells z.cells (c.toNat * i.size) = (List.replicate c.toNat z1).toArray := by
  rw [hz', hs1, Nat.mul_one, ← toList_madeCells_one z1 c.toNat]
 rw [hcells] at hm
 have hr : (execOp a.eval ⟨some d, .makeSlice t x y, ty, pos, af, g⟩).run P w = .ok (.value (.slice (some ⟨w.heap.size, 0, none⟩) l.toNat c.toNat)) (w.alloc (.cells (List.replicate c.toNat z1).toArray e)) := by
  simp only [execOp, hs.eval hx, hs.eval hy, Sem.run_bind, hm, Result.andThen]
  simp
 rw [hr, Oper.upon_value]
 exact hK _ _ ⟨_, hs.regs.put hn _, hs.sat.grow (blk_new w _ e) (Chg.alloc _ _ _) (fun b hb => by cases hb; exact Nat.le_refl _)⟩
theorem own_value {w : World} {v : Value} {e : TypeId} {sz m : Nat} {xs : List Value} (h : (own v e sz m xs).ok w) : ∃ A c, v = .slice A m c := by
 rcases h.2 with ⟨rfl, rfl⟩ | ⟨b, cap, cur, rfl, _⟩
 ·exact ⟨none, 0, rfl⟩
 ·exact ⟨_, cap, rfl⟩
theorem op_append {t e : TypeId} {A B : Option Addr} {m k c cB sz by' : Nat} {zero xs ys : List Value} (hu : P.underlying t = some (.slice e)) (he : TInf P e sz by' zero) (hzl : zero.length = sz) (hpos : 0 < sz) (hn : d < n.n)
  (hx : evr L x = some (.slice A m c)) (hy : evr L y = some (.slice B k cB)) (ht : Take H (own (.slice A m c) e sz m xs) F) (hsrc : Src F (.slice B k cB) sz k ys)
  (h1 : ys.all (·.oneCell') = true) (hb : (m + k) * by' ≤ 140737488355328) (h63 : m + k ≤ 9223372036854775807) :
  Opn P Q ⟨some d, .call { callee := .builtin .append, args := #[x, y], argTypes := #[t, t] }, ty, pos, af, g⟩ n L H
   (fun a w => ∃ A' c', St n (upd L d (.slice A' (m + k) c')) (own (.slice A' (m + k) c') e sz (m + k) (xs ++ ys) :: F) a w) := by
 obtain ⟨i, z, hi, hs1, hs2, hz, hzz⟩ := he.open
 intro a w hs K hK
 have hF : Sat w F := (hs.sat.perm ht.perm).tail
 have hown : w.ownsRow 0 e sz (.slice A m c) m xs := hs.sat.ok _ (ht.perm.mem_iff.2 (List.mem_cons_self ..))
 have hlen := (hsrc.len hF).1
 have hmain : ∃ v' w', (Builtin.append_ #[t, t] ty #[.slice A m c, .slice B k cB]).run P w = .ok v' w' ∧ w'.ownsRow 0 e sz v' (m + k) (xs ++ ys) ∧ w.grownBy w' (Value.ownBlock (.slice A m c)) ∧ (v'.ownBlock = (Value.ownBlock (.slice A m c)) ∨ v'.ownBlock = some w.heap.size) := by
  by_cases hk : k = 0
  ·subst hk
   have hys : ys = [] := List.eq_nil_of_length_eq_zero (by rw [hlen]; simp)
   subst hys
   refine ⟨.slice A m c, w, ?_, by simpa using hown, ⟨rfl, rfl, rfl, Nat.le_refl _, fun _ _ _ => rfl⟩, .inl rfl⟩
   rcases hown.2 with ⟨he', h0⟩ | ⟨b, cap, cur, he', _, _, hnc, _⟩
   ·simp only [Value.slice.injEq] at he'
    obtain ⟨rfl, h0', rfl⟩ := he'
    subst h0'
    cases B <;> simp [Builtin.append_, run_underlying hu, sizeOf, typeInfo, hi, Builtin.lenOf, Builtin.firstCells, loadCells, loadCellsFrom]
   ·simp only [Value.slice.injEq] at he'
    obtain ⟨rfl, _, rfl⟩ := he'
    cases B <;> simp [Builtin.append_, run_underlying hu, sizeOf, typeInfo, hi, Builtin.lenOf, Builtin.firstCells, loadCells, loadCellsFrom, hnc, storeCells]
  ·have hp : 0 < ys.length := by rw [hlen]; exact Nat.mul_pos (by omega) hpos
   obtain ⟨b, o, rfl, hcell⟩ := hsrc.at_ hF hp
   obtain ⟨v', w', hr, ho, hg, _, hat⟩ := run_append_own_at (P := P) w 0 t ty e i z sz by' hu hi hz hs1 hs2 (by rw [← hzl, ← hzz]; simp) hpos (.slice A m c) m xs hown ⟨b, o, none⟩ k cB ys hlen
    (fun j u hu => by rw [add_at]; exact hcell j u hu) (List.all_eq_true.1 h1) (by simp only [maxLen]; omega) hb (Nat.zero_le _)
   exact ⟨v', w', hr, ho, hg, hat⟩
 obtain ⟨v', w', hr, ho, hg, hat⟩ := hmain
 obtain ⟨A', c', rfl⟩ := own_value (sz := sz) (e := e) ho
 unfold Oper.wp
 have hrun : (execOp a.eval ⟨some d, .call { callee := .builtin .append, args := #[x, y], argTypes := #[t, t] }, ty, pos, af, g⟩).run P w = .ok (.value (.slice A' (m + k) c')) w' := by
  simp only [execOp, resolve, invoke, builtin, Sem.run_bind, Sem.run_pure, Result.andThen_ok, List.map_toArray, List.map_cons, List.map_nil, hs.eval hx, hs.eval hy, hr]
 rw [hrun, Oper.upon_value]
 have hnew : ∀ b, (own (.slice A' (m + k) c') e sz (m + k) (xs ++ ys)).foot b → w.heap.size ≤ b ∨ (own (.slice A m c) e sz m xs).foot b := by
  intro b hb'
  rcases hat with hat | hat
  ·exact .inr (hat.symm.trans hb')
  ·left
   have := hat.symm.trans hb'
   simp only [Option.some.injEq] at this
   omega
 exact hK _ _ ⟨A', c', hs.regs.put hn _, hs.sat.swap ht rfl ho ((Chg.grown hg).mono fun i hi => hi) hnew⟩
end
end Go.Proofs.YtkjlbedebmffgaaGreat.Sx
namespace Go.Proofs.YtkjlbedebmffgaaGreat.Sx
open Go.RowKit
section
variable {P : Program} {Q : Exit → Act → World → Prop} {n : Fr} {L L' : List (Nat × Value)} {H H' F : List Ch} {ops : Array Oper} {rest : List Oper} {o : Oper}
variable {x y c : Code} {id id' : Nat} {K : Act → World → Prop}
theorem WC.seq (h : WC P x (Exit.then (y.wp P Q) Q) n L H) : WC P (.seq x y) Q n L H := fun a w hs => wp_seq (h a w hs)
theorem WC.block (h : WC P c (Exit.inBlock id Q) n L H) : WC P (.block id c) Q n L H := fun a w hs => wp_block (h a w hs)
theorem WC.skip (h : WX Q .normal n L H) : WC P .skip Q n L H := fun a w hs => wp_skip (h a w hs)
theorem WC.label {l : Nat} (h : WX Q .normal n L H) : WC P (.label l) Q n L H := fun a w hs => wp_label (h a w hs)
theorem WC.exit (h : WX Q (.exit id) n L H) : WC P (.exit id) Q n L H := fun a w hs => wp_exit (h a w hs)
theorem WC.ret (h : WX Q .ret n L H) : WC P .ret Q n L H := fun a w hs => wp_ret (h a w hs)
theorem WC.region {l : List Oper} (h : WL P l.toArray Q l n L H) : WC P (.region id l.toArray false) Q n L H := fun a w hs => wp_region_lit (h a w hs)
theorem WL.nil (h : WX Q .normal n L H) : WL P ops Q [] n L H := fun a w hs => wpList_nil (h a w hs)
theorem WX.next (h : WC P y Q n L H) {Q' : Exit → Act → World → Prop} : WX (Exit.then (y.wp P Q) Q') .normal n L H := fun a w hs => h a w hs
theorem WX.then_exit (h : WX Q (.exit id) n L H) : WX (Exit.then K Q) (.exit id) n L H := fun a w hs => h a w hs
theorem WX.then_ret (h : WX Q .ret n L H) : WX (Exit.then K Q) .ret n L H := fun a w hs => h a w hs
theorem WX.in_hit (h : WX Q .normal n L H) : WX (Exit.inBlock id Q) (.exit id) n L H := fun a w hs => by
 simp only [Exit.inBlock, if_true]
 exact h a w hs
theorem WX.in_miss (hne : (id' == id) = false) (h : WX Q (.exit id') n L H) : WX (Exit.inBlock id Q) (.exit id') n L H := fun a w hs => by
 have : ¬ id' = id := by simpa using hne
 simp only [Exit.inBlock, this, if_false]
 exact h a w hs
theorem WX.in_normal (h : WX Q .normal n L H) : WX (Exit.inBlock id Q) .normal n L H := fun a w hs => h a w hs
theorem WX.in_ret (h : WX Q .ret n L H) : WX (Exit.inBlock id Q) .ret n L H := fun a w hs => h a w hs
theorem WC.cond {p : Prop} [Decidable p] {z : Operand} (hc : evr L z = some (.bool (decide p))) (ht : p → WC P x Q n L H) (hf : ¬ p → WC P y Q n L H) : WC P (.cond z x y) Q n L H :=
 fun a w hs => wp_cond_split (hs.eval hc) (fun h => ht (of_decide_eq_true h) a w hs) (fun h => hf (of_decide_eq_false h) a w hs)
theorem WC.condb {p : Bool} {z : Operand} (hc : evr L z = some (.bool p)) (ht : p = true → WC P x Q n L H) (hf : p = false → WC P y Q n L H) : WC P (.cond z x y) Q n L H :=
 fun a w hs => wp_cond_split (hs.eval hc) (fun h => ht h a w hs) (fun h => hf h a w hs)
theorem WC.condT {z : Operand} (hc : evr L z = some (.bool true)) (ht : WC P x Q n L H) : WC P (.cond z x y) Q n L H := fun a w hs => wp_cond_true (hs.eval hc) (ht a w hs)
theorem WC.condF {z : Operand} (hc : evr L z = some (.bool false)) (hf : WC P y Q n L H) : WC P (.cond z x y) Q n L H := fun a w hs => wp_cond_false (hs.eval hc) (hf a w hs)
inductive RS (L : List (Nat × Value)) : List (Nat × Value) → Prop
 | nil : RS L []
 | cons {e : Nat} {v : Value} {l : List (Nat × Value)} : get L e = some v → RS L l → RS L ((e, v) :: l)
theorem RS.mem {L l : List (Nat × Value)} (h : RS L l) : ∀ p ∈ l, get L p.1 = some p.2 := by
 induction h with
 | nil => intro p hp; cases hp
 | cons h1 _ ih =>
  intro p hp
  rcases List.mem_cons.1 hp with rfl | hp
  ·exact h1
  ·exact ih p hp
theorem Regs.sub {a : Act} (h : Regs n L a) (k : RS L L') : Regs n L' a := ⟨h.size, h.defers, fun d v hv => h.get d v (k.mem _ (get_mem hv))⟩
theorem St.sub {a : Act} {w : World} (h : St n L H a w) (k : RS L L') (t : Takes H H' F) : St n L' H' a w := ⟨h.regs.sub k, h.sat.only t⟩
theorem St.regsub {a : Act} {w : World} (h : St n L H a w) (k : RS L L') : St n L' H a w := ⟨h.regs.sub k, h.sat⟩
theorem WC.nilslice (e : TypeId) (sz : Nat) (h : WC P c Q n L (own (.slice none 0 0) e sz 0 [] :: H)) : WC P c Q n L H :=
 fun a w hs => h a w ⟨hs.regs, hs.sat.grow ⟨by simp, .inl ⟨rfl, rfl⟩⟩ (Chg.refl _ _) (fun b hb => by simp [own, Value.ownBlock] at hb)⟩
theorem WC.cut {X : Type} (φ : X → Prop) (LL : X → List (Nat × Value)) (HH : X → List Ch)
  (h1 : WC P x (Exit.then (fun a w => ∃ q, φ q ∧ St n (LL q) (HH q) a w) Q) n L H) (h2 : ∀ q, φ q → WC P y Q n (LL q) (HH q)) : WC P (.seq x y) Q n L H :=
 WC.seq fun a w hs => wp_mono (h1 a w hs) (by
  intro e a' w' he
  cases e with
  | normal => obtain ⟨q, hq, hst⟩ := he; exact h2 q hq a' w' hst
  | _ => exact he)
theorem WX.meet {X : Type} {φ : X → Prop} {LL : X → List (Nat × Value)} {HH : X → List Ch} {Q' : Exit → Act → World → Prop} (q : X) (hφ : φ q) (hst : ∀ a w, St n L H a w → St n (LL q) (HH q) a w) :
  WX (Exit.then (fun a w => ∃ q, φ q ∧ St n (LL q) (HH q) a w) Q') .normal n L H := fun a w hs => ⟨q, hφ, hst a w hs⟩
theorem WC.loop {X : Type} (m : X → Nat) (φ : X → Prop) (LL : X → List (Nat × Value)) (HH : X → List Ch) (x0 : X) (h0 : φ x0) (hstart : ∀ a w, St n L H a w → St n (LL x0) (HH x0) a w)
  (hround : ∀ q, φ q → WC P c (Exit.then (fun a w => ∃ q', (φ q' ∧ m q' < m q) ∧ St n (LL q') (HH q') a w) Q) n (LL q) (HH q)) : WC P (.loop c) Q n L H := by
 intro a w hs
 have key : ∀ k q a w, m q = k → φ q → St n (LL q) (HH q) a w → ∀ (b : Frame) (kk : List Item) (cs : List Frame),
   ∃ e a' w', Q e a' w' ∧ Arrives P (lone (b.at a (.code c :: .inLoop c :: kk)) cs w) b kk cs e a' w' := by
  intro k
  induction k using Nat.strongRecOn with
  | _ k ih =>
   intro q a w hk hq hst b kk cs
   obtain ⟨e, a₁, w₁, hQ, harr⟩ := hround q hq a w hst b (.inLoop c :: kk) cs
   cases e with
   | normal =>
    obtain ⟨q', ⟨hq', hlt⟩, hst'⟩ := hQ
    obtain ⟨e₂, a₂, w₂, hq₂, harr₂⟩ := ih (m q') (hk ▸ hlt) q' a₁ w₁ rfl hq' hst' b kk cs
    exact ⟨e₂, a₂, w₂, hq₂, .of_steps (Steps.trans harr (.one step_inLoop)) harr₂⟩
   | exit id => exact ⟨_, a₁, w₁, hQ, .pass (x := .inLoop c) rfl (fun _ _ => .inl (by simp)) harr⟩
   | goto l => exact ⟨_, a₁, w₁, hQ, .pass (x := .inLoop c) rfl (fun _ _ => .inl (by simp)) harr⟩
   | ret => exact ⟨_, a₁, w₁, hQ, .pass (x := .inLoop c) rfl (fun _ _ => .inl (by simp)) harr⟩
   | panic ch => exact ⟨_, a₁, w₁, hQ, .pass (x := .inLoop c) rfl (fun _ _ => .inl (by simp)) harr⟩
   | outgrown => exact ⟨_, a₁, w₁, hQ, .pass (x := .inLoop c) rfl (fun _ _ => .inl (by simp)) harr⟩
 intro b kk cs
 obtain ⟨e, a', w', hq, harr⟩ := key _ x0 a w rfl h0 (hstart a w hs) b kk cs
 exact ⟨e, a', w', hq, .of_steps (.one step_loop) harr⟩
theorem wlg_yes {Post : Act → World → Prop} {j dj : Nat} {b : Bool} (ho : Opn P Q o n L H Post) (hg : o.guard = some (j, b)) (hj : (ops[j]?).bind (·.dst) = some dj) (hb : get L dj = some (.bool b))
  (h : ∀ a w, Post a w → wpList P ops Q rest a w) : WL P ops Q (o :: rest) n L H := fun a w hs => by
 refine wpList_step fun K hK => ?_
 have hy : yielded ops a.tmps j = some b := by simp [yielded, hj, hs.regs.get dj _ hb]
 have hw : Region.wanted o (yielded ops a.tmps) = true := by simp [Region.wanted, hg, hy]
 rw [if_pos hw]
 exact ho a w hs K fun a' w' hp => hK a' w' (h a' w' hp)
theorem wlg_no {j dj : Nat} {b b' : Bool} (hg : o.guard = some (j, b)) (hj : (ops[j]?).bind (·.dst) = some dj) (hb : get L dj = some (.bool b')) (hne : (b' == b) = false)
  {d : Nat} (hd : o.dst = some d) (hn : d < n.n) (h : WL P ops Q rest n (upd L d undef) H) : WL P ops Q (o :: rest) n L H := fun a w hs => by
 refine wpList_step fun K hK => ?_
 have hy : yielded ops a.tmps j = some b' := by simp [yielded, hj, hs.regs.get dj _ hb]
 have hne' : ¬ b' = b := by simpa using hne
 have hw : ¬ Region.wanted o (yielded ops a.tmps) = true := by simp [Region.wanted, hg, hy, hne']
 rw [if_neg hw, hd]
 exact hK _ _ (h _ _ ⟨hs.regs.put hn _, hs.sat⟩)
theorem wlg_undef {j dj : Nat} {b : Bool} (hg : o.guard = some (j, b)) (hj : (ops[j]?).bind (·.dst) = some dj) (hb : get L dj = some undef)
  {d : Nat} (hd : o.dst = some d) (hn : d < n.n) (h : WL P ops Q rest n (upd L d undef) H) : WL P ops Q (o :: rest) n L H := fun a w hs => by
 refine wpList_step fun K hK => ?_
 have hy : yielded ops a.tmps j = none := by simp [yielded, hj, hs.regs.get dj _ hb, undef]
 have hw : ¬ Region.wanted o (yielded ops a.tmps) = true := by simp [Region.wanted, hg, hy]
 rw [if_neg hw, hd]
 exact hK _ _ (h _ _ ⟨hs.regs.put hn _, hs.sat⟩)
def argL : Nat → List Value → List (Nat × Value)
 | _, [] => []
 | k, v :: vs => (k, v) :: argL (k + 1) vs
theorem argL_get : ∀ (vs : List Value) (k d : Nat) (v : Value), get (argL k vs) d = some v → k ≤ d ∧ vs[d - k]? = some v
 | [], _, _, _, h => by cases h
 | u :: vs, k, d, v, h => by
  simp only [argL, get] at h
  cases hb : Nat.beq k d with
  | true =>
   have : k = d := Nat.eq_of_beq_eq_true hb
   rw [hb] at h
   simp only [cond_true, Option.some.injEq] at h
   subst this
   exact ⟨Nat.le_refl _, by simp [h]⟩
  | false =>
   rw [hb] at h
   obtain ⟨h1, h2⟩ := argL_get vs (k + 1) d v h
   refine ⟨by omega, ?_⟩
   have : d - k = (d - (k + 1)) + 1 := by omega
   rw [this]
   simpa using h2
def Spec (P : Program) (f : FuncId) (args : List Value) (T D : List Ch) {R : Type} (φ : R → Prop) (ret : R → Value) (B : R → List Ch) : Prop :=
 ∀ w, Sat w (T ++ D) → Calls P f args.toArray w fun e w' => ∃ r, e = .returned (ret r) ∧ φ r ∧ Sat w' (B r) ∧ Chg (MutF T) w w' ∧ ∀ c ∈ B r, ∀ b, c.foot b → w.heap.size ≤ b ∨ MutF T b
def Fin (P : Program) (fn : Func) (w0 : World) (T : List Ch) {R : Type} (φ : R → Prop) (ret : R → Value) (B : R → List Ch) : Exit → Act → World → Prop :=
 bodyPost P fn fun e w' => ∃ r, e = .returned (ret r) ∧ φ r ∧ Sat w' (B r) ∧ Chg (MutF T) w0 w' ∧ ∀ c ∈ B r, ∀ b, c.foot b → w0.heap.size ≤ b ∨ MutF T b
theorem Spec.intro {f : FuncId} {fn : Func} {args : List Value} {T D : List Ch} {R : Type} {φ : R → Prop} {ret : R → Value} {B : R → List Ch} (hf : P.funcs[f]? = some fn) {m : Nat} (hm : fn.ntmps = m) (hb : fn.body = some c)
  (hsz : args.length ≤ m) (hD : ∀ d ∈ D, d.ex = false) (h : ∀ w0, WC P c (Fin P fn w0 T φ ret B) ⟨m, []⟩ (argL 0 args) (T ++ D ++ [frameC w0 (MutF T)])) : Spec P f args T D φ ret B := by
 intro w hs
 refine calls_of_wp hf hb (h w _ w ⟨⟨?_, rfl, ?_⟩, ?_⟩)
 ·simp [hm]; omega
 ·intro d v hv
  obtain ⟨_, h2⟩ := argL_get args 0 d v hv
  simp only [Nat.sub_zero] at h2
  have hlt := (List.getElem?_eq_some_iff.1 h2).1
  rw [Array.getElem?_append_left (by simpa using hlt)]
  simpa using h2
 ·have h2 : Sat w ([] ++ (T ++ D)) := hs
  refine ⟨fun x hx => ?_, List.pairwise_append.2 ⟨hs.apart, List.pairwise_singleton .., fun x hx y hy hm b hxf hyf => ?_⟩⟩
  ·rcases List.mem_append.1 hx with hx | hx
   ·exact hs.ok x hx
   ·rw [List.mem_singleton.1 hx]
    exact Chg.refl _ _
  ·rw [List.mem_singleton.1 hy] at hyf hm
   rcases hm with hm | hm
   ·rcases List.mem_append.1 hx with hx | hx
    ·exact hyf.2 ⟨x, hx, hm, hxf⟩
    ·rw [hD x hx] at hm; cases hm
   ·cases hm
def resOne (rv : ResultVar) (tmps : Array Value) : Sem Value := match rv with
 | .tmp t => pure (tmps.getD t undef)
 | .cell a t => do loadVar t (← asAddr (tmps.getD a undef))
structure Res (P : Program) (n : Fr) (L : List (Nat × Value)) (H : List Ch) (rv : ResultVar) (v : Value) : Prop where
 run : ∀ a w, St n L H a w → (resOne rv a.tmps).run P w = .ok v w
theorem Res.tmp {t : Tmp} {v : Value} (h : get L t = some v) : Res P n L H (.tmp t) v := ⟨fun a w hs => by
 have := hs.regs.get t v h
 simp [resOne, Array.getD_eq_getD_getElem?, this]⟩
theorem Res.cellN {t : Tmp} {ty bt : TypeId} {b sz : Nat} {cs : List Value} (h : get L t = some (.pointer (some ⟨b, 0, none⟩))) (ht : Agg P ty sz) (hc : blk b cs bt ∈ H) (hl : cs.length = sz) : Res P n L H (.cell t ty) (.agg cs.toArray) := ⟨fun a w hs => by
 have h1 := hs.regs.get t _ h
 have hb : w.heap[b]? = some (.cells cs.toArray bt (0, 0)) := hs.sat.ok _ hc
 have hcell : ∀ j u, cs[j]? = some u → w.cell? ((⟨b, 0, none⟩ : Addr).add j) = some u := by
  intro j u hu
  rw [add_at, cell_of_row w b _ _ _ _ hb]
  simpa using hu
 simp [resOne, Array.getD_eq_getD_getElem?, h1, asAddr, run_loadN ht hl hcell]⟩
theorem Res.cell1 {t : Tmp} {ty bt : TypeId} {b : Nat} {cs : List Value} {v : Value} (h : get L t = some (.pointer (some ⟨b, 0, none⟩))) (ht : Flat P ty) (hc : blk b cs bt ∈ H) (hv : cs[0]? = some v) : Res P n L H (.cell t ty) v := ⟨fun a w hs => by
 have h1 := hs.regs.get t _ h
 have hb : w.heap[b]? = some (.cells cs.toArray bt (0, 0)) := hs.sat.ok _ hc
 have hcell : w.cell? ⟨b, 0, none⟩ = some v := by rw [cell_of_row w b _ _ _ _ hb]; simpa using hv
 simp [resOne, Array.getD_eq_getD_getElem?, h1, asAddr, run_load1 ht hcell]⟩
theorem results_eq (fn : Func) (tmps : Array Value) : results fn tmps = (do
  let vs ← fn.results.mapM fun rv => resOne rv tmps
  pure (if h : vs.size = 1 then vs[0] else .tuple vs)) := by
 unfold results
 congr 1
theorem Fin.go {m : Nat} {fn : Func} {w0 : World} {T : List Ch} {R : Type} {φ : R → Prop} {ret : R → Value} {B : R → List Ch} {e : Exit} (he : e = .ret ∨ e = .normal) (r : R) (hφ : φ r)
  (hres : ∀ a w, St ⟨m, []⟩ L H a w → (results fn a.tmps).run P w = .ok (ret r) w) (hB : Takes H (frameC w0 (MutF T) :: B r) F) (hex : ∀ c ∈ B r, c.ex = true) : WX (Fin P fn w0 T φ ret B) e ⟨m, []⟩ L H := by
 intro a w hs
 have hsat := (hs.sat.takes hB).app_left
 have hchg : Chg (MutF T) w0 w := hsat.head
 have hap := (List.pairwise_cons.1 hsat.apart).1
 have hfin : a.defers = [] ∧ ∃ v, (results fn a.tmps).run P w = .ok v w ∧ ∃ r, Ending.returned v = .returned (ret r) ∧ φ r ∧ Sat w (B r) ∧ Chg (MutF T) w0 w ∧ ∀ c ∈ B r, ∀ b, c.foot b → w0.heap.size ≤ b ∨ MutF T b := by
  refine ⟨hs.regs.defers, _, hres a w hs, r, rfl, hφ, hsat.tail, hchg, fun c hc b hb => ?_⟩
  by_cases hlt : b < w0.heap.size
  ·right
   by_cases hm : MutF T b
   ·exact hm
   ·exact absurd hb (hap c hc (.inr (hex c hc)) b ⟨hlt, hm⟩)
  ·left; omega
 rcases he with rfl | rfl <;> exact hfin
theorem Fin.ret0 {m : Nat} {fn : Func} {w0 : World} {T : List Ch} {R : Type} {φ : R → Prop} {ret : R → Value} {B : R → List Ch} {e : Exit} (he : e = .ret ∨ e = .normal) (r : R) (hφ : φ r)
  (hr : fn.results = #[]) (hv : ret r = .tuple #[]) (hB : Takes H (frameC w0 (MutF T) :: B r) F) (hex : ∀ c ∈ B r, c.ex = true) : WX (Fin P fn w0 T φ ret B) e ⟨m, []⟩ L H :=
 Fin.go he r hφ (fun a w hs => by rw [results_eq, hr, hv]; simp) hB hex
theorem Fin.ret1 {m : Nat} {fn : Func} {w0 : World} {T : List Ch} {R : Type} {φ : R → Prop} {ret : R → Value} {B : R → List Ch} {e : Exit} (he : e = .ret ∨ e = .normal) (r : R) (hφ : φ r) {r1 : ResultVar}
  (hr : fn.results = #[r1]) (h1 : Res P ⟨m, []⟩ L H r1 (ret r)) (hB : Takes H (frameC w0 (MutF T) :: B r) F) (hex : ∀ c ∈ B r, c.ex = true) : WX (Fin P fn w0 T φ ret B) e ⟨m, []⟩ L H :=
 Fin.go he r hφ (fun a w hs => by rw [results_eq, hr]; simp [h1.run a w hs]) hB hex
theorem Fin.ret2 {m : Nat} {fn : Func} {w0 : World} {T : List Ch} {R : Type} {φ : R → Prop} {ret : R → Value} {B : R → List Ch} {e : Exit} (he : e = .ret ∨ e = .normal) (r : R) (hφ : φ r) {r1 r2 : ResultVar} {v1 v2 : Value}
  (hr : fn.results = #[r1, r2]) (hv : ret r = .tuple #[v1, v2]) (h1 : Res P ⟨m, []⟩ L H r1 v1) (h2 : Res P ⟨m, []⟩ L H r2 v2) (hB : Takes H (frameC w0 (MutF T) :: B r) F) (hex : ∀ c ∈ B r, c.ex = true) : WX (Fin P fn w0 T φ ret B) e ⟨m, []⟩ L H :=
 Fin.go he r hφ (fun a w hs => by rw [results_eq, hr, hv]; simp [h1.run a w hs, h2.run a w hs]) hB hex
theorem Fin.ret3 {m : Nat} {fn : Func} {w0 : World} {T : List Ch} {R : Type} {φ : R → Prop} {ret : R → Value} {B : R → List Ch} {e : Exit} (he : e = .ret ∨ e = .normal) (r : R) (hφ : φ r) {r1 r2 r3 : ResultVar} {v1 v2 v3 : Value}
  (hr : fn.results = #[r1, r2, r3]) (hv : ret r = .tuple #[v1, v2, v3]) (h1 : Res P ⟨m, []⟩ L H r1 v1) (h2 : Res P ⟨m, []⟩ L H r2 v2) (h3 : Res P ⟨m, []⟩ L H r3 v3) (hB : Takes H (frameC w0 (MutF T) :: B r) F) (hex : ∀ c ∈ B r, c.ex = true) : WX (Fin P fn w0 T φ ret B) e ⟨m, []⟩ L H :=
 Fin.go he r hφ (fun a w hs => by rw [results_eq, hr, hv]; simp [h1.run a w hs, h2.run a w hs, h3.run a w hs]) hB hex
structure Give (H T D F : List Ch) : Prop where
 t : Takes H T F
 d : Reads F D
def Callable (P : Program) (f : FuncId) : Prop := (P.funcs[f]?).map (fun fn => (fn.name == "runtime.NumGoroutine", fn.body.isNone)) = some (false, false)
theorem Callable.run {f : FuncId} (h : Callable P f) (args : Array Value) (w : World) : (callFunc f args).run P w = .ok (.enter f args) w := by
 obtain ⟨fn, hf, hq⟩ := Option.map_eq_some_iff.1 h
 simp only [Prod.mk.injEq] at hq
 simp only [callFunc, Sem.run_bind]
 have h1 : ¬ fn.name = "runtime.NumGoroutine" := by simpa using hq.1
 have h2 : ¬ fn.body = none := by
  have := hq.2
  intro e
  rw [e] at this
  cases this
 simp [program, Sem.run, hf, h1, h2]
section
variable {d : Nat} {ty : TypeId} {pos : String} {af : Array Edge} {g : Option (Nat × Bool)} {f : FuncId}
theorem evals {a : Act} {w : World} (hs : St n L H a w) : ∀ (xs : List Operand) (vs : List Value), xs.map (evr L) = vs.map some → xs.map a.eval = vs
 | [], [], _ => rfl
 | [], _ :: _, h => by cases h
 | _ :: _, [], h => by cases h
 | x :: xs, v :: vs, h => by
  simp only [List.map_cons, List.cons.injEq] at h
  simp only [List.map_cons, hs.eval h.1, evals hs xs vs h.2]
theorem run_callOp {dst : Option Tmp} {zs : List Operand} {vs : List Value} {ats : Array TypeId} (hc : Callable P f) {a : Act} {w : World} (he : zs.map a.eval = vs) :
  (execOp a.eval ⟨dst, .call { callee := .value (.func f), args := zs.toArray, argTypes := ats }, ty, pos, af, g⟩).run P w = .ok (.enter f vs.toArray) w := by
 have e1 : zs.toArray.map a.eval = vs.toArray := by rw [List.map_toArray, he]
 have e2 : a.eval (.func f) = .func (.func f) #[] #[] := rfl
 simp only [execOp, resolve, Deferred.ofValue, invoke, e1, e2, Sem.run_bind, Sem.run_pure, Result.andThen_ok]
 simp [hc.run]
theorem op_call {zs : List Operand} {vs : List Value} {ats : Array TypeId} {T D : List Ch} {R : Type} {φ : R → Prop} {ret : R → Value} {B : R → List Ch} (hsp : Spec P f vs T D φ ret B) (hc : Callable P f) (hn : d < n.n)
  (hargs : zs.map (evr L) = vs.map some) (hG : Give H T D F := by apply Give.mk; (repeat (first | exact Takes.nil | exact Take.here | apply Takes.cons | apply Take.there)); repeat (first | exact Reads.nil | (apply Reads.rd; (focus (repeat (first | exact List.Mem.head _ | apply List.Mem.tail)); done)) | (apply Reads.own; (focus (repeat (first | exact List.Mem.head _ | apply List.Mem.tail)); done)) | (apply Reads.rx; (focus (repeat (first | exact List.Mem.head _ | apply List.Mem.tail)); done)) | (apply Reads.rows (e := false); (focus (repeat (first | exact List.Mem.head _ | apply List.Mem.tail)); done)) | (apply Reads.rows (e := true); (focus (repeat (first | exact List.Mem.head _ | apply List.Mem.tail)); done)))) :
  Opn P Q ⟨some d, .call { callee := .value (.func f), args := zs.toArray, argTypes := ats }, ty, pos, af, g⟩ n L H (fun a w => ∃ r, φ r ∧ St n (upd L d (ret r)) (B r ++ F) a w) := by
 intro a w hs K hK
 unfold Oper.wp
 rw [run_callOp hc (evals hs zs vs hargs), Oper.upon_enter]
 have h1 := hs.sat.takes hG.t
 refine (hsp w (h1.ros hG.d.all)).mono ?_
 rintro e w' ⟨r, rfl, hφ, hB, hchg, hnew⟩
 exact hK _ _ ⟨r, hφ, hs.regs.put hn _, h1.frame hB hchg hnew⟩
end
def lastIn (ops : Array Oper) (e : Nat) (listed : Array Bool) : Bool := ops[e]?.isSome && listed.getD e false
def wpAnyE (P : Program) (ops : Array Oper) (Q : Exit → Act → World → Prop) (S : World → Prop) (e : Nat) : Nat → Array Bool → Act → World → Prop
 | 0, listed, a, w => Region.ready .any ops listed = [] ∧ Q .normal a w
 | fuel + 1, listed, a, w => (Region.ready .any ops listed = [] → Q .normal a w) ∧
   ∀ i ∈ Region.ready .any ops listed, wpOp P ops Q i (fun a' w' => (i ≠ e → lastIn ops e listed = false → S w') ∧ wpAnyE P ops Q S e fuel (listed.setIfInBounds i true) a' w') a w
theorem wpAnyE.any {S : World → Prop} {e : Nat} : ∀ (fuel : Nat) (listed : Array Bool) (a : Act) (w : World), wpAnyE P ops Q S e fuel listed a w → wpAny P .any ops Q fuel listed a w
 | 0, _, _, _, h => h
 | fuel + 1, _, _, _, h => ⟨h.1, fun i hi => wpOp_mono (fun a' w' k => wpAnyE.any fuel _ a' w' k.2) (h.2 i hi)⟩
def deps (ops : Array Oper) (k : Nat) : List Nat := match ops[k]? with
 | some o => (o.after.toList.filter fun d => Region.binds .any d).map (·.on)
 | none => []
def reachB (ops : Array Oper) : Nat → Nat → Nat → Bool
 | 0, _, _ => false
 | f + 1, a, i => (deps ops a).any fun k => Nat.beq k i || reachB ops f k i
def closedB (ops : Array Oper) (listed : Array Bool) : Bool := Nat.beq listed.size ops.size && (List.range listed.size).all fun k => !listed.getD k false || (deps ops k).all fun d => listed.getD d false
def Closed (ops : Array Oper) (listed : Array Bool) : Prop := listed.size = ops.size ∧ ∀ k, listed.getD k false = true → ∀ d ∈ deps ops k, listed.getD d false = true
theorem closed_of {ops : Array Oper} {listed : Array Bool} (h : closedB ops listed = true) : Closed ops listed := by
 simp only [closedB, Bool.and_eq_true, List.all_eq_true, List.mem_range, Bool.or_eq_true, Bool.not_eq_true'] at h
 have hs := Nat.eq_of_beq_eq_true h.1
 refine ⟨hs, fun k hk d hd => ?_⟩
 by_cases hlt : k < listed.size
 ·rcases h.2 k hlt with h1 | h1
  ·rw [hk] at h1; cases h1
  ·exact h1 d hd
 ·have : ops[k]? = none := Array.getElem?_eq_none (by omega)
  simp [deps, this] at hd
theorem reach_listed {ops : Array Oper} {listed : Array Bool} {i : Nat} (hc : Closed ops listed) : ∀ (f a : Nat), (∀ d ∈ deps ops a, listed.getD d false = true) → reachB ops f a i = true → listed.getD i false = true
 | 0, _, _, h => by cases h
 | f + 1, a, hd, h => by
  simp only [reachB, List.any_eq_true, Bool.or_eq_true] at h
  obtain ⟨k, hk, h1 | h1⟩ := h
  ·exact Nat.eq_of_beq_eq_true h1 ▸ hd k hk
  ·exact reach_listed hc f k (hc.2 k (hd k hk)) h1
theorem ready_deps {ops : Array Oper} {listed : Array Bool} {j : Nat} (h : j ∈ Region.ready .any ops listed) : ∀ d ∈ deps ops j, listed.getD d false = true := by
 obtain ⟨_, oj, hoj, hall⟩ := mem_ready.1 h
 intro d hd
 simp only [deps, hoj, List.mem_map, List.mem_filter] at hd
 obtain ⟨x, ⟨hx1, hx2⟩, rfl⟩ := hd
 exact hall x (by simpa using hx1) hx2
theorem closed_set {ops : Array Oper} {listed : Array Bool} {j : Nat} (hc : Closed ops listed) (h : j ∈ Region.ready .any ops listed) : Closed ops (listed.setIfInBounds j true) := by
 have hmono : ∀ d, listed.getD d false = true → (listed.setIfInBounds j true).getD d false = true := fun d hd => by
  by_cases e : j = d
  ·subst e
   rcases Nat.lt_or_ge j listed.size with hlt | hge
   ·simp [hlt]
   ·simp [Nat.not_lt.2 hge] at hd
  ·rw [getD_set_ne false e]; exact hd
 refine ⟨by simpa using hc.1, fun k hk d hd => hmono d ?_⟩
 by_cases e : j = k
 ·subst e; exact ready_deps h d hd
 ·rw [getD_set_ne false e] at hk
  exact hc.2 k hk d hd
def waits (ops : Array Oper) (e i : Nat) : Bool := match ops[e]? with
 | some oe => oe.after.any fun d => Region.binds .any d && d.on == i
 | none => true
theorem not_listed {listed : Array Bool} {i : Nat} (h : i ∈ Region.ready .any ops listed) : listed.getD i true = false := (mem_ready.1 h).1
theorem first_in_any {S : World → Prop} {e i : Nat} {oi : Oper} {v : Value} (hi : ops[i]? = some oi) (hsel : Region.noSelect ops = true) (hwait : ops[e]? = none ∨ reachB ops ops.size e i = true)
  (hQ : ∀ c a w, Q (.panic c) (a.put oi.dst v) w → Q (.panic c) a w) :
  ∀ (fuel : Nat) (listed : Array Bool) (a : Act) (w : World), (ops[e]? = none ∨ Closed ops listed) → Region.free .any ops listed i = true → i ∈ Region.ready .any ops listed → YieldsIf P ops S oi v a → S w →
   wpAnyE P ops Q S e fuel (listed.setIfInBounds i true) (a.put oi.dst v) w → wpAnyE P ops Q S e (fuel + 1) listed a w := by
 have hfreeSpec := fun listed h => Region.free_spec (ops := ops) (md := .any) (listed := listed) hi h
 suffices H : ∀ (fuel : Nat) (listed : Array Bool) (a : Act) (w : World), (ops[e]? = none ∨ Closed ops listed) →
   (∀ j oj, ops[j]? = some oj → j ≠ i → listed.getD j true = false → (∀ d ∈ oj.after, Region.binds .any d = true → d.on ≠ i) → oi.apart ops oj = true) →
   i ∈ Region.ready .any ops listed → YieldsIf P ops S oi v a → S w →
   wpAnyE P ops Q S e fuel (listed.setIfInBounds i true) (a.put oi.dst v) w → wpAnyE P ops Q S e (fuel + 1) listed a w from
  fun fuel listed a w hc hf hr hy hS hk => H fuel listed a w hc (hfreeSpec listed hf) hr hy hS hk
 intro fuel
 induction fuel with
 | zero =>
  intro listed a w _ _ hr hy hS hk
  refine ⟨fun h0 => absurd hr (by rw [h0]; exact List.not_mem_nil), fun j hj => ?_⟩
  rcases Decidable.em (j = i) with rfl | hne
  ·exact hy.wpOp hi hS ⟨fun _ _ => hS, hk⟩
  ·have hj' := ready_mono hj hne
   rw [hk.1] at hj'
   exact absurd hj' List.not_mem_nil
 | succ fuel ih =>
  intro listed a w hclosed hfree hr hy hS hk
  refine ⟨fun h0 => absurd hr (by rw [h0]; exact List.not_mem_nil), fun j hj => ?_⟩
  rcases Decidable.em (j = i) with rfl | hne
  ·exact hy.wpOp hi hS ⟨fun _ _ => hS, hk⟩
  have hul : listed.getD i true = false := not_listed hr
  obtain ⟨hju, oj, hoj, hall⟩ := mem_ready.1 hj
  have hnoedge : ∀ d ∈ oj.after, Region.binds .any d = true → d.on ≠ i := by
   intro d hd hb heq
   have h1 := hall d hd hb
   rw [heq] at h1
   rcases Nat.lt_or_ge i listed.size with hlt | hge
   ·simp [hlt] at h1 hul
    rw [hul] at h1
    cases h1
   ·simp [Array.getElem?_eq_none hge] at h1
  have hje : j ≠ e := by
   rintro rfl
   rcases hwait with h0 | hw
   ·rw [hoj] at h0; cases h0
   ·rcases hclosed with h0 | hc
    ·rw [hoj] at h0; cases h0
    ·have := reach_listed hc _ _ (ready_deps hj) hw
     rcases Nat.lt_or_ge i listed.size with hlt | hge
     ·simp [hlt] at this hul
      rw [hul] at this
      cases this
     ·simp [Nat.not_lt.2 hge] at this
  have contra : listed.getD i false = true → False := fun this => by
   rcases Nat.lt_or_ge i listed.size with hlt | hge
   ·simp [hlt] at this hul
    rw [hul] at this
    cases this
   ·simp [Nat.not_lt.2 hge] at this
  have hnl : lastIn ops e (listed.setIfInBounds i true) = false := by
   unfold lastIn
   rcases hwait with h0 | hw
   ·simp [h0]
   ·rcases hclosed with h0 | hc
    ·simp [h0]
    ·have hei : i ≠ e := by
      rintro rfl
      exact contra (reach_listed hc _ _ (ready_deps hr) hw)
     rw [getD_set_ne false hei]
     cases hle : listed.getD e false with
     | false => simp
     | true => exact (contra (reach_listed hc _ _ (hc.2 e hle) hw)).elim
  have hsel' : ∀ (j : Nat) (o : Oper) cs b, ops[j]? = some o → o.op ≠ .select cs b := Region.noSelect_spec hsel
  have h2 := wpOp_putIf hoj (hfree j oj hoj hne hju hnoedge) (fun cs b => hsel' i oi cs b hi) (fun cs b => hsel' j oj cs b hoj) hQ hy (hk.2 j (ready_mono hj hne))
  refine wpOp_mono (fun a' w' h3 => ?_) h2
  obtain ⟨hy', hS', hk'⟩ := h3
  refine ⟨fun hne _ => hS' hne hnl, ih (listed.setIfInBounds j true) a' w' (hclosed.imp id fun hc => closed_set hc hj) ?_ (ready_mono hr (Ne.symm hne)) hy' (hS' hje hnl) (by rw [Array.setIfInBounds_comm _ _ hne]; exact hk')⟩
  intro k ok hok hki hun hno
  refine hfree k ok hok hki ?_ hno
  rcases Decidable.em (j = k) with rfl | hjk
  ·exact hju
  ·rwa [getD_set_ne true hjk] at hun
def WA (P : Program) (ops : Array Oper) (Q : Exit → Act → World → Prop) (S : World → Prop) (e : Nat) (fuel : Nat) (listed : Array Bool) (n : Fr) (L : List (Nat × Value)) (H : List Ch) : Prop :=
 ∀ a w, St n L H a w → wpAnyE P ops Q S e fuel listed a w
theorem WC.drawn {Hs : List Ch} (hm : P.follows .mixedOrders = true) (e : Nat) (h : WA P ops Q (fun w => Sat w Hs) e ops.size (Array.replicate ops.size false) n L H) : WC P (.region id ops true) Q n L H :=
 fun a w hs => wp_region_any hm (wpAnyE.any _ _ _ _ (h a _ ⟨hs.regs, hs.sat.chg (Chg.drew _ w)⟩))
theorem WC.drawnH (hm : P.follows .mixedOrders = true) (e : Nat) (h : WA P ops Q (fun w => Sat w H) e ops.size (Array.replicate ops.size false) n L H) : WC P (.region id ops true) Q n L H := WC.drawn hm e h
theorem WA.done {S : World → Prop} {e fuel : Nat} {listed : Array Bool} (hr : Region.ready .any ops listed = []) (h : WX Q .normal n L H) : WA P ops Q S e fuel listed n L H := fun a w hs => by
 cases fuel with
 | zero => exact ⟨hr, h a w hs⟩
 | succ k => exact ⟨fun _ => h a w hs, fun i hi => by rw [hr] at hi; cases hi⟩
def mayFirst (ops : Array Oper) (e i : Nat) (listed : Array Bool) : Bool :=
 Region.noSelect ops && (ops[e]?.isNone || (reachB ops ops.size e i && closedB ops listed)) && Region.free .any ops listed i && (Region.ready .any ops listed).contains i
theorem WA.first {Hs : List Ch} {e i d : Nat} {oi : Oper} {v : Value} {fuel : Nat} {listed : Array Bool} (hi : ops[i]? = some oi) (hm : mayFirst ops e i listed = true)
  (hQ : ∀ c a w, Q (.panic c) (a.put oi.dst v) w → Q (.panic c) a w) (hd : oi.dst = some d) (hn : d < n.n) (hy : ∀ a w, St n L H a w → YieldsIf P ops (fun w => Sat w Hs) oi v a) (hS : Takes H Hs F)
  (h : WA P ops Q (fun w => Sat w Hs) e fuel (listed.setIfInBounds i true) n (upd L d v) H) : WA P ops Q (fun w => Sat w Hs) e (fuel + 1) listed n L H := fun a w hst => by
 simp only [mayFirst, Bool.and_eq_true] at hm
 obtain ⟨⟨⟨h1, h2⟩, h3⟩, h4⟩ := hm
 have h2' : (ops[e]? = none ∨ reachB ops ops.size e i = true) ∧ (ops[e]? = none ∨ Closed ops listed) := by
  simp only [Bool.or_eq_true, Bool.and_eq_true, Option.isNone_iff_eq_none] at h2
  rcases h2 with h2 | h2
  ·exact ⟨.inl h2, .inl h2⟩
  ·exact ⟨.inr h2.1, .inr (closed_of h2.2)⟩
 exact first_in_any hi h1 h2'.1 hQ fuel listed a w h2'.2 h3 (by simpa using h4) (hy a w hst) (hst.sat.only hS) (h _ _ (by rw [hd]; exact ⟨hst.regs.put hn v, hst.sat⟩))
theorem WA.take {Hs : List Ch} {e i d : Nat} {oi : Oper} {v : Value} {fuel : Nat} {listed : Array Bool} (hi : ops[i]? = some oi) (hm : mayFirst ops e i listed = true)
  (hQ : ∀ c a w, Q (.panic c) (a.put oi.dst v) w → Q (.panic c) a w) (hg : oi.guard = none) (hv : Val P oi n L Hs d v) (hS : Takes H Hs F)
  (h : WA P ops Q (fun w => Sat w Hs) e fuel (listed.setIfInBounds i true) n (upd L d v) H) : WA P ops Q (fun w => Sat w Hs) e (fuel + 1) listed n L H :=
 WA.first hi hm hQ hv.dst hv.lt (fun a w hst => .inl ⟨by simp [Region.wanted, hg], fun w' hS' => hv.run a w' ⟨hst.regs, hS'⟩⟩) hS h
theorem WA.takeG {Hs : List Ch} {e i d j dj : Nat} {b : Bool} {oi : Oper} {v : Value} {fuel : Nat} {listed : Array Bool} (hi : ops[i]? = some oi) (hm : mayFirst ops e i listed = true)
  (hQ : ∀ c a w, Q (.panic c) (a.put oi.dst v) w → Q (.panic c) a w) (hg : oi.guard = some (j, b)) (hj : (ops[j]?).bind (·.dst) = some dj) (hb : get L dj = some (.bool b)) (hv : Val P oi n L Hs d v) (hS : Takes H Hs F)
  (h : WA P ops Q (fun w => Sat w Hs) e fuel (listed.setIfInBounds i true) n (upd L d v) H) : WA P ops Q (fun w => Sat w Hs) e (fuel + 1) listed n L H :=
 WA.first hi hm hQ hv.dst hv.lt (fun a w hst => .inl ⟨by simp [Region.wanted, hg, yielded, hj, hst.regs.get dj _ hb], fun w' hS' => hv.run a w' ⟨hst.regs, hS'⟩⟩) hS h
theorem WA.skipG {Hs : List Ch} {e i d j dj : Nat} {b : Bool} {u : Value} {oi : Oper} {fuel : Nat} {listed : Array Bool} (hi : ops[i]? = some oi) (hm : mayFirst ops e i listed = true)
  (hQ : ∀ c a w, Q (.panic c) (a.put oi.dst undef) w → Q (.panic c) a w) (hg : oi.guard = some (j, b)) (hj : (ops[j]?).bind (·.dst) = some dj) (hb : get L dj = some u)
  (hu : u = .bool (!b) ∨ u = undef) (hd : oi.dst = some d) (hn : d < n.n) (hS : Takes H Hs F)
  (h : WA P ops Q (fun w => Sat w Hs) e fuel (listed.setIfInBounds i true) n (upd L d undef) H) : WA P ops Q (fun w => Sat w Hs) e (fuel + 1) listed n L H :=
 WA.first hi hm hQ hd hn (fun a w hst => .inr ⟨by
  have h1 := hst.regs.get dj _ hb
  rcases hu with rfl | rfl
  ·cases b <;> simp [Region.wanted, hg, yielded, hj, h1]
  ·simp [Region.wanted, hg, yielded, hj, h1, undef], rfl⟩) hS h
theorem WA.step {Hs : List Ch} {e i : Nat} {oi : Oper} {Post : Act → World → Prop} {fuel : Nat} {listed : Array Bool} (hr : Region.ready .any ops listed = [i]) (hi : ops[i]? = some oi) (hg : oi.guard = none)
  (ho : Opn P Q oi n L H Post) (hS : i ≠ e → ∀ a w, Post a w → Sat w Hs) (h : ∀ a w, Post a w → wpAnyE P ops Q (fun w => Sat w Hs) e fuel (listed.setIfInBounds i true) a w) :
  WA P ops Q (fun w => Sat w Hs) e (fuel + 1) listed n L H := fun a w hst => by
 refine ⟨fun h0 => (by rw [hr] at h0; cases h0), fun j hj => ?_⟩
 rw [hr] at hj
 rw [List.mem_singleton.1 hj]
 unfold wpOp
 simp only [hi]
 rw [if_pos (by simp [Region.wanted, hg])]
 exact .inl (ho a w hst _ fun a' w' hp => ⟨fun hne _ => hS hne a' w' hp, h a' w' hp⟩)
theorem WA.stepA {S : World → Prop} {e i : Nat} {oi : Oper} {Post : Act → World → Prop} {fuel : Nat} {listed : Array Bool} (hr : Region.ready .any ops listed = [i]) (hi : ops[i]? = some oi) (hg : oi.guard = none) (hd : lastIn ops e listed = true)
  (ho : Opn P Q oi n L H Post) (h : ∀ a w, Post a w → wpAnyE P ops Q S e fuel (listed.setIfInBounds i true) a w) :
  WA P ops Q S e (fuel + 1) listed n L H := fun a w hst => by
 refine ⟨fun h0 => (by rw [hr] at h0; cases h0), fun j hj => ?_⟩
 rw [hr] at hj
 rw [List.mem_singleton.1 hj]
 unfold wpOp
 simp only [hi]
 rw [if_pos (by simp [Region.wanted, hg])]
 exact .inl (ho a w hst _ fun a' w' hp => ⟨fun _ hf => (by rw [hd] at hf; cases hf), h a' w' hp⟩)
theorem WA.stepoA {S : World → Prop} {e i : Nat} {oi : Oper} {fuel : Nat} {listed : Array Bool} (hr : Region.ready .any ops listed = [i]) (hi : ops[i]? = some oi) (hg : oi.guard = none) (hd : lastIn ops e listed = true)
  (ho : Opn P Q oi n L H (St n L' H')) (h : WA P ops Q S e fuel (listed.setIfInBounds i true) n L' H') : WA P ops Q S e (fuel + 1) listed n L H := WA.stepA hr hi hg hd ho h
theorem WA.one {Hs : List Ch} {e i : Nat} {oi : Oper} {Post : Act → World → Prop} {fuel : Nat} {listed : Array Bool} (hi : ops[i]? = some oi) (hg : oi.guard = none)
  (ho : Opn P Q oi n L H Post) (hS : i ≠ e → ∀ a w, Post a w → Sat w Hs) (h : ∀ a w, Post a w → wpAnyE P ops Q (fun w => Sat w Hs) e fuel (listed.setIfInBounds i true) a w) :
  ∀ a w, St n L H a w → wpOp P ops Q i (fun a' w' => (i ≠ e → lastIn ops e listed = false → Sat w' Hs) ∧ wpAnyE P ops Q (fun w => Sat w Hs) e fuel (listed.setIfInBounds i true) a' w') a w := fun a w hst => by
 unfold wpOp
 simp only [hi]
 rw [if_pos (by simp [Region.wanted, hg])]
 exact .inl (ho a w hst _ fun a' w' hp => ⟨fun hne _ => hS hne a' w' hp, h a' w' hp⟩)
end
end Go.Proofs.YtkjlbedebmffgaaGreat.Sx
namespace Go.Proofs.YtkjlbedebmffgaaGreat.Sx
open Go.RowKit
@[simp] theorem blk_ex (g : Nat) (cs : List Value) (t : TypeId) : (blk g cs t).ex = true := rfl
@[simp] theorem own_ex (v : Value) (e : TypeId) (sz n : Nat) (xs : List Value) : (own v e sz n xs).ex = true := rfl
@[simp] theorem rd_ex (v : Value) (sz n : Nat) (xs : List Value) : (rd v sz n xs).ex = false := rfl
def rx (v : Value) (sz m : Nat) (xs : List Value) : Ch := { rd v sz m xs with ex := true }
@[simp] theorem rx_ex (v : Value) (sz n : Nat) (xs : List Value) : (rx v sz n xs).ex = true := rfl
theorem rx_le_rd {v : Value} {sz m : Nat} {xs : List Value} : (rd v sz m xs).Le (rx v sz m xs) := ⟨fun h => (by cases h), fun b h => h, fun w h => h⟩
theorem own_le_rx {v : Value} {e : TypeId} {sz m : Nat} {xs : List Value} : (rx v sz m xs).Le (own v e sz m xs) := ⟨fun _ => rfl, own_le_rd.foot, own_le_rd.ok⟩
theorem rx_sub {A : Option Addr} {c m sz l h : Nat} {xs : List Value} (hlh : l ≤ h) (hm : h ≤ m) :
  (rx (sliced A l h c sz) sz (h - l) ((xs.drop (l * sz)).take ((h - l) * sz))).Le (rx (.slice A m c) sz m xs) := ⟨fun _ => rfl, (rd_sub hlh hm).foot, (rd_sub hlh hm).ok⟩
theorem Reads.rx {F D : List Ch} {v : Value} {sz m : Nat} {xs : List Value} (h : Sx.rx v sz m xs ∈ F) (k : Reads F D) : Reads F (Sx.rd v sz m xs :: D) := .cons h rfl rx_le_rd k
theorem Src.rd {H : List Ch} {v : Value} {sz m : Nat} {xs : List Value} (h : Sx.rd v sz m xs ∈ H) : Src H v sz m xs := ⟨_, h, Ch.Le.refl _⟩
theorem Src.own {H : List Ch} {v : Value} {e : TypeId} {sz m : Nat} {xs : List Value} (h : Sx.own v e sz m xs ∈ H) : Src H v sz m xs := ⟨_, h, own_le_rd⟩
theorem Reads.rd {F D : List Ch} {v : Value} {sz m : Nat} {xs : List Value} (h : Sx.rd v sz m xs ∈ F) (k : Reads F D) : Reads F (Sx.rd v sz m xs :: D) := .cons h rfl (.refl _) k
theorem Reads.own {F D : List Ch} {v : Value} {e : TypeId} {sz m : Nat} {xs : List Value} (h : Sx.own v e sz m xs ∈ F) (k : Reads F D) : Reads F (Sx.rd v sz m xs :: D) := .cons h rfl own_le_rd k
section
variable {P : Program} {Q : Exit → Act → World → Prop} {n : Fr} {L L' : List (Nat × Value)} {H H' F : List Ch} {ops : Array Oper} {rest : List Oper} {o : Oper}
theorem wl1 {X : Type} {LL : X → List (Nat × Value)} {HH : X → List Ch} (ho : Opn P Q o n L H (fun a w => ∃ b, St n (LL b) (HH b) a w)) (hg : o.guard = none) (h : ∀ b, WL P ops Q rest n (LL b) (HH b)) : WL P ops Q (o :: rest) n L H :=
 wl ho hg fun a w ⟨b, hs⟩ => h b a w hs
theorem wl2 {X Y : Type} {LL : X → Y → List (Nat × Value)} {HH : X → Y → List Ch} (ho : Opn P Q o n L H (fun a w => ∃ b c, St n (LL b c) (HH b c) a w)) (hg : o.guard = none) (h : ∀ b c, WL P ops Q rest n (LL b c) (HH b c)) : WL P ops Q (o :: rest) n L H :=
 wl ho hg fun a w ⟨b, c, hs⟩ => h b c a w hs
theorem wlx {X : Type} {φ : X → Prop} {LL : X → List (Nat × Value)} {HH : X → List Ch} (ho : Opn P Q o n L H (fun a w => ∃ b, φ b ∧ St n (LL b) (HH b) a w)) (hg : o.guard = none) (h : ∀ b, φ b → WL P ops Q rest n (LL b) (HH b)) : WL P ops Q (o :: rest) n L H :=
 wl ho hg fun a w ⟨b, hb, hs⟩ => h b hb a w hs
theorem WX.regs {e : Exit} (h : WX Q e n L' H) (k : RS L L' := by repeat (first | exact RS.nil | refine RS.cons rfl ?_)) : WX Q e n L H := fun a w hs => h a w (hs.regsub k)
theorem WL.dup {c d : Ch} (hc : c ∈ H) (hcr : c.ex = false) (hd : d.ex = false) (hl : d.Le c) (h : WL P ops Q rest n L (d :: H)) : WL P ops Q rest n L H := fun a w hs => h a w ⟨hs.regs, hs.sat.dup hd hc hcr hl⟩
theorem WL.dupr {v v' : Value} {sz sz' m m' : Nat} {xs xs' : List Value} (hc : Sx.rd v sz m xs ∈ H) (hl : (Sx.rd v' sz' m' xs').Le (Sx.rd v sz m xs)) (h : WL P ops Q rest n L (Sx.rd v' sz' m' xs' :: H)) : WL P ops Q rest n L H := WL.dup hc rfl rfl hl h
theorem WL.nilrd (sz : Nat) (h : WL P ops Q rest n L (Sx.rd (.slice none 0 0) sz 0 [] :: H)) : WL P ops Q rest n L H := fun a w hs =>
 h a w ⟨hs.regs, hs.sat.grow (c := Sx.rd (.slice none 0 0) sz 0 []) ⟨by simp, by simp [maxLen], none, 0, rfl, Nat.le_refl _, fun hp => absurd hp (by simp)⟩ (Chg.refl _ _) (fun b hb => absurd hb.1 (by simp))⟩
theorem WX.turn {e : Exit} {c d : Ch} (hc : Take H c F) (hl : d.Le c) (h : WX Q e n L (d :: F)) : WX Q e n L H :=
 fun a w hs => h a w ⟨hs.regs, (hs.sat.perm hc.perm).weak (.keep hl (by
  have : ∀ G : List Ch, Weak G G := fun G => by
   induction G with
   | nil => exact .nil _
   | cons x G ih => exact .keep (.refl _) ih
  exact this F))⟩
theorem WX.blkEq {e : Exit} {b : Nat} {cs : List Value} {t : TypeId} (cs' : List Value) (hc : Take H (blk b cs t) F) (he : cs = cs') (h : WX Q e n L (blk b cs' t :: F)) : WX Q e n L H :=
 fun a w hs => h a w ⟨hs.regs, he ▸ hs.sat.perm hc.perm⟩
theorem WX.ownEq {e : Exit} {v : Value} {et : TypeId} {sz m : Nat} {xs : List Value} (xs' : List Value) (hc : Take H (own v et sz m xs) F) (he : xs = xs') (h : WX Q e n L (own v et sz m xs' :: F)) : WX Q e n L H :=
 fun a w hs => h a w ⟨hs.regs, he ▸ hs.sat.perm hc.perm⟩
theorem WL.blkEq {b : Nat} {cs : List Value} {t : TypeId} (cs' : List Value) (hc : Take H (blk b cs t) F) (he : cs = cs') (h : WL P ops Q rest n L (blk b cs' t :: F)) : WL P ops Q rest n L H :=
 fun a w hs => h a w ⟨hs.regs, he ▸ hs.sat.perm hc.perm⟩
section
variable {Hs G : List Ch} {e i : Nat} {oi : Oper} {fuel : Nat} {listed : Array Bool}
theorem WA.stepv {d : Nat} {v : Value} (hr : Region.ready .any ops listed = [i]) (hi : ops[i]? = some oi) (hg : oi.guard = none) (ho : Val P oi n L H d v) (hS : i ≠ e → Takes H Hs G)
  (h : WA P ops Q (fun w => Sat w Hs) e fuel (listed.setIfInBounds i true) n (upd L d v) H) : WA P ops Q (fun w => Sat w Hs) e (fuel + 1) listed n L H :=
 WA.step hr hi hg ho.opn (fun hne a w hs => hs.sat.only (hS hne)) h
theorem WA.stepo (hr : Region.ready .any ops listed = [i]) (hi : ops[i]? = some oi) (hg : oi.guard = none) (ho : Opn P Q oi n L H (St n L' H')) (hS : i ≠ e → Takes H' Hs G)
  (h : WA P ops Q (fun w => Sat w Hs) e fuel (listed.setIfInBounds i true) n L' H') : WA P ops Q (fun w => Sat w Hs) e (fuel + 1) listed n L H :=
 WA.step hr hi hg ho (fun hne a w hs => hs.sat.only (hS hne)) h
theorem WA.step1 {X : Type} {LL : X → List (Nat × Value)} {HH : X → List Ch} {G : X → List Ch} (hr : Region.ready .any ops listed = [i]) (hi : ops[i]? = some oi) (hg : oi.guard = none) (ho : Opn P Q oi n L H (fun a w => ∃ b, St n (LL b) (HH b) a w)) (hS : i ≠ e → ∀ b, Takes (HH b) Hs (G b))
  (h : ∀ b, WA P ops Q (fun w => Sat w Hs) e fuel (listed.setIfInBounds i true) n (LL b) (HH b)) : WA P ops Q (fun w => Sat w Hs) e (fuel + 1) listed n L H :=
 WA.step hr hi hg ho (fun hne a w ⟨b, hs⟩ => hs.sat.only (hS hne b)) fun a w ⟨b, hs⟩ => h b a w hs
theorem WA.step2 {X Y : Type} {LL : X → Y → List (Nat × Value)} {HH : X → Y → List Ch} {G : X → Y → List Ch} (hr : Region.ready .any ops listed = [i]) (hi : ops[i]? = some oi) (hg : oi.guard = none) (ho : Opn P Q oi n L H (fun a w => ∃ b c, St n (LL b c) (HH b c) a w)) (hS : i ≠ e → ∀ b c, Takes (HH b c) Hs (G b c))
  (h : ∀ b c, WA P ops Q (fun w => Sat w Hs) e fuel (listed.setIfInBounds i true) n (LL b c) (HH b c)) : WA P ops Q (fun w => Sat w Hs) e (fuel + 1) listed n L H :=
 WA.step hr hi hg ho (fun hne a w ⟨b, c, hs⟩ => hs.sat.only (hS hne b c)) fun a w ⟨b, c, hs⟩ => h b c a w hs
theorem WA.stepx {X : Type} {φ : X → Prop} {LL : X → List (Nat × Value)} {HH : X → List Ch} {G : X → List Ch} (hr : Region.ready .any ops listed = [i]) (hi : ops[i]? = some oi) (hg : oi.guard = none) (ho : Opn P Q oi n L H (fun a w => ∃ b, φ b ∧ St n (LL b) (HH b) a w)) (hS : i ≠ e → ∀ b, Takes (HH b) Hs (G b))
  (h : ∀ b, φ b → WA P ops Q (fun w => Sat w Hs) e fuel (listed.setIfInBounds i true) n (LL b) (HH b)) : WA P ops Q (fun w => Sat w Hs) e (fuel + 1) listed n L H :=
 WA.step hr hi hg ho (fun hne a w ⟨b, _, hs⟩ => hs.sat.only (hS hne b)) fun a w ⟨b, hb, hs⟩ => h b hb a w hs
end
def bv (c : UInt8) : Value := .int .u8 (c.toNat : Int)
def wv (x : UInt32) : Value := .int .u32 (x.toNat : Int)
section
variable {d : Nat} {ty : TypeId} {pos : String} {af : Array Edge} {g : Option (Nat × Bool)} {x y z : Operand} {v u : Value} {xt yt : TypeId} {src dst : TypeId}
theorem op_convByte {a : Int} (hs : (P.underlying src).isSome = true) (hd : P.underlying dst = some (.int .u8)) (hn : d < n.n) (hx : evr L x = some (.int .i64 a)) (h0 : 0 ≤ a) :
  Val P ⟨some d, .convert src dst x, ty, pos, af, g⟩ n L H d (bv (UInt8.ofNat a.toNat)) := by
 have h := op_conv (P := P) (H := H) (ty := ty) (pos := pos) (af := af) (g := g) (k := .i64) hs hd hn hx
 have e : IntKind.u8.wrap a = ((UInt8.ofNat a.toNat).toNat : Int) := by
  simp [IntKind.wrap, IntKind.bits, IntKind.signed]
  omega
 rw [e] at h
 exact h
theorem op_conv8i {c : UInt8} (hs : (P.underlying src).isSome = true) (hd : P.underlying dst = some (.int .i64)) (hn : d < n.n) (hx : evr L x = some (bv c)) :
  Val P ⟨some d, .convert src dst x, ty, pos, af, g⟩ n L H d (.int .i64 (c.toNat : Int)) := by
 have h := op_conv (P := P) (H := H) (ty := ty) (pos := pos) (af := af) (g := g) (k := .u8) hs hd hn hx
 have hc := c.toNat_lt
 have e : IntKind.i64.wrap (c.toNat : Int) = (c.toNat : Int) := by rw [IntKind.wrap_i64]; omega
 rw [e] at h
 exact h
theorem op_conv832 {c : UInt8} (hs : (P.underlying src).isSome = true) (hd : P.underlying dst = some (.int .u32)) (hn : d < n.n) (hx : evr L x = some (bv c)) :
  Val P ⟨some d, .convert src dst x, ty, pos, af, g⟩ n L H d (wv c.toUInt32) := by
 have h := op_conv (P := P) (H := H) (ty := ty) (pos := pos) (af := af) (g := g) (k := .u8) hs hd hn hx
 have hc := c.toNat_lt
 have e : IntKind.u32.wrap (c.toNat : Int) = (c.toUInt32.toNat : Int) := by
  simp [IntKind.wrap, IntKind.bits, IntKind.signed]
  omega
 rw [e] at h
 exact h
theorem op_conv328 {c : UInt32} (hs : (P.underlying src).isSome = true) (hd : P.underlying dst = some (.int .u8)) (hn : d < n.n) (hx : evr L x = some (wv c)) :
  Val P ⟨some d, .convert src dst x, ty, pos, af, g⟩ n L H d (bv c.toUInt8) := by
 have h := op_conv (P := P) (H := H) (ty := ty) (pos := pos) (af := af) (g := g) (k := .u32) hs hd hn hx
 have e : IntKind.u8.wrap (c.toNat : Int) = (c.toUInt8.toNat : Int) := by
  simp [IntKind.wrap, IntKind.bits, IntKind.signed]
 rw [e] at h
 exact h
theorem op_convi64u64 {a : Int} (hs : (P.underlying src).isSome = true) (hd : P.underlying dst = some (.int .u64)) (hn : d < n.n) (hx : evr L x = some (.int .i64 a)) (h0 : 0 ≤ a ∧ a < 18446744073709551616) :
  Val P ⟨some d, .convert src dst x, ty, pos, af, g⟩ n L H d (.int .u64 a) := by
 have h := op_conv (P := P) (H := H) (ty := ty) (pos := pos) (af := af) (g := g) (k := .i64) hs hd hn hx
 have e : IntKind.u64.wrap a = a := by
  simp [IntKind.wrap, IntKind.bits, IntKind.signed]
  omega
 rw [e] at h
 exact h
theorem op_conv648 {a : Int} (hs : (P.underlying src).isSome = true) (hd : P.underlying dst = some (.int .u8)) (hn : d < n.n) (hx : evr L x = some (.int .u64 a)) (h0 : 0 ≤ a) :
  Val P ⟨some d, .convert src dst x, ty, pos, af, g⟩ n L H d (bv (UInt8.ofNat a.toNat)) := by
 have h := op_conv (P := P) (H := H) (ty := ty) (pos := pos) (af := af) (g := g) (k := .u64) hs hd hn hx
 have e : IntKind.u8.wrap a = ((UInt8.ofNat a.toNat).toNat : Int) := by
  simp [IntKind.wrap, IntKind.bits, IntKind.signed]
  omega
 rw [e] at h
 exact h
theorem bits32 (f : BitVec 32 → BitVec 32 → BitVec 32) (a b : UInt32) : IntKind.u32.wrap ((f (BitVec.ofInt 32 (a.toNat : Int)) (BitVec.ofInt 32 (b.toNat : Int))).toNat : Int) = ((f a.toBitVec b.toBitVec).toNat : Int) := by
 have ea : BitVec.ofInt 32 (a.toNat : Int) = a.toBitVec := by simp
 have eb : BitVec.ofInt 32 (b.toNat : Int) = b.toBitVec := by simp
 rw [ea, eb]
 have := (f a.toBitVec b.toBitVec).isLt
 simp [IntKind.wrap, IntKind.bits, IntKind.signed]
 omega
theorem bits8 (f : BitVec 8 → BitVec 8 → BitVec 8) (a b : UInt8) : IntKind.u8.wrap ((f (BitVec.ofInt 8 (a.toNat : Int)) (BitVec.ofInt 8 (b.toNat : Int))).toNat : Int) = ((f a.toBitVec b.toBitVec).toNat : Int) := by
 have ea : BitVec.ofInt 8 (a.toNat : Int) = a.toBitVec := by simp
 have eb : BitVec.ofInt 8 (b.toNat : Int) = b.toBitVec := by simp
 rw [ea, eb]
 have := (f a.toBitVec b.toBitVec).isLt
 simp [IntKind.wrap, IntKind.bits, IntKind.signed]
 omega
section
variable {a b : UInt32}
theorem op_add32 (hn : d < n.n) (hx : evr L x = some (wv a)) (hy : evr L y = some (wv b)) : Val P ⟨some d, .binOp .add xt x y yt, ty, pos, af, g⟩ n L H d (wv (a + b)) :=
 binop_val hn hx hy (fun _ _ => rfl) fun w => by
  simp [wv, binOp, Op.intArith, IntKind.wrap, IntKind.bits, IntKind.signed]
theorem op_xor32 (hn : d < n.n) (hx : evr L x = some (wv a)) (hy : evr L y = some (wv b)) : Val P ⟨some d, .binOp .xor xt x y yt, ty, pos, af, g⟩ n L H d (wv (a ^^^ b)) :=
 binop_val hn hx hy (fun _ _ => rfl) fun w => by
  have := bits32 (· ^^^ ·) a b
  show (binOp .xor xt (.int .u32 (a.toNat : Int)) (.int .u32 (b.toNat : Int))).run P w = _
  rw [binOp_xor]
  exact congrArg (fun z : Int => (Result.ok (Value.int .u32 z) w : Result Value)) this
theorem op_and32 (hn : d < n.n) (hx : evr L x = some (wv a)) (hy : evr L y = some (wv b)) : Val P ⟨some d, .binOp .and xt x y yt, ty, pos, af, g⟩ n L H d (wv (a &&& b)) :=
 binop_val hn hx hy (fun _ _ => rfl) fun w => by
  have := bits32 (· &&& ·) a b
  show (binOp .and xt (.int .u32 (a.toNat : Int)) (.int .u32 (b.toNat : Int))).run P w = _
  rw [binOp_and]
  exact congrArg (fun z : Int => (Result.ok (Value.int .u32 z) w : Result Value)) this
theorem op_or32 (hn : d < n.n) (hx : evr L x = some (wv a)) (hy : evr L y = some (wv b)) : Val P ⟨some d, .binOp .or xt x y yt, ty, pos, af, g⟩ n L H d (wv (a ||| b)) :=
 binop_val hn hx hy (fun _ _ => rfl) fun w => by
  have := bits32 (· ||| ·) a b
  show (binOp .or xt (.int .u32 (a.toNat : Int)) (.int .u32 (b.toNat : Int))).run P w = _
  rw [binOp_or]
  exact congrArg (fun z : Int => (Result.ok (Value.int .u32 z) w : Result Value)) this
theorem op_not32 (hn : d < n.n) (hx : evr L x = some (wv a)) : Val P ⟨some d, .unOp .xor xt x, ty, pos, af, g⟩ n L H d (wv (~~~ a)) :=
 Val.mk rfl hn fun a' w hs => by
  have e1 : (execOp a'.eval ⟨some d, .unOp .xor xt x, ty, pos, af, g⟩).run P w = .ok (.value (.int .u32 (IntKind.u32.wrap ((BitVec.ofInt 32 4294967295 ^^^ BitVec.ofInt 32 (a.toNat : Int)).toNat : Int)))) w := by
   simp [execOp, hs.eval hx, wv, Op.unary, Op.intBits, IntKind.signed, IntKind.max, IntKind.bits]
   rfl
  rw [e1]
  have h2 := bits32 (· ^^^ ·) 4294967295 a
  have e3 : BitVec.ofInt 32 4294967295 = BitVec.ofInt 32 ((4294967295 : UInt32).toNat : Int) := by decide
  rw [e3]
  rw [show ((BitVec.ofInt 32 ((4294967295 : UInt32).toNat : Int) ^^^ BitVec.ofInt 32 (a.toNat : Int)).toNat : Int) = ((fun x y : BitVec 32 => x ^^^ y) (BitVec.ofInt 32 ((4294967295 : UInt32).toNat : Int)) (BitVec.ofInt 32 (a.toNat : Int))).toNat from rfl, h2]
  have e4 : (4294967295 : UInt32).toBitVec ^^^ a.toBitVec = (~~~ a).toBitVec := by
   rw [UInt32.toBitVec_not]
   have : (4294967295 : UInt32).toBitVec = BitVec.allOnes 32 := by decide
   rw [this]
   exact BitVec.allOnes_xor
  rw [e4]
  rfl
theorem op_shl32 {k' : IntKind} {s : Int} (hn : d < n.n) (hx : evr L x = some (wv a)) (hy : evr L y = some (.int k' s)) (hs : 0 ≤ s ∧ s < 32) : Val P ⟨some d, .binOp .shl xt x y yt, ty, pos, af, g⟩ n L H d (wv (a <<< UInt32.ofNat s.toNat)) :=
 binop_val hn hx hy (fun _ _ => rfl) fun w => by
  have h0 : ¬ s < 0 := by omega
  have h1 : min s.toNat 32 = s.toNat := by omega
  have h2 : s.toNat % 32 = s.toNat := by omega
  have h3 : s.toNat % 4294967296 % 32 = s.toNat := by omega
  simp [wv, binOp_shl, Op.shift, h0, IntKind.bits, h1, IntKind.wrap, IntKind.signed, UInt32.toNat_shiftLeft, h2, h3, Nat.shiftLeft_eq]
theorem op_shr32 {k' : IntKind} {s : Int} (hn : d < n.n) (hx : evr L x = some (wv a)) (hy : evr L y = some (.int k' s)) (hs : 0 ≤ s ∧ s < 32) : Val P ⟨some d, .binOp .shr xt x y yt, ty, pos, af, g⟩ n L H d (wv (a >>> UInt32.ofNat s.toNat)) :=
 binop_val hn hx hy (fun _ _ => rfl) fun w => by
  have h0 : ¬ s < 0 := by omega
  have h1 : min s.toNat 32 = s.toNat := by omega
  have h2 : s.toNat % 32 = s.toNat := by omega
  have h3 : s.toNat % 4294967296 % 32 = s.toNat := by omega
  simp [wv, binOp_shr, Op.shift, h0, IntKind.bits, h1, UInt32.toNat_shiftRight, h2, h3, Nat.shiftRight_eq_div_pow]
end
section
variable {a b : UInt8}
theorem op_add8 (hn : d < n.n) (hx : evr L x = some (bv a)) (hy : evr L y = some (bv b)) : Val P ⟨some d, .binOp .add xt x y yt, ty, pos, af, g⟩ n L H d (bv (a + b)) :=
 binop_val hn hx hy (fun _ _ => rfl) fun w => by
  simp [bv, binOp, Op.intArith, IntKind.wrap, IntKind.bits, IntKind.signed]
theorem op_xor8 (hn : d < n.n) (hx : evr L x = some (bv a)) (hy : evr L y = some (bv b)) : Val P ⟨some d, .binOp .xor xt x y yt, ty, pos, af, g⟩ n L H d (bv (a ^^^ b)) :=
 binop_val hn hx hy (fun _ _ => rfl) fun w => by
  have := bits8 (· ^^^ ·) a b
  show (binOp .xor xt (.int .u8 (a.toNat : Int)) (.int .u8 (b.toNat : Int))).run P w = _
  rw [binOp_xor]
  exact congrArg (fun z : Int => (Result.ok (Value.int .u8 z) w : Result Value)) this
theorem bv_eq : (((a.toNat : Int) == (b.toNat : Int)) = decide (a = b)) := by
 by_cases h : a = b
 ·simp [h]
 ·have : ¬ ((a.toNat : Int) = (b.toNat : Int)) := fun e => h (UInt8.toNat_inj.1 (by exact_mod_cast e))
  simp [h, this]
theorem op_eql8 (hn : d < n.n) (hx : evr L x = some (bv a)) (hy : evr L y = some (bv b)) : Val P ⟨some d, .binOp .eql xt x y yt, ty, pos, af, g⟩ n L H d (.bool (decide (a = b))) :=
 binop_val hn hx hy (fun _ _ => rfl) fun w => by rw [← bv_eq]; rfl
theorem op_neq8 (hn : d < n.n) (hx : evr L x = some (bv a)) (hy : evr L y = some (bv b)) : Val P ⟨some d, .binOp .neq xt x y yt, ty, pos, af, g⟩ n L H d (.bool (decide (¬ a = b))) :=
 binop_val hn hx hy (fun _ _ => rfl) fun w => by
  have h := bv_eq (a := a) (b := b)
  simp only [bv, binOp_neq, bne, h]
  by_cases e : a = b <;> simp [e]
end
theorem op_sl2arr {t e : TypeId} {len b k m c : Nat} (hu : P.underlying t = some (.array len e)) (hn : d < n.n) (hx : evr L x = some (.slice (some ⟨b, k, none⟩) m c)) (hm : len ≤ m) :
  Val P ⟨some d, .sliceToArrayPointer t x, ty, pos, af, g⟩ n L H d (.pointer (some ⟨b, k, none⟩)) :=
 Val.mk rfl hn fun a w hs => by
  have : ¬ m < len := by omega
  simp [execOp, hs.eval hx, Instr.arrayAt, Sem.run_bind, run_underlying hu, this]
theorem op_eqlnil {t e : TypeId} {a0 : Addr} (hu : P.underlying t = some (.pointer e)) (hn : d < n.n) (hx : evr L x = some (.pointer (some a0))) (hy : evr L y = some (.pointer none)) :
  Val P ⟨some d, .binOp .eql t x y yt, ty, pos, af, g⟩ n L H d (.bool false) :=
 binop_val hn hx hy (fun _ _ => rfl) fun w => by
  have h : ∀ k, (Op.equalIn (k + 1) t (.pointer (some a0)) (.pointer none)).run P w = .ok false w := fun k => by
   simp [Op.equalIn, Sem.run_bind, run_underlying hu]
  have h2 : (Op.equal t (.pointer (some a0)) (.pointer none)).run P w = .ok false w := h 9999
  simp only [binOp, Sem.run_bind, h2, Result.andThen]
  rfl
theorem op_indexV {t e : TypeId} {k : IntKind} {i : Int} {len sz : Nat} {cs : Array Value} (hu : P.underlying t = some (.array len e)) (hsz : (P.info? e).map (·.size) = some sz) (hf : Flat P e) (hn : d < n.n)
  (hx : evr L x = some (.agg cs)) (hi : evr L y = some (.int k i)) (h0 : 0 ≤ i) (h1 : i < len) (hv : cs[i.toNat * sz]? = some v) :
  Val P ⟨some d, .index t x y, ty, pos, af, g⟩ n L H d v :=
 Val.mk rfl hn fun a w hs => by
  simp [execOp, hs.eval hx, hs.eval hi, Instr.index, asIntOf, Sem.run_bind, run_underlying hu, h0, h1, run_sizeOf hsz, part, hf.isAgg, hv]
theorem op_build {t : TypeId} {parts : List (Nat × Operand)} {pv : List (Nat × Value)} {cs : List Value} (hn : d < n.n) (hp : parts.map (fun p => (p.1, evr L p.2)) = pv.map (fun p => (p.1, some p.2))) (hb : P.built t pv = some cs.toArray) :
  Val P ⟨some d, .build t parts.toArray, ty, pos, af, g⟩ n L H d (.agg cs.toArray) :=
 Val.mk rfl hn fun a w hs => by
  have hp' : parts.map (fun p => (p.1, a.eval p.2)) = pv := by
   clear hb
   induction parts generalizing pv with
   | nil => cases pv with | nil => rfl | cons _ _ => cases hp
   | cons q parts ih =>
    cases pv with
    | nil => cases hp
    | cons r pv =>
     simp only [List.map_cons, List.cons.injEq, Prod.mk.injEq] at hp
     obtain ⟨⟨h1, h2⟩, h3⟩ := hp
     simp only [List.map_cons, ih h3, hs.eval h2, h1]
  have hr := run_build (P := P) w t (parts.map fun p => (p.1, a.eval p.2)).toArray cs.toArray (by rw [hp']; exact hb)
  simp only [execOp, List.map_toArray, Sem.run_bind, hr, Result.andThen]
  rfl
theorem op_append0 {t e : TypeId} {A B : Option Addr} {k c cB sz by' : Nat} {zero ys : List Value} (hu : P.underlying t = some (.slice e)) (he : TInf P e sz by' zero) (hzl : zero.length = sz) (hpos : 0 < sz) (hn : d < n.n)
  (hx : evr L x = some (.slice A 0 c)) (hy : evr L y = some (.slice B k cB)) (ht : Take H (own (.slice A 0 c) e sz 0 []) F) (hsrc : Src F (.slice B k cB) sz k ys)
  (h1 : ys.all (·.oneCell') = true) (hb : k * by' ≤ 140737488355328) (h63 : k ≤ 9223372036854775807) :
  Opn P Q ⟨some d, .call { callee := .builtin .append, args := #[x, y], argTypes := #[t, t] }, ty, pos, af, g⟩ n L H
   (fun a w => ∃ A' c', St n (upd L d (.slice A' k c')) (own (.slice A' k c') e sz k ys :: F) a w) := by
 have h := op_append (P := P) (Q := Q) (n := n) (ty := ty) (pos := pos) (af := af) (g := g) hu he hzl hpos hn hx hy ht hsrc h1 (by rw [Nat.zero_add]; exact hb) (by omega)
 simpa only [Nat.zero_add, List.nil_append] using h
theorem pset_all (cs vs : List Value) (h : cs.length = vs.length) : pset cs 0 vs = vs := by simp [pset, ← h]
theorem op_loadAll {t bt : TypeId} {b sz : Nat} {cs : List Value} (ht : Agg P t sz) (hn : d < n.n) (hx : evr L x = some (.pointer (some ⟨b, 0, none⟩))) (hc : blk b cs bt ∈ H) (hl : cs.length = sz) :
  Val P ⟨some d, .load t x, ty, pos, af, g⟩ n L H d (.agg cs.toArray) := by
 have h := op_loadN (P := P) (ty := ty) (pos := pos) (af := af) (g := g) ht hn hx hc (by simp; omega)
 have e : (cs.drop 0).take sz = cs := by simp [← hl]
 rwa [e] at h
theorem op_storeAll {t tb : TypeId} {sz b : Nat} {cs : List Value} (hsz : (P.info? t).map (·.size) = some sz) (hx : evr L x = some (.pointer (some ⟨b, 0, none⟩))) (hy : evr L y = some v)
  (ht : Take H (blk b cs tb) F) (hl : v.cells.size = sz) (h1 : v.cells.toList.all (·.oneCell') = true) (hk : cs.length = sz) :
  Opn P Q ⟨none, .store t x y, ty, pos, af, g⟩ n L H (St n L (blk b v.cells.toList tb :: F)) := by
 have h := op_store (P := P) (Q := Q) (n := n) (ty := ty) (pos := pos) (af := af) (g := g) hsz hx hy ht hl h1 (by omega)
 rwa [pset_all _ _ (by simp; omega)] at h
theorem op_lit0 {t e : TypeId} {sz by' : Nat} {zero : List Value} (hu : P.underlying t = some (.slice e)) (he : TInf P e sz by' zero) (hn : d < n.n) :
  Opn P Q ⟨some d, .buildSlice t 0 #[], ty, pos, af, g⟩ n L H (fun a w => ∃ b, St n (upd L d (.slice (some ⟨b, 0, none⟩) 0 0)) (own (.slice (some ⟨b, 0, none⟩) 0 0) e sz 0 [] :: H) a w) := by
 obtain ⟨i, z, hi, hs1, _, hz, hzz⟩ := he.open
 intro a w hs K hK
 unfold Oper.wp
 have hsz : (sizeOf e).run P w = .ok sz w := by simp [sizeOf, typeInfo, hi, hs1]
 have hr : (execOp a.eval ⟨some d, .buildSlice t 0 #[], ty, pos, af, g⟩).run P w = .ok (.value (.slice (some ⟨w.heap.size, 0, none⟩) 0 0)) (w.alloc (.cells #[] e)) := by
  simp [execOp, Instr.buildSlice, Sem.run_bind, run_underlying hu, hsz, Instr.fill, newRow, Array.range_zero']
 rw [hr, Oper.upon_value]
 refine hK _ _ ⟨_, hs.regs.put hn _, hs.sat.grow (own_new w [] e sz 0 (by simp) (by simp [maxLen])) (Chg.alloc _ _ _) (fun b hb => ?_)⟩
 simp only [own, Value.ownBlock, Option.some.injEq] at hb
 omega
theorem fill_one (vs zs : List Value) (hl : vs.length = zs.length) : ∀ (pre : List Value), (vs.zipIdx pre.length).foldl (fun (cs : Array Value) p => cs.setIfInBounds (0 + p.2) p.1) (pre ++ zs).toArray = (pre ++ vs).toArray := by
 induction vs generalizing zs with
 | nil =>
  intro pre
  have : zs = [] := List.eq_nil_of_length_eq_zero (by simpa using hl.symm)
  subst this
  rfl
 | cons v vs ih =>
  intro pre
  obtain ⟨z, zs', rfl⟩ : ∃ z zs', zs = z :: zs' := by cases zs with | nil => simp at hl | cons z zs' => exact ⟨z, zs', rfl⟩
  have h2 := ih zs' (by simpa using hl) (pre ++ [v])
  simp only [List.zipIdx_cons, List.foldl_cons, Nat.zero_add]
  have e1 : (pre ++ z :: zs').toArray.setIfInBounds pre.length v = ((pre ++ [v]) ++ zs').toArray := by
   apply Array.ext'
   simp [List.set_append]
  rw [e1]
  have e2 : (pre ++ [v]).length = pre.length + 1 := by simp
  rw [e2] at h2
  simp only [Nat.zero_add] at h2
  rw [h2]
  simp
theorem op_lit1 {t e : TypeId} {sz by' : Nat} {zero : List Value} {xo : Operand} (hu : P.underlying t = some (.slice e)) (he : TInf P e sz by' zero) (hzl : zero.length = sz) (hp : 0 < sz ∧ sz ≤ 16777216) (hn : d < n.n) (hx : evr L xo = some v) (hv : v.cells.size = sz) :
  Opn P Q ⟨some d, .buildSlice t 1 #[(0, xo)], ty, pos, af, g⟩ n L H (fun a w => ∃ b, St n (upd L d (.slice (some ⟨b, 0, none⟩) 1 1)) (own (.slice (some ⟨b, 0, none⟩) 1 1) e sz 1 v.cells.toList :: H) a w) := by
 refine op_buildSlice (pv := [(0, v)]) hu he hn (fun a h => by simp [h.eval hx]) (by omega) (by simp [maxLen]) ?_ (by simp [hv])
 have hz : ((Array.range (1 * sz)).map (zero.toArray[· % zero.length]!)) = zero.toArray := by
  apply Array.ext
  ·simp [hzl]
  ·intro j h1 h2
   simp only [Array.size_map, Array.size_range, Nat.one_mul] at h1
   simp [hzl, Nat.mod_eq_of_lt h1, h1]
 rw [hz]
 have h1 : ¬ (v.cells.size ≠ sz ∨ 0 * sz + v.cells.size > zero.toArray.size) := by simp [hv, hzl]
 have h3 := fill_one v.cells.toList zero (by simp [hv, hzl]) []
 simp only [List.length_nil, List.nil_append] at h3
 simp only [Instr.fill, Nat.zero_mul]
 rw [if_neg (by simpa using h1)]
 simp only [Nat.zero_add] at h3 ⊢
 rw [← h3, ← Array.foldl_toList]
 simp
end
end
end Go.Proofs.YtkjlbedebmffgaaGreat.Sx
namespace Go.Proofs.YtkjlbedebmffgaaGreat.Sx
open Go.RowKit
section
variable {P : Program} {ops : Array Oper} {Q : Exit → Act → World → Prop} {rest : List Oper} {n : Fr} {L L' : List (Nat × Value)} {H H' F : List Ch}
theorem Src.cap {A : Option Addr} {m c sz : Nat} {xs : List Value} {w : World} (h : Src H (.slice A m c) sz m xs) (hs : Sat w H) : m ≤ c ∧ m ≤ maxLen ∧ xs.length = m * sz := by
 obtain ⟨h1, h2, A', c', h3, h4, _⟩ := h.ok hs
 cases h3
 exact ⟨h4, h2, h1⟩
theorem WL.capx {A : Option Addr} {m c sz : Nat} {xs : List Value} (h : Src H (.slice A m c) sz m xs) (k : m ≤ c → WL P ops Q rest n L H) : WL P ops Q rest n L H :=
 fun a w hs => k (h.cap hs.sat).1 a w hs
theorem WC.capx {cd : Code} {A : Option Addr} {m c sz : Nat} {xs : List Value} (h : Src H (.slice A m c) sz m xs) (k : m ≤ c → WC P cd Q n L H) : WC P cd Q n L H :=
 fun a w hs => k (h.cap hs.sat).1 a w hs
theorem WA.capx {S : World → Prop} {e fuel : Nat} {listed : Array Bool} {A : Option Addr} {m c sz : Nat} {xs : List Value} (h : Src H (.slice A m c) sz m xs) (k : m ≤ c → WA P ops Q S e fuel listed n L H) : WA P ops Q S e fuel listed n L H :=
 fun a w hs => k (h.cap hs.sat).1 a w hs
theorem WL.turn {c d : Ch} (hc : Take H c F) (hl : d.Le c) (h : WL P ops Q rest n L (d :: F)) : WL P ops Q rest n L H :=
 fun a w hs => h a w ⟨hs.regs, (hs.sat.perm hc.perm).weak (.keep hl (by
  have : ∀ G : List Ch, Weak G G := fun G => by
   induction G with
   | nil => exact .nil _
   | cons a G ih => exact .keep (Ch.Le.refl _) ih
  exact this F))⟩
theorem WC.turn {cd : Code} {c d : Ch} (hc : Take H c F) (hl : d.Le c) (h : WC P cd Q n L (d :: F)) : WC P cd Q n L H :=
 fun a w hs => h a w ⟨hs.regs, (hs.sat.perm hc.perm).weak (.keep hl (by
  have : ∀ G : List Ch, Weak G G := fun G => by
   induction G with
   | nil => exact .nil _
   | cons a G ih => exact .keep (Ch.Le.refl _) ih
  exact this F))⟩
end
end Go.Proofs.YtkjlbedebmffgaaGreat.Sx
namespace Go.Proofs.YtkjlbedebmffgaaGreat.Sx
open Go.RowKit
theorem Regs.same {n : Fr} {L : List (Nat × Value)} {a : Act} (h : Regs n L a) {t : Nat} {v : Value} (hg : Sx.get L t = some v) : Regs n (upd L t v) a :=
 ⟨h.size, h.defers, fun e u hu => by
  rw [get_upd] at hu
  by_cases hde : t = e
  ·rw [if_pos hde] at hu
   cases hu
   exact h.get e _ (hde ▸ hg)
  ·rw [if_neg hde] at hu
   exact h.get e u hu⟩
theorem St.splitb {n : Fr} {L : List (Nat × Value)} {H : List Ch} {a : Act} {w : World} (h : St n L H a w) {t : Nat} {v : Value} (hg : Sx.get L t = some v) : St n (upd L t v) H a w := ⟨h.regs.same hg, h.sat⟩
section
variable {P : Program} {ops : Array Oper} {Q : Exit → Act → World → Prop} {rest : List Oper} {n : Fr} {L L' : List (Nat × Value)} {H H' F F' : List Ch}
theorem WL.split {t : Nat} {p : Prop} [Decidable p] (hg : Sx.get L t = some (.bool (decide p))) (ht : p → WL P ops Q rest n (upd L t (.bool true)) H) (hf : ¬ p → WL P ops Q rest n (upd L t (.bool false)) H) : WL P ops Q rest n L H := fun a w hs => by
 by_cases hp : p
 ·exact ht hp a w (hs.splitb (by rw [hg, decide_eq_true hp]))
 ·exact hf hp a w (hs.splitb (by rw [hg, decide_eq_false hp]))
theorem WL.splitb {t : Nat} {p : Bool} (hg : Sx.get L t = some (.bool p)) (ht : p = true → WL P ops Q rest n (upd L t (.bool true)) H) (hf : p = false → WL P ops Q rest n (upd L t (.bool false)) H) : WL P ops Q rest n L H := fun a w hs => by
 cases p with
 | true => exact ht rfl a w (hs.splitb hg)
 | false => exact hf rfl a w (hs.splitb hg)
theorem WA.split {S : World → Prop} {e fuel : Nat} {listed : Array Bool} {t : Nat} {p : Prop} [Decidable p] (hg : Sx.get L t = some (.bool (decide p))) (ht : p → WA P ops Q S e fuel listed n (upd L t (.bool true)) H) (hf : ¬ p → WA P ops Q S e fuel listed n (upd L t (.bool false)) H) : WA P ops Q S e fuel listed n L H := fun a w hs => by
 by_cases hp : p
 ·exact ht hp a w (hs.splitb (by rw [hg, decide_eq_true hp]))
 ·exact hf hp a w (hs.splitb (by rw [hg, decide_eq_false hp]))
section
variable {o : Oper} {j dj : Nat} {b : Bool}
theorem wlgv {d : Nat} {v : Value} (hv : Val P o n L H d v) (hg : o.guard = some (j, b)) (hj : (ops[j]?).bind (·.dst) = some dj) (hb : Sx.get L dj = some (.bool b)) (h : WL P ops Q rest n (upd L d v) H) : WL P ops Q (o :: rest) n L H :=
 wlg_yes hv.opn hg hj hb h
theorem wlgx {X : Type} {φ : X → Prop} {LL : X → List (Nat × Value)} {HH : X → List Ch} (ho : Opn P Q o n L H (fun a w => ∃ b, φ b ∧ St n (LL b) (HH b) a w)) (hg : o.guard = some (j, b)) (hj : (ops[j]?).bind (·.dst) = some dj) (hb : Sx.get L dj = some (.bool b)) (h : ∀ b, φ b → WL P ops Q rest n (LL b) (HH b)) : WL P ops Q (o :: rest) n L H :=
 wlg_yes ho hg hj hb fun a w ⟨b, hb, hs⟩ => h b hb a w hs
end
section
variable {Hs G : List Ch} {e i : Nat} {oi : Oper} {fuel : Nat} {listed : Array Bool} {j dj : Nat} {b : Bool}
theorem WA.stepG {Post : Act → World → Prop} (hr : Region.ready .any ops listed = [i]) (hi : ops[i]? = some oi) (hg : oi.guard = some (j, b)) (hj : (ops[j]?).bind (·.dst) = some dj) (hb : Sx.get L dj = some (.bool b))
  (ho : Opn P Q oi n L H Post) (hS : i ≠ e → ∀ a w, Post a w → Sat w Hs) (h : ∀ a w, Post a w → wpAnyE P ops Q (fun w => Sat w Hs) e fuel (listed.setIfInBounds i true) a w) :
  WA P ops Q (fun w => Sat w Hs) e (fuel + 1) listed n L H := fun a w hst => by
 refine ⟨fun h0 => (by rw [hr] at h0; cases h0), fun k hk => ?_⟩
 rw [hr] at hk
 rw [List.mem_singleton.1 hk]
 have hy : yielded ops a.tmps j = some b := by simp [yielded, hj, hst.regs.get dj _ hb]
 unfold wpOp
 simp only [hi]
 rw [if_pos (by simp [Region.wanted, hg, hy])]
 exact .inl (ho a w hst _ fun a' w' hp => ⟨fun hne _ => hS hne a' w' hp, h a' w' hp⟩)
theorem WA.stepGx {X : Type} {φ : X → Prop} {LL : X → List (Nat × Value)} {HH : X → List Ch} {G : X → List Ch} (hr : Region.ready .any ops listed = [i]) (hi : ops[i]? = some oi) (hg : oi.guard = some (j, b)) (hj : (ops[j]?).bind (·.dst) = some dj) (hb : Sx.get L dj = some (.bool b))
  (ho : Opn P Q oi n L H (fun a w => ∃ b, φ b ∧ St n (LL b) (HH b) a w)) (hS : i ≠ e → ∀ b, Takes (HH b) Hs (G b)) (h : ∀ b, φ b → WA P ops Q (fun w => Sat w Hs) e fuel (listed.setIfInBounds i true) n (LL b) (HH b)) :
  WA P ops Q (fun w => Sat w Hs) e (fuel + 1) listed n L H :=
 WA.stepG hr hi hg hj hb ho (fun hne a w ⟨b, _, hs⟩ => hs.sat.only (hS hne b)) fun a w ⟨b, hb, hs⟩ => h b hb a w hs
end
def sv (bs : List UInt8) : Value := .string ⟨bs.toArray⟩
section
variable {d : Nat} {ty : TypeId} {pos : String} {af : Array Edge} {g : Option (Nat × Bool)} {x y : Operand} {xt yt src dst e : TypeId}
theorem bv_at {bs : List UInt8} {j : Nat} (h : j < bs.length) : (bs.map bv)[j]? = some (.int .u8 ((bs.map fun x => (x.toNat : Int)).getD j 0)) := by
 simp [h, bv]
theorem strOf (bs : List UInt8) : strOfNums (bs.map fun x => (x.toNat : Int)) = ⟨bs.toArray⟩ := by
 apply ByteArray.ext
 apply Array.toList_inj.1
 rw [strOfNums_data, List.map_map]
 show _ = bs
 conv => rhs; rw [← List.map_id bs]
 apply List.map_congr_left
 intro x _
 simp
theorem op_bytesStr {A : Option Addr} {m c : Nat} {bs : List UInt8} (hs : P.underlying src = some (.slice e)) (he : P.underlying e = some (.int .u8)) (hd : P.underlying dst = some .string) (hn : d < n.n) (hx : evr L x = some (.slice A m c)) (hsrc : Src H (.slice A m c) 1 m (bs.map bv)) :
  Val P ⟨some d, .convert src dst x, ty, pos, af, g⟩ n L H d (sv bs) :=
 Val.mk rfl hn fun a w hst => by
  obtain ⟨h1, h2, A', c', h3, h4, h5⟩ := hsrc.ok hst.sat
  cases h3
  have hl : bs.length = m := by simpa using h1
  have key : (convert src dst (.slice A m c)).run P w = .ok (sv bs) w := by
   by_cases hm : 0 < m
   ·obtain ⟨b, o, rfl, h6⟩ := h5 (by simpa [hl] using hm)
    have := run_convert_bytes_arg (P := P) w src e hs he b o m c (bs.map fun x => (x.toNat : Int)) (by simpa using hl) (fun i hi => h6 i _ (bv_at (by omega))) dst hd
    rw [this, strOf]
    rfl
   ·have hm0 : m = 0 := by omega
    have hb : bs = [] := List.eq_nil_of_length_eq_zero (by omega)
    subst hb
    subst hm0
    cases A with
    | none => exact run_convert_bytes_nil (P := P) w src e hs he _ _ dst hd
    | some p =>
     have hl0 : (loadCells p 0).run P w = .ok #[] w := by simpa using run_loadCells_list (P := P) w p [] (by simp)
     rw [run_convert_bytes_string w src dst e _ _ _ hs he hd]
     simp [Conv.bytesToString, hl0, sv]
     rfl
  simp [execOp, hst.eval hx, key]
theorem str_beq (a b : List UInt8) : ((⟨a.toArray⟩ : ByteArray).toList == (⟨b.toArray⟩ : ByteArray).toList) = decide (a = b) := by
 rw [ByteArray.toList_eq, ByteArray.toList_eq]
 show (a == b) = decide (a = b)
 by_cases h : a = b
 ·subst h; simp
 ·simp [h]
theorem op_eqls {a b : List UInt8} (hn : d < n.n) (hx : evr L x = some (sv a)) (hy : evr L y = some (sv b)) :
  Val P ⟨some d, .binOp .eql xt x y yt, ty, pos, af, g⟩ n L H d (.bool (decide (a = b))) :=
 binop_val hn hx hy (fun _ _ => rfl) fun w => by
  show (binOp .eql xt (.string _) (.string _)).run P w = _
  rw [binOp_string_eql, str_beq]
  rfl
theorem op_neqs {a b : List UInt8} (hn : d < n.n) (hx : evr L x = some (sv a)) (hy : evr L y = some (sv b)) :
  Val P ⟨some d, .binOp .neq xt x y yt, ty, pos, af, g⟩ n L H d (.bool (decide (a ≠ b))) :=
 binop_val hn hx hy (fun _ _ => rfl) fun w => by
  show (binOp .neq xt (.string _) (.string _)).run P w = _
  rw [binOp_string_neq, str_beq, ← decide_not]
  rfl
theorem op_eqlsnil {A : Option Addr} {m c : Nat} (hu : P.underlying xt = some (.slice e)) (hn : d < n.n) (hx : evr L x = some (.slice A m c)) (hy : evr L y = some (.slice none 0 0)) :
  Val P ⟨some d, .binOp .eql xt x y yt, ty, pos, af, g⟩ n L H d (.bool (decide (A = none))) :=
 binop_val hn hx hy (fun _ _ => rfl) fun w => by
  have h : ∀ k, (Op.equalIn (k + 1) xt (.slice A m c) (.slice none 0 0)).run P w = .ok (decide (A = none)) w := fun k => by
   cases A <;> simp [Op.equalIn, Sem.run_bind, run_underlying hu]
  have h2 : (Op.equal xt (.slice A m c) (.slice none 0 0)).run P w = .ok (decide (A = none)) w := h 9999
  simp only [binOp, Sem.run_bind, h2, Result.andThen]
  rfl
end
end
end Go.Proofs.YtkjlbedebmffgaaGreat.Sx
