import Derived.Test.YtkjlbedebmffgaaGreatNb
import Derived.Scope
import Derived.WalkKit
import Derived.ProofKit
import Derived.OpenShut
import Derived.Carry
import Derived.Deep.Slices
import Derived.Lib.AppendZerosOnto
import Derived.MapKept
import Derived.RangeFuncRecord
import Derived.Test.YtkjlbedebmffgaaGreatProg
import Derived.KernelRfl
set_option linter.unusedVariables false
set_option linter.unusedSimpArgs false
namespace Go.Proofs.YtkjlbedebmffgaaGreat.Sx
open Go.RowKit
theorem Sat.merge {w : World} {T F : List Ch} {d : Ch} (h : Sat w (T ++ F)) (hex : d.ex = true → ∀ c ∈ T, c.ex = true) (hf : ∀ b, d.foot b → ∃ c ∈ T, c.foot b) (hok : (∀ c ∈ T, c.ok w) → d.ok w) : Sat w (d :: F) := by
 have hap := List.pairwise_append.1 h.apart
 refine ⟨fun x hx => ?_, List.pairwise_cons.2 ⟨fun e he hm b hdf hef => ?_, hap.2.1⟩⟩
 ·rcases List.mem_cons.1 hx with rfl | hx
  ·exact hok fun c hc => h.ok c (List.mem_append.2 (.inl hc))
  ·exact h.ok x (List.mem_append.2 (.inr hx))
 ·obtain ⟨c, hc, hcf⟩ := hf b hdf
  exact hap.2.2 c hc e he (hm.imp (fun hd => hex hd c hc) id) b hcf hef
structure Mrg (c1 c2 d : Ch) : Prop where
 ex : d.ex = true → c1.ex = true ∧ c2.ex = true
 foot : ∀ b, d.foot b → c1.foot b ∨ c2.foot b
 ok : ∀ w, c1.ok w → c2.ok w → d.ok w
theorem Sat.merge2 {w : World} {H F1 F2 : List Ch} {c1 c2 d : Ch} (h : Sat w H) (k1 : Take H c1 F1) (k2 : Take F1 c2 F2) (m : Mrg c1 c2 d) : Sat w (d :: F2) := by
 have h2 : Sat w ([c1, c2] ++ F2) := h.perm (k1.perm.trans (List.Perm.cons c1 k2.perm))
 refine h2.merge (fun hd c hc => ?_) (fun b hb => ?_) fun hc => m.ok w (hc c1 (by simp)) (hc c2 (by simp))
 ·have := m.ex hd
  simp only [List.mem_cons, List.not_mem_nil, or_false] at hc
  rcases hc with rfl | rfl
  ·exact this.1
  ·exact this.2
 ·rcases m.foot b hb with h | h
  ·exact ⟨c1, by simp, h⟩
  ·exact ⟨c2, by simp, h⟩
theorem Sat.free {w : World} {H : List Ch} {d : Ch} (h : Sat w H) (hok : d.ok w) (hf : ∀ b, ¬ d.foot b) : Sat w (d :: H) :=
 h.grow hok (Chg.refl _ _) fun b hb => absurd hb (hf b)
section
variable {P : Program} {ops : Array Oper} {Q : Exit → Act → World → Prop} {rest : List Oper} {n : Fr} {L L' : List (Nat × Value)} {H H' F F1 F2 : List Ch} {c1 c2 d : Ch}
theorem WX.merge2 {e : Exit} (k1 : Take H c1 F1) (k2 : Take F1 c2 F2) (m : Mrg c1 c2 d) (h : WX Q e n L (d :: F2)) : WX Q e n L H := fun a w hs => h a w ⟨hs.regs, hs.sat.merge2 k1 k2 m⟩
theorem WC.merge2 {cd : Code} (k1 : Take H c1 F1) (k2 : Take F1 c2 F2) (m : Mrg c1 c2 d) (h : WC P cd Q n L (d :: F2)) : WC P cd Q n L H := fun a w hs => h a w ⟨hs.regs, hs.sat.merge2 k1 k2 m⟩
theorem WA.turn {S : World → Prop} {e fuel : Nat} {listed : Array Bool} {c d : Ch} (hc : Take H c F) (hl : d.Le c) (h : WA P ops Q S e fuel listed n L (d :: F)) : WA P ops Q S e fuel listed n L H :=
 fun a w hs => h a w ⟨hs.regs, (hs.sat.perm hc.perm).weak (.keep hl (by
  have : ∀ G : List Ch, Weak G G := fun G => by
   induction G with
   | nil => exact .nil _
   | cons a G ih => exact .keep (Ch.Le.refl _) ih
  exact this F))⟩
theorem WA.dup {S : World → Prop} {e fuel : Nat} {listed : Array Bool} {c d : Ch} (hc : c ∈ H) (hcr : c.ex = false) (hd : d.ex = false) (hl : d.Le c) (h : WA P ops Q S e fuel listed n L (d :: H)) : WA P ops Q S e fuel listed n L H := fun a w hs => h a w ⟨hs.regs, hs.sat.dup hd hc hcr hl⟩
theorem WC.dup {cd : Code} {c d : Ch} (hc : c ∈ H) (hcr : c.ex = false) (hd : d.ex = false) (hl : d.Le c) (h : WC P cd Q n L (d :: H)) : WC P cd Q n L H := fun a w hs => h a w ⟨hs.regs, hs.sat.dup hd hc hcr hl⟩
end
structure Bs where
 A : Option Addr
 c : Nat
 s : List UInt8
def Bs.v (r : Bs) : Value := .slice r.A r.s.length r.c
def Bs.ch (r : Bs) : Ch := rd r.v 1 r.s.length (r.s.map bv)
def rowsC (e : Bool) (rs : List Bs) : Ch where
 foot b := ∃ r ∈ rs, r.ch.foot b
 ex := e
 ok w := ∀ r ∈ rs, r.ch.ok w
 loc w w' h h1 h2 h3 h4 hb := fun r hr => r.ch.loc w w' (h r hr) h1 h2 h3 h4 fun b hbf => hb b ⟨r, hr, hbf⟩
 inb w h b hb := by
  obtain ⟨r, hr, hbf⟩ := hb
  exact r.ch.inb w (h r hr) b hbf
@[simp] theorem rowsC_ex (e : Bool) (rs : List Bs) : (rowsC e rs).ex = e := rfl
theorem rowsC_sub {e : Bool} {rs rs' : List Bs} (h : ∀ r ∈ rs', r ∈ rs) : (rowsC e rs').Le (rowsC e rs) := ⟨id, fun b ⟨r, hr, hb⟩ => ⟨r, h r hr, hb⟩, fun w hw r hr => hw r (h r hr)⟩
theorem rowsC_read {e : Bool} {rs rs' : List Bs} (h : ∀ r ∈ rs', r ∈ rs) : (rowsC false rs').Le (rowsC e rs) := ⟨fun h => (by cases h), fun b ⟨r, hr, hb⟩ => ⟨r, h r hr, hb⟩, fun w hw r hr => hw r (h r hr)⟩
theorem rowsC_get {e : Bool} {rs : List Bs} {r : Bs} (h : r ∈ rs) : r.ch.Le (rowsC e rs) := ⟨fun h => (by cases h), fun b hb => ⟨r, h, hb⟩, fun w hw => hw r h⟩
theorem rowsC_app {e1 e2 : Bool} {rs ts : List Bs} : Mrg (rowsC e1 rs) (rowsC e2 ts) (rowsC (e1 && e2) (rs ++ ts)) := by
 refine ⟨fun h => ?_, fun b ⟨r, hr, hb⟩ => ?_, fun w h1 h2 r hr => ?_⟩
 ·simp only [rowsC_ex, Bool.and_eq_true] at h
  exact h
 ·rcases List.mem_append.1 hr with hr | hr
  ·exact .inl ⟨r, hr, hb⟩
  ·exact .inr ⟨r, hr, hb⟩
 ·rcases List.mem_append.1 hr with hr | hr
  ·exact h1 r hr
  ·exact h2 r hr
theorem rowsC_snoc {e : Bool} {rs : List Bs} {c : Ch} {r : Bs} (hc : r.ch.Le c) (he : e = true → c.ex = true) : Mrg (rowsC e rs) c (rowsC e (rs ++ [r])) := by
 refine ⟨fun h => ⟨h, he h⟩, fun b ⟨r', hr, hb⟩ => ?_, fun w h1 h2 r' hr => ?_⟩
 ·rcases List.mem_append.1 hr with hr | hr
  ·exact .inl ⟨r', hr, hb⟩
  ·rw [List.mem_singleton.1 hr] at hb
   exact .inr (hc.foot b hb)
 ·rcases List.mem_append.1 hr with hr | hr
  ·exact h1 r' hr
  ·rw [List.mem_singleton.1 hr]
   exact hc.ok w h2
theorem rowsC_set {e : Bool} {rs : List Bs} {c : Ch} {r : Bs} {i : Nat} (hc : r.ch.Le c) (he : e = true → c.ex = true) : Mrg (rowsC e rs) c (rowsC e (rs.set i r)) := by
 refine ⟨fun h => ⟨h, he h⟩, fun b ⟨r', hr, hb⟩ => ?_, fun w h1 h2 r' hr => ?_⟩
 ·rcases List.mem_or_eq_of_mem_set hr with hr | rfl
  ·exact .inl ⟨r', hr, hb⟩
  ·exact .inr (hc.foot b hb)
 ·rcases List.mem_or_eq_of_mem_set hr with hr | rfl
  ·exact h1 r' hr
  ·exact hc.ok w h2
theorem own_le_bs {A : Option Addr} {m c : Nat} {e : TypeId} {s : List UInt8} (h : s.length = m) : (Bs.ch ⟨A, c, s⟩).Le (own (.slice A m c) e 1 m (s.map bv)) := by subst h; exact own_le_rd
theorem rx_le_bs {A : Option Addr} {m c : Nat} {s : List UInt8} (h : s.length = m) : (Bs.ch ⟨A, c, s⟩).Le (rx (.slice A m c) 1 m (s.map bv)) := by subst h; exact rx_le_rd
section
variable {P : Program} {ops : Array Oper} {Q : Exit → Act → World → Prop} {rest : List Oper} {n : Fr} {L L' : List (Nat × Value)} {H H' F F1 F2 : List Ch}
theorem WC.nilrows {cd : Code} (e : Bool) (h : WC P cd Q n L (rowsC e [] :: H)) : WC P cd Q n L H := fun a w hs => h a w ⟨hs.regs, hs.sat.free (fun r hr => (by cases hr)) (fun b ⟨r, hr, _⟩ => (by cases hr))⟩
theorem WX.nilrows {e' : Exit} (e : Bool) (h : WX Q e' n L (rowsC e [] :: H)) : WX Q e' n L H := fun a w hs => h a w ⟨hs.regs, hs.sat.free (fun r hr => (by cases hr)) (fun b ⟨r, hr, _⟩ => (by cases hr))⟩
theorem WX.nilown {e' : Exit} (e : TypeId) (sz : Nat) (h : WX Q e' n L (own (.slice none 0 0) e sz 0 [] :: H)) : WX Q e' n L H :=
 fun a w hs => h a w ⟨hs.regs, hs.sat.free ⟨by simp, .inl ⟨rfl, rfl⟩⟩ (fun b hb => by simp [own, Value.ownBlock] at hb)⟩
theorem WA.nilrd {S : World → Prop} {e fuel : Nat} {listed : Array Bool} (sz : Nat) (h : WA P ops Q S e fuel listed n L (rd (.slice none 0 0) sz 0 [] :: H)) : WA P ops Q S e fuel listed n L H := fun a w hs =>
 h a w ⟨hs.regs, hs.sat.free ⟨by simp, by simp [maxLen], none, 0, rfl, Nat.le_refl _, fun hp => absurd hp (by simp)⟩ (fun b hb => absurd hb.1 (by simp))⟩
end
section
variable {P : Program} {ops : Array Oper} {Q : Exit → Act → World → Prop} {n : Fr} {L : List (Nat × Value)} {H F : List Ch} {ty : TypeId} {pos : String} {af : Array Edge} {g : Option (Nat × Bool)} {x y : Operand}
end
end Go.Proofs.YtkjlbedebmffgaaGreat.Sx
namespace Go.Proofs.YtkjlbedebmffgaaGreat.Sx
open Go.RowKit
section
variable {P : Program} {ops : Array Oper} {Q : Exit → Act → World → Prop} {rest : List Oper} {n : Fr} {L L' : List (Nat × Value)} {H H' F : List Ch}
theorem Src.none0 {m c sz : Nat} {xs : List Value} {w : World} (h : Src H (.slice none m c) sz m xs) (hs : Sat w H) (hz : 0 < sz) : m = 0 := by
 obtain ⟨h1, h2, A', c', h3, h4, h5⟩ := h.ok hs
 cases h3
 by_cases hm : m = 0
 ·exact hm
 ·obtain ⟨b, o, hb, _⟩ := h5 (by rw [h1]; exact Nat.mul_pos (Nat.pos_of_ne_zero hm) hz)
  cases hb
theorem WC.none0 {cd : Code} {m c sz : Nat} {xs : List Value} (h : Src H (.slice none m c) sz m xs) (hz : 0 < sz) (k : m = 0 → WC P cd Q n L H) : WC P cd Q n L H :=
 fun a w hs => k (h.none0 hs.sat hz) a w hs
theorem maxLen_le {m : Nat} (h : m ≤ maxLen) : m ≤ 9223372036854775807 := by
 have : maxLen = 9223372036854775807 := by decide
 omega
theorem WL.capm {A : Option Addr} {m c sz : Nat} {xs : List Value} (h : Src H (.slice A m c) sz m xs) (k : m ≤ c ∧ m ≤ 9223372036854775807 → WL P ops Q rest n L H) : WL P ops Q rest n L H :=
 fun a w hs => k ⟨(h.cap hs.sat).1, maxLen_le (h.cap hs.sat).2.1⟩ a w hs
theorem WC.capm {cd : Code} {A : Option Addr} {m c sz : Nat} {xs : List Value} (h : Src H (.slice A m c) sz m xs) (k : m ≤ c ∧ m ≤ 9223372036854775807 → WC P cd Q n L H) : WC P cd Q n L H :=
 fun a w hs => k ⟨(h.cap hs.sat).1, maxLen_le (h.cap hs.sat).2.1⟩ a w hs
end
end Go.Proofs.YtkjlbedebmffgaaGreat.Sx
namespace Go.Proofs.YtkjlbedebmffgaaGreat.Sx
open Go.RowKit
section
variable {P : Program} {ops : Array Oper} {Q : Exit → Act → World → Prop} {n : Fr} {L : List (Nat × Value)} {H F : List Ch} {d : Nat} {ty : TypeId} {pos : String} {af : Array Edge} {g : Option (Nat × Bool)} {x y : Operand} {xt yt : TypeId}
theorem op_indexVN {t e : TypeId} {k : IntKind} {i : Int} {len sz : Nat} {cs vs : List Value} (hu : P.underlying t = some (.array len e)) (hsz : (P.info? e).map (·.size) = some sz) (hf : Agg P e sz) (hn : d < n.n)
  (hx : evr L x = some (.agg cs.toArray)) (hi : evr L y = some (.int k i)) (h0 : 0 ≤ i) (h1 : i < len) (hv : (cs.drop (i.toNat * sz)).take sz = vs) (hl : i.toNat * sz + sz ≤ cs.length) :
  Val P ⟨some d, .index t x y, ty, pos, af, g⟩ n L H d (.agg vs.toArray) :=
 Val.mk rfl hn fun a w hs => by
  have hp : (part e cs.toArray (i.toNat * sz)).run P w = .ok (.agg vs.toArray) w := by
   simp [part, Sem.run_bind, hf.isAgg, run_sizeOf hsz, ← hv, List.extract_eq_take_drop]
  simp [execOp, hs.eval hx, hs.eval hi, Instr.index, asIntOf, Sem.run_bind, run_underlying hu, h0, h1, run_sizeOf hsz, hp]
theorem op_shri {a s : Int} {k' : IntKind} (hn : d < n.n) (hx : evr L x = some (.int .i64 a)) (hy : evr L y = some (.int k' s)) (hs : 0 ≤ a ∧ a < 9223372036854775808 ∧ 0 ≤ s ∧ s < 64) :
  Val P ⟨some d, .binOp .shr xt x y yt, ty, pos, af, g⟩ n L H d (.int .i64 (a / (2 ^ s.toNat : Nat))) :=
 binop_val hn hx hy (fun _ _ => rfl) fun w => by
  have h0 : ¬ s < 0 := by omega
  have h1 : min s.toNat 64 = s.toNat := by omega
  simp [binOp_shr, Op.shift, h0, IntKind.bits, h1]
theorem op_shl8i {a : Int} (hn : d < n.n) (hx : evr L x = some (.int .i64 a)) (hy : evr L y = some (.int .u64 8)) (hs : 0 ≤ a ∧ a < 36028797018963968) :
  Val P ⟨some d, .binOp .shl xt x y yt, ty, pos, af, g⟩ n L H d (.int .i64 (a * 256)) :=
 binop_val hn hx hy (fun _ _ => rfl) fun w => by
  have e : IntKind.i64.wrap (a * 256) = a * 256 := by simp [IntKind.wrap_i64]; omega
  simp [binOp_shl, Op.shift, IntKind.bits, e]
theorem op_ori8 {a b : Int} (hn : d < n.n) (hx : evr L x = some (.int .i64 a)) (hy : evr L y = some (.int .i64 b)) (hs : 0 ≤ b ∧ b < 256 ∧ 0 ≤ a ∧ a < 9223372036854775808 ∧ a % 256 = 0) :
  Val P ⟨some d, .binOp .or xt x y yt, ty, pos, af, g⟩ n L H d (.int .i64 (a + b)) :=
 binop_val hn hx hy (fun _ _ => rfl) fun w => by
  obtain ⟨m, rfl⟩ := Int.eq_ofNat_of_zero_le hs.1
  obtain ⟨k, rfl⟩ := Int.eq_ofNat_of_zero_le hs.2.2.1
  obtain ⟨q, rfl⟩ : ∃ q, k = q <<< 8 := ⟨k / 256, by rw [Nat.shiftLeft_eq]; omega⟩
  have hk : q <<< 8 < 2 ^ 64 := by omega
  have hm : m < 2 ^ 8 := by omega
  have hor : (q <<< 8) ||| m = q <<< 8 + m := (Nat.shiftLeft_add_eq_or_of_lt hm q).symm
  have e : IntKind.i64.wrap ((BitVec.ofInt 64 ((q <<< 8 : Nat) : Int) ||| BitVec.ofInt 64 (m : Int)).toNat : Int) = ((q <<< 8 : Nat) : Int) + (m : Int) := by
   rw [BitVec.toNat_or, BitVec.ofInt_natCast, BitVec.ofInt_natCast, BitVec.toNat_ofNat, BitVec.toNat_ofNat, Nat.mod_eq_of_lt hk, Nat.mod_eq_of_lt (by omega : m < 2 ^ 64), hor]
   generalize q <<< 8 = A at *
   simp [IntKind.wrap_i64]; omega
  rw [binOp_or]
  exact congrArg (fun z : Int => (Result.ok (Value.int .i64 z) w : Result Value)) e
theorem op_appendBlk {t e : TypeId} {b m k c cB by' : Nat} {B : Option Addr} {zero cs ys : List Value} (hu : P.underlying t = some (.slice e)) (he : TInf P e 1 by' zero) (hn : d < n.n)
  (hx : evr L x = some (.slice (some ⟨b, 0, none⟩) m c)) (hy : evr L y = some (.slice B k cB)) (ht : Take H (blk b cs e) F) (hsrc : Src F (.slice B k cB) 1 k ys)
  (h1 : ys.all (·.oneCell') = true) (hr : m + k ≤ c) (hc : c = cs.length) :
  Opn P Q ⟨some d, .call { callee := .builtin .append, args := #[x, y], argTypes := #[t, t] }, ty, pos, af, g⟩ n L H
   (St n (upd L d (.slice (some ⟨b, 0, none⟩) (m + k) c)) (blk b (pset cs m ys) e :: F)) := by
 obtain ⟨i, z, hi, hs1, hs2, hz, hzz⟩ := he.open
 intro a w hs K hK
 have hF : Sat w F := (hs.sat.perm ht.perm).tail
 have hb : w.heap[b]? = some (.cells cs.toArray e (0, 0)) := hs.sat.ok _ (ht.perm.mem_iff.2 (List.mem_cons_self ..))
 obtain ⟨y1, y2, B', cB', y3, y4, y5⟩ := hsrc.ok hF
 cases y3
 have hyl : ys.length = k := by simpa using y1
 have hmain : ∃ w', (Builtin.append_ #[t, t] ty #[.slice (some ⟨b, 0, none⟩) m c, .slice B k cB]).run P w = .ok (.slice (some ⟨b, 0, none⟩) (m + k) c) w' ∧ Sat w' (blk b (pset cs m ys) e :: F) := by
  by_cases hk : k = 0
  ·subst hk
   have hys : ys = [] := List.eq_nil_of_length_eq_zero hyl
   subst hys
   refine ⟨w, ?_, ?_⟩
   ·have hmc : m ≤ c := by omega
    cases B <;> simp [Builtin.append_, run_underlying hu, sizeOf, typeInfo, hi, Builtin.lenOf, Builtin.firstCells, loadCells, loadCellsFrom, hmc, storeCells]
   ·have : pset cs m [] = cs := by simp [pset]
    rw [this]
    exact hs.sat.perm ht.perm
  ·obtain ⟨b', o', rfl, y6⟩ := y5 (by omega)
   have h := run_append_room (P := P) w t ty e i hu hi b m c cs.toArray hb ⟨b', o', none⟩ k cB ys (by rw [hs1, hyl, Nat.mul_one]) (fun j u hu => by rw [add_at]; exact y6 j u hu) (List.all_eq_true.1 h1) hr (by rw [hs1, hyl]; simp; omega)
   refine ⟨_, h, ?_⟩
   rw [hs1, Nat.mul_one]
   show Sat (w.setRow b (pset cs m ys).toArray) _
   exact blk_store hs.sat ht (by omega)
 obtain ⟨w', hrun', hsat⟩ := hmain
 unfold Oper.wp
 have hrun : (execOp a.eval ⟨some d, .call { callee := .builtin .append, args := #[x, y], argTypes := #[t, t] }, ty, pos, af, g⟩).run P w = .ok (.value (.slice (some ⟨b, 0, none⟩) (m + k) c)) w' := by
  simp only [execOp, resolve, invoke, builtin, Sem.run_bind, Sem.run_pure, Result.andThen_ok, List.map_toArray, List.map_cons, List.map_nil, hs.eval hx, hs.eval hy, hrun']
 rw [hrun, Oper.upon_value]
 exact hK _ _ ⟨hs.regs.put hn _, hsat⟩
theorem op_copyBlk {t t' e : TypeId} {b o m c k cB : Nat} {B : Option Addr} {cs ys : List Value} (hu : P.underlying t = some (.slice e)) (hs1 : (P.info? e).map (·.size) = some 1) (hn : d < n.n)
  (hx : evr L x = some (.slice (some ⟨b, o, none⟩) m c)) (hy : evr L y = some (.slice B k cB)) (ht : Take H (blk b cs e) F) (hsrc : Src F (.slice B k cB) 1 k ys) (h1 : ys.all (·.oneCell') = true) (hk : k ≤ m) (hp : 0 < k) (hfit : o + k ≤ cs.length) :
  Opn P Q ⟨some d, .call { callee := .builtin .copy, args := #[x, y], argTypes := #[t, t'] }, ty, pos, af, g⟩ n L H (St n (upd L d (.int .i64 (k : Int))) (blk b (pset cs o ys) e :: F)) := by
 intro a w hs K hK
 have hF : Sat w F := (hs.sat.perm ht.perm).tail
 have hb : w.heap[b]? = some (.cells cs.toArray e (0, 0)) := hs.sat.ok _ (ht.perm.mem_iff.2 (List.mem_cons_self ..))
 obtain ⟨y1, y2, B', cB', y3, y4, y5⟩ := hsrc.ok hF
 cases y3
 have hyl : ys.length = k := by simpa using y1
 obtain ⟨b', o', rfl, y6⟩ := y5 (by omega)
 have hst := run_storeCells_at P b o e ys 0 cs.toArray w hb (by simp; omega) (List.all_eq_true.1 h1)
 simp only [Nat.add_zero] at hst
 have hr : (Builtin.copy_ #[t, t'] ty #[.slice (some ⟨b, o, none⟩) m c, .slice (some ⟨b', o', none⟩) k cB]).run P w = .ok (.int .i64 (k : Int)) (w.setRow b (pset cs o ys).toArray) := by
  have hload := run_loadCells_list (P := P) w ⟨b', o', none⟩ ys (fun j u hj => by
   rw [add_at]
   exact y6 j u hj)
  have hmin : Nat.min k m = k := Nat.min_eq_left (by omega)
  have hmin' : min k m = k := Nat.min_eq_left (by omega)
  cases hq : P.info? e with
  | none => simp [hq] at hs1
  | some i =>
   have hi : i.size = 1 := by simpa [hq] using hs1
   rw [hyl] at hload
   simp [Builtin.copy_, run_underlying hu, Builtin.lenOf, Builtin.firstCells, sizeOf, typeInfo, hq, hi, hmin, hmin', hload, hst, goInt, pset]
 unfold Oper.wp execOp
 simp only [resolve, invoke, builtin, Sem.run_bind, Sem.run_pure, Result.andThen_ok, List.map_toArray, List.map_cons, List.map_nil, hs.eval hx, hs.eval hy, hr]
 exact hK _ _ ⟨hs.regs.put hn _, blk_store hs.sat ht (by omega)⟩
end
theorem own_le_blk {b m : Nat} {e : TypeId} {cs : List Value} (hl : cs.length = m) (hm : m ≤ maxLen) : (own (.slice (some ⟨b, 0, none⟩) m m) e 1 m cs).Le (blk b cs e) :=
 ⟨fun _ => rfl, fun b' hb => by
  simp only [own, Value.ownBlock, Option.some.injEq] at hb
  exact hb.symm, fun w hw => ⟨by rw [hl, Nat.mul_one], .inr ⟨b, m, cs.toArray, rfl, Nat.zero_le _, hw, Nat.le_refl _, hm, by simp [hl], by simp [← hl]⟩⟩⟩
theorem blk_whole_rd {b m : Nat} {e : TypeId} {cs : List Value} (hl : cs.length = m) (hm : m ≤ maxLen) : (rd (.slice (some ⟨b, 0, none⟩) m m) 1 m cs).Le (blk b cs e) :=
 blk_le_rd (Nat.le_refl _) hm (by rw [List.drop_zero, Nat.mul_one, ← hl, List.take_length]) (by rw [hl, Nat.mul_one])
end Go.Proofs.YtkjlbedebmffgaaGreat.Sx
namespace Go.Proofs.YtkjlbedebmffgaaGreat.Sx
open Go.RowKit
section
variable {P : Program} {ops : Array Oper} {Q : Exit → Act → World → Prop} {n : Fr} {L L' : List (Nat × Value)} {H H' F Hs G : List Ch} {e i : Nat} {fuel : Nat} {listed listed' : Array Bool}
theorem WA.abs {S : World → Prop} (k : ∀ W : Nat → Array Bool → Fr → List (Nat × Value) → List Ch → Prop, W = (fun fuel listed n L H => WA P ops Q S e fuel listed n L H) → W fuel listed n L H) : WA P ops Q S e fuel listed n L H :=
 k _ rfl
theorem WA.pick {l : List Nat} (hr : Region.ready .any ops listed = l) (hne : l.isEmpty = false)
  (h : ∀ i, i ∈ l → ∀ a w, St n L H a w → wpOp P ops Q i (fun a' w' => (i ≠ e → lastIn ops e listed = false → Sat w' Hs) ∧ wpAnyE P ops Q (fun w => Sat w Hs) e fuel (listed.setIfInBounds i true) a' w') a w) :
  WA P ops Q (fun w => Sat w Hs) e (fuel + 1) listed n L H := fun a w hst => by
 refine ⟨fun h0 => (by rw [hr] at h0; subst h0; cases hne), fun j hj => ?_⟩
 rw [hr] at hj
 exact h j hj a w hst
theorem WA.one1 {X : Type} {LL : X → List (Nat × Value)} {HH : X → List Ch} {G : X → List Ch} {oi : Oper} (hi : ops[i]? = some oi) (hg : oi.guard = none) (ho : Opn P Q oi n L H (fun a w => ∃ b, St n (LL b) (HH b) a w)) (hS : i ≠ e → ∀ b, Takes (HH b) Hs (G b))
  (h : ∀ b, WA P ops Q (fun w => Sat w Hs) e fuel (listed.setIfInBounds i true) n (LL b) (HH b)) :
  ∀ a w, St n L H a w → wpOp P ops Q i (fun a' w' => (i ≠ e → lastIn ops e listed = false → Sat w' Hs) ∧ wpAnyE P ops Q (fun w => Sat w Hs) e fuel (listed.setIfInBounds i true) a' w') a w :=
 WA.one hi hg ho (fun hne a w ⟨b, hs⟩ => hs.sat.only (hS hne b)) fun a w ⟨b, hs⟩ => h b a w hs
theorem WA.one2 {X Y : Type} {LL : X → Y → List (Nat × Value)} {HH : X → Y → List Ch} {G : X → Y → List Ch} {oi : Oper} (hi : ops[i]? = some oi) (hg : oi.guard = none) (ho : Opn P Q oi n L H (fun a w => ∃ b c, St n (LL b c) (HH b c) a w)) (hS : i ≠ e → ∀ b c, Takes (HH b c) Hs (G b c))
  (h : ∀ b c, WA P ops Q (fun w => Sat w Hs) e fuel (listed.setIfInBounds i true) n (LL b c) (HH b c)) :
  ∀ a w, St n L H a w → wpOp P ops Q i (fun a' w' => (i ≠ e → lastIn ops e listed = false → Sat w' Hs) ∧ wpAnyE P ops Q (fun w => Sat w Hs) e fuel (listed.setIfInBounds i true) a' w') a w :=
 WA.one hi hg ho (fun hne a w ⟨b, c, hs⟩ => hs.sat.only (hS hne b c)) fun a w ⟨b, c, hs⟩ => h b c a w hs
theorem WA.onex {X : Type} {φ : X → Prop} {LL : X → List (Nat × Value)} {HH : X → List Ch} {G : X → List Ch} {oi : Oper} (hi : ops[i]? = some oi) (hg : oi.guard = none) (ho : Opn P Q oi n L H (fun a w => ∃ b, φ b ∧ St n (LL b) (HH b) a w)) (hS : i ≠ e → ∀ b, Takes (HH b) Hs (G b))
  (h : ∀ b, φ b → WA P ops Q (fun w => Sat w Hs) e fuel (listed.setIfInBounds i true) n (LL b) (HH b)) :
  ∀ a w, St n L H a w → wpOp P ops Q i (fun a' w' => (i ≠ e → lastIn ops e listed = false → Sat w' Hs) ∧ wpAnyE P ops Q (fun w => Sat w Hs) e fuel (listed.setIfInBounds i true) a' w') a w :=
 WA.one hi hg ho (fun hne a w ⟨b, _, hs⟩ => hs.sat.only (hS hne b)) fun a w ⟨b, hb, hs⟩ => h b hb a w hs
theorem WA.conv {S : World → Prop} (hl : listed' = listed) (k : RS L L') (t : Takes H H' F) (h : WA P ops Q S e fuel listed n L' H') : WA P ops Q S e fuel listed' n L H := fun a w hs => by
 subst hl
 exact h a w (hs.sub k t)
end
end Go.Proofs.YtkjlbedebmffgaaGreat.Sx
namespace Go.Proofs.YtkjlbedebmffgaaGreat.Sx
open Go.RowKit
section
variable {P : Program} {Q : Exit → Act → World → Prop} {n : Fr} {L : List (Nat × Value)} {H : List Ch} {c : Code} {id : Nat}
theorem WC.scope (h : WC P c (Exit.noGoto Q) n L H) : WC P (.scope c) Q n L H := fun a w hs => wp_scope_straight (h a w hs)
theorem WX.scope_ret (h : WX Q .ret n L H) : WX (Exit.noGoto Q) .ret n L H := fun a w hs => h a w hs
end
theorem Reads.rows {F D : List Ch} {e : Bool} {rs : List Bs} (h : rowsC e rs ∈ F) (k : Reads F D) : Reads F (rowsC false rs :: D) := .cons h rfl (rowsC_read fun _ h => h) k
structure Rs where
 (k g n : Int)
 b : Bs
def Rs.cells (r : Rs) : List Value := [.int .i64 r.k, .int .i64 r.g, .int .i64 r.n, r.b.v]
theorem cells_push (l : List Rs) (r : Rs) : l.flatMap Rs.cells ++ r.cells = (l ++ [r]).flatMap Rs.cells := by simp
theorem bs_push (l : List Rs) (r : Rs) : l.map Rs.b ++ [r.b] = (l ++ [r]).map Rs.b := by simp
theorem rd_dropR {A : Option Addr} {c M l : Nat} {rs : List Bs} (h : rs.length = M) (hl : l ≤ M) : (rd (sliced A l M c 1) 1 (M - l) ((rs.drop l).map Bs.v)).Le (rd (.slice A M c) 1 M (rs.map Bs.v)) := by
 have k := rd_sub (A := A) (c := c) (m := M) (sz := 1) (l := l) (h := M) (xs := rs.map Bs.v) hl (Nat.le_refl _)
 have e : ((rs.map Bs.v).drop (l * 1)).take ((M - l) * 1) = (rs.drop l).map Bs.v := by
  rw [Nat.mul_one, Nat.mul_one, List.take_of_length_le (by simp; omega), List.map_drop]
 rwa [e] at k
theorem rowsC_drop {e : Bool} {rs : List Bs} {l : Nat} : (rowsC false (rs.drop l)).Le (rowsC e rs) := rowsC_read fun _ h => List.mem_of_mem_drop h
end Go.Proofs.YtkjlbedebmffgaaGreat.Sx
namespace Go.Proofs.YtkjlbedebmffgaaGreat.Sx
open Go.RowKit
section
variable {P : Program} {ops : Array Oper} {Q : Exit → Act → World → Prop} {n : Fr} {L : List (Nat × Value)} {H F : List Ch} {ty : TypeId} {pos : String} {af : Array Edge} {g : Option (Nat × Bool)} {x y : Operand}
end
end Go.Proofs.YtkjlbedebmffgaaGreat.Sx
namespace Go.Proofs.YtkjlbedebmffgaaGreat.Sx
open Go.ChangeShapes Go.WideShapes Go.ChangeAt Go.RowKit
section
variable {H : Type} {enc : TypeId × Value → H} {P : Program}
theorem args_stay (hl : laidOutB P = true) {W W' : World} (hb : Below W.heap.size W W') : ∀ {ts : List TypeId} {vs : List Value} {ds : List (DataW H)} {ps : List MemPlace}, (∀ t ∈ ts, P.readableRec t = true ∧ t < P.types.size) →
  DataW.TrodAll enc P W 0 (fun _ => true) true ts vs ds ps → (∀ x ∈ ps, x.block < W.heap.size) → DataW.TrodAll enc P W' 0 (fun b => decide (b < W.heap.size)) true ts vs ds ps := by
 intro ts
 induction ts with
 | nil =>
  intro vs ds ps _ h _
  obtain ⟨rfl, rfl, rfl⟩ := trodAll_nil h
  exact trodAll_mk0
 | cons t ts ih =>
  intro vs ds ps ht h hlt
  obtain ⟨v, vs', d, ds', p, q, rfl, rfl, rfl, h1, h2⟩ := trodAll_cons h
  have ht1 := ht t (List.mem_cons_self ..)
  exact trodAll_cons_mk (Below.trod hl ht1.1 ht1.2 h1 hb fun x hx => hlt x (List.mem_append_left _ hx)) (ih (fun t' ht' => ht t' (List.mem_cons_of_mem _ ht')) h2 fun x hx => hlt x (List.mem_append_right _ hx))
theorem law_post {f : Func} {s : ChangeSpec} {W W' : World} {args : Array Value} {tb : TypeId} {ds gs : List (DataW H)} {before : List MemPlace} (hl : laidOutB P = true)
  (hW : DataW.Whole enc P f.params.toList s.vars false W args.toList ds gs before) (hv : s.vars = []) (hr : f.resultTypes = #[tb]) (hb : P.underlying tb = some .bool)
  (hp : ∀ t ∈ f.params.toList, P.readableRec t = true ∧ t < P.types.size) (hs : s.fn H ds = { results := [.lit (.bool true)], args := ds }) (hc : Chg (fun _ => False) W W') :
  s.post enc P f false true false false W args (.bool true) W' := by
 have hlt := hW.lt
 have hW' := hW
 obtain ⟨p, q, hA, hV, hps, hfz, hnd⟩ := hW
 rw [hv] at hV
 obtain ⟨rfl, rfl⟩ := trodVars_none hV
 subst hps
 have hB := hc.below
 refine ⟨ds, [], p ++ [], [], p, [], hW', ?_, ?_, ?_, ?_, fun h => by cases h⟩
 ·rw [List.append_nil, hs, hr]
  exact trodAll_cons_mk (shut_bool hb _) trodAll_mk0
 ·rw [List.append_nil, hs]
  exact args_stay hl hB hp hA fun x hx => hlt x (List.mem_append_left _ hx)
 ·rw [List.append_nil, hs, hv]
  exact rfl
 ·exact World.keptBut_mono (fun x hx => ⟨hx, by rw [List.append_nil] at hx; exact .inr (.inl hx)⟩) (hB.frame (· ∈ p ++ []))
theorem trod_num {w : World} {base : Nat} {sp : Nat → Bool} {hd : Bool} {fuel : Nat} {t : TypeId} {k : IntKind} {v : Value} {x : DataW H × List MemPlace} (ht : P.underlying t = some (.int k)) (h : DataW.trod enc P w base sp hd fuel t [v] = some x) :
  ∃ a, v = .int k a ∧ (Lit.int k a).wf = true := by
 obtain ⟨a, h1, _, h3⟩ := DataW.trod_int ht h
 simp only [List.cons.injEq, and_true] at h1
 exact ⟨a, h1, h3⟩
theorem trod_byte {w : World} {base : Nat} {sp : Nat → Bool} {hd : Bool} {fuel : Nat} {t : TypeId} {v : Value} {x : DataW H × List MemPlace} (ht : P.underlying t = some (.int .u8)) (h : DataW.trod enc P w base sp hd fuel t [v] = some x) :
  ∃ a : UInt8, v = bv a := by
 obtain ⟨a, rfl, hw⟩ := trod_num ht h
 have hx : 0 ≤ a ∧ a ≤ 255 := by simpa [Lit.wf, IntKind.min, IntKind.max, IntKind.signed, IntKind.bits] using hw
 refine ⟨UInt8.ofNat a.toNat, ?_⟩
 have e : ((UInt8.ofNat a.toNat).toNat : Int) = a := by
  have : (UInt8.ofNat a.toNat).toNat = a.toNat % 256 := by simp
  omega
 show Value.int .u8 a = .int .u8 _
 rw [e]
theorem trod_bytes {w : World} {hd : Bool} {fuel : Nat} {t e : TypeId} {v : Value} {x : DataW H × List MemPlace} (ht : P.underlying t = some (.slice e)) (he : P.underlying e = some (.int .u8)) (hc : P.cellsOf e = 1)
  (h : DataW.trod enc P w 0 (fun _ => true) hd fuel t [v] = some x) : ∃ r : Bs, v = r.v ∧ r.ch.ok w := by
 rcases Deep.open_slice1 ht hc h with ⟨h1, _⟩ | ⟨a, len, cap, m, n, V, D, Pl, h1, _, hl, hm, hmm, _, hV⟩
 ·simp only [List.cons.injEq, and_true] at h1
  exact ⟨⟨none, 0, []⟩, h1, by simp, by simp [maxLen], none, 0, rfl, Nat.le_refl _, fun hp => absurd hp (by simp)⟩
 ·simp only [List.cons.injEq, and_true] at h1
  simp only [if_true] at hmm
  have hB : ∀ i, i < len → ∃ y : UInt8, w.cell? (a.add i) = some (bv y) := fun i hi => by
   obtain ⟨g1, g2⟩ := hV i (by omega)
   obtain ⟨y, hy⟩ := trod_byte he g2
   exact ⟨y, hy ▸ g1⟩
  obtain ⟨y, hy⟩ : ∃ y : Nat → UInt8, ∀ i, i < len → w.cell? (a.add i) = some (bv (y i)) := by
   refine ⟨fun i => if hi : i < len then (hB i hi).choose else 0, fun i hi => ?_⟩
   have := (hB i hi).choose_spec
   simpa [hi] using this
  refine ⟨⟨some a, cap, (List.range len).map y⟩, ?_, ?_⟩
  ·rw [h1]; simp [Bs.v]
  ·refine ⟨by simp, by simp; omega, some a, cap, by simp [Bs.v], by simp; omega, fun hp => ?_⟩
   have hp' : 0 < len := by simpa using hp
   have hs := World.cell?_spot (hy 0 hp')
   obtain ⟨ab, ao, zs⟩ := a
   have hs' : zs = none := by simpa [Addr.add] using hs
   subst hs'
   refine ⟨ab, ao, rfl, fun j u hu => ?_⟩
   have hj : j < len := by
    have := (List.getElem?_eq_some_iff.1 hu).1
    simpa using this
   have := hy j hj
   rw [add_at] at this
   rw [this]
   simpa [hj] using hu
end
end Go.Proofs.YtkjlbedebmffgaaGreat.Sx
namespace Go.Proofs.YtkjlbedebmffgaaGreat.Sx
open Go.RowKit
section
variable {P : Program} {Q : Exit → Act → World → Prop} {n : Fr} {L : List (Nat × Value)} {H F : List Ch} {d : Nat} {ty : TypeId} {pos : String} {af : Array Edge} {g : Option (Nat × Bool)} {x y : Operand}
end
end Go.Proofs.YtkjlbedebmffgaaGreat.Sx
namespace Go.Proofs.YtkjlbedebmffgaaGreat.Sx
open Go.RowKit
def ment (p : Int × Value × Nat) : MapEntry := ⟨.int .i64 p.1, p.2.1, p.2.2⟩
def mgo : List (Int × Value × Nat) → Int → Nat → Option (Nat × Value)
 | [], _, _ => none
 | p :: ps, a, i => if a = p.1 then some (i, p.2.1) else mgo ps a (i + 1)
theorem findNow_mgo {k : IntKind} {a : Int} : ∀ (l : List (Int × Value × Nat)) (i : Nat), Instr.findNow (.int k) (.int .i64 a) (l.map ment) i = some (mgo l a i)
 | [], _ => rfl
 | p :: ps, i => by
  simp only [List.map_cons, Instr.findNow, ment, Instr.sameNow, if_true]
  by_cases h : a = p.1
  ·have : (a == p.1) = true := by simpa using h
   simp [this, mgo, h]
  ·have : (a == p.1) = false := by simpa using h
   simp only [this, mgo, if_neg h]
   exact findNow_mgo ps (i + 1)
theorem mgo_spec (a : Int) : ∀ (l : List (Int × Value × Nat)) (i : Nat), (∃ j p, l[j]? = some p ∧ p.1 = a ∧ mgo l a i = some (i + j, p.2.1)) ∨ ((∀ p ∈ l, ¬ p.1 = a) ∧ mgo l a i = none)
 | [], i => .inr ⟨fun p hp => (by cases hp), rfl⟩
 | p :: ps, i => by
  by_cases h : a = p.1
  ·exact .inl ⟨0, p, rfl, h.symm, by simp [mgo, h]⟩
  ·rcases mgo_spec a ps (i + 1) with ⟨j, q, h1, h2, h3⟩ | ⟨h1, h2⟩
   ·exact .inl ⟨j + 1, q, by simpa using h1, h2, by simp only [mgo, if_neg h, h3]; congr 2; omega⟩
   ·refine .inr ⟨fun q hq => ?_, by simp only [mgo, if_neg h, h2]⟩
    rcases List.mem_cons.1 hq with rfl | hq
    ·exact fun e => h e.symm
    ·exact h1 q hq
def mapC (b : Nat) (f : Int → Option Value) : Ch where
 foot b' := b' = b
 ex := true
 ok w := ∃ (l : List (Int × Value × Nat)) (clock : Nat), w.heap[b]? = some (.map (l.map ment).toArray clock) ∧ (l.map (·.1)).Nodup ∧ (∀ p ∈ l, f p.1 = some p.2.1) ∧ ∀ a, (∀ p ∈ l, ¬ p.1 = a) → f a = none
 loc w w' h _ _ _ _ hb := by
  obtain ⟨l, c, h1, h2⟩ := h
  exact ⟨l, c, (hb b rfl).trans h1, h2⟩
 inb w h b' hb := by
  subst hb
  obtain ⟨l, c, h1, _⟩ := h
  exact (Array.getElem?_eq_some_iff.1 h1).1
@[simp] theorem mapC_ex (b : Nat) (f : Int → Option Value) : (mapC b f).ex = true := rfl
section
variable {P : Program} {Q : Exit → Act → World → Prop} {n : Fr} {L L' : List (Nat × Value)} {H H' F : List Ch} {ops : Array Oper} {rest : List Oper} {o : Oper}
variable {d : Nat} {ty : TypeId} {pos : String} {af : Array Edge} {g : Option (Nat × Bool)} {x y z : Operand} {v u : Value} {t k e : TypeId} {kk : IntKind}
theorem run_findKey {w : World} {a : Int} {l : List (Int × Value × Nat)} (hk : P.underlying k = some (.int kk)) : (Instr.findKey k (.int .i64 a) (l.map ment)).run P w = .ok (mgo l a 0) w := by
 unfold Instr.findKey
 rw [Sem.run_bind, run_underlying hk w]
 simp [Result.andThen, findNow_mgo]
theorem run_checkInt {w : World} {a : Int} {b : Bool} (hk : P.underlying k = some (.int kk)) : (Instr.checkKey b 10000 k (.int .i64 a)).run P w = .ok () w := by
 have h : ∀ m, (Instr.checkKey b (m + 1) k (.int .i64 a)).run P w = .ok () w := fun m => by
  simp [Instr.checkKey, Sem.run_bind, run_underlying hk]
 exact h 9999
theorem op_makeMap (hn : d < n.n) : Opn P Q ⟨some d, .makeMap t none, ty, pos, af, g⟩ n L H (fun a w => ∃ b, St n (upd L d (.map (some b))) (mapC b (fun _ => none) :: H) a w) := by
 intro a w hs K hK
 unfold Oper.wp
 have hr : (execOp a.eval ⟨some d, .makeMap t none, ty, pos, af, g⟩).run P w = .ok (.value (.map (some w.heap.size))) (w.alloc (.map #[] 0)) := by
  simp [execOp, run_makeMap]
 rw [hr, Oper.upon_value]
 exact hK _ _ ⟨_, hs.regs.put hn _, hs.sat.grow ⟨[], 0, heap_alloc_new w _, by simp, (fun p hp => by cases hp), fun _ _ => rfl⟩ (Chg.alloc _ _ _) (fun b hb => by cases hb; exact Nat.le_refl _)⟩
theorem run_lookup {w : World} {b : Nat} {f : Int → Option Value} {a : Int} {zv : Value} {ok : Bool} (ht : P.underlying t = some (.map k e)) (hk : P.underlying k = some (.int kk)) (hz : (P.info? e).map (·.zero) = some (some zv)) (hm : (mapC b f).ok w) :
  (Instr.lookup t (.map (some b)) (.int .i64 a) ok).run P w = .ok (if ok then .tuple #[(f a).getD zv, .bool (f a).isSome] else (f a).getD zv) w := by
 obtain ⟨l, c, h1, h2, h3, h4⟩ := hm
 obtain ⟨i, hi, hz'⟩ := Option.map_eq_some_iff.1 hz
 have hf := run_findKey (P := P) (w := w) (a := a) (l := l) hk
 rcases mgo_spec a l 0 with ⟨j, p, g1, g2, g3⟩ | ⟨g1, g2⟩
 ·have hfa : f a = some p.2.1 := by rw [← g2]; exact h3 p (List.mem_of_getElem? g1)
  rw [g3] at hf
  cases ok <;> simp [Instr.lookup, run_underlying ht, MapKept.run_getObj_map h1, run_checkInt hk, hf, hfa, Result.andThen]
 ·have hfa : f a = none := h4 a g1
  rw [g2] at hf
  cases ok <;> simp [Instr.lookup, run_underlying ht, MapKept.run_getObj_map h1, run_checkInt hk, hf, hfa, zeroValue, typeInfo, hi, hz', Result.andThen]
theorem op_lookup {b : Nat} {f : Int → Option Value} {a : Int} {zv : Value} (ht : P.underlying t = some (.map k e)) (hk : P.underlying k = some (.int kk)) (hz : (P.info? e).map (·.zero) = some (some zv)) (hn : d < n.n)
  (hx : evr L x = some (.map (some b))) (hy : evr L y = some (.int .i64 a)) (hm : mapC b f ∈ H) : Val P ⟨some d, .lookup t x y false, ty, pos, af, g⟩ n L H d ((f a).getD zv) :=
 Val.mk rfl hn fun a' w hs => by
  have := run_lookup (P := P) (a := a) (ok := false) ht hk hz (hs.sat.ok _ hm)
  simp [execOp, hs.eval hx, hs.eval hy, this]
theorem nodup_inj {l : List (Int × Value × Nat)} (h : (l.map (·.1)).Nodup) {i j : Nat} {p q : Int × Value × Nat} (hp : l[i]? = some p) (hq : l[j]? = some q) (e : p.1 = q.1) : i = j := by
 have hi : i < (l.map (·.1)).length := by rw [List.length_map]; exact (List.getElem?_eq_some_iff.1 hp).1
 exact (List.getElem?_inj hi h).1 (by rw [List.getElem?_map, List.getElem?_map, hp, hq]; simp [e])
theorem chg_putMap (w : World) (b : Nat) (o : Obj) : Chg (· = b) w { w with heap := w.heap.setIfInBounds b o } :=
 ⟨rfl, rfl, rfl, by simp, fun k _ hk => by
  show (w.heap.setIfInBounds b o)[k]? = _
  rw [Array.getElem?_setIfInBounds_ne (fun e => hk e.symm)]⟩
theorem keyStays {w : World} {a : Int} : (Instr.keyThatStays (.int .i64 a) (.int .i64 a)).run P w = .ok (.int .i64 a) w := by
 have h : Instr.sameBits 10000 (.int .i64 a) (.int .i64 a) = true := by
  have : ∀ m, Instr.sameBits m (.int .i64 a) (.int .i64 a) = true := fun m => by cases m <;> simp [Instr.sameBits]
  exact this _
 simp [Instr.keyThatStays, h]
theorem map_put {w : World} {b : Nat} {f : Int → Option Value} {a : Int} (ht : P.underlying t = some (.map k e)) (hk : P.underlying k = some (.int kk)) (hm : (mapC b f).ok w) :
  ∃ o, (Instr.mapUpdate t (.map (some b)) (.int .i64 a) v).run P w = .ok () { w with heap := w.heap.setIfInBounds b o } ∧ (mapC b (fun x => if x = a then some v else f x)).ok { w with heap := w.heap.setIfInBounds b o } := by
 obtain ⟨l, c, h1, h2, h3, h4⟩ := hm
 have hb := (Array.getElem?_eq_some_iff.1 h1).1
 have hf := run_findKey (P := P) (w := w) (a := a) (l := l) hk
 have hnew : ∀ o, (w.heap.setIfInBounds b o)[b]? = some o := fun o => by simp [hb]
 rcases mgo_spec a l 0 with ⟨j, p, g1, g2, g3⟩ | ⟨g1, g2⟩
 ·rw [g3, Nat.zero_add] at hf
  have hjl := (List.getElem?_eq_some_iff.1 g1).1
  have hle : l[j] = p := (List.getElem?_eq_some_iff.1 g1).2
  have hj : ((l.map ment).toArray)[j]? = some (ment p) := by simp [g1]
  have hmod : (l.map ment).toArray.modify j (fun e => { e with key := .int .i64 a, val := v }) = ((l.set j (a, v, p.2.2)).map ment).toArray := by
   apply Array.toList_inj.1
   apply List.ext_getElem?
   intro q
   rw [Array.toList_modify, List.getElem?_modify]
   simp only [List.getElem?_map, List.getElem?_set]
   by_cases hq : j = q
   ·subst hq
    simp [hle, hjl, ment]
   ·simp [hq]
  refine ⟨.map ((l.set j (a, v, p.2.2)).map ment).toArray c, ?_, l.set j (a, v, p.2.2), c, hnew _, ?_, ?_, ?_⟩
  ·have hd : (((l.map ment).toArray)[j]?.map (·.key)).getD (.int .i64 a) = .int .i64 a := by rw [hj]; simp [ment, g2]
   simp only [Instr.mapUpdate, Sem.run_bind, run_underlying ht, MapKept.run_getObj_map h1, run_checkInt hk, hf, Result.andThen, Sem.run_pure, hd, keyStays, hmod, MapKept.run_setObj_map _ h1]
  ·have e : (l.set j (a, v, p.2.2)).map (·.1) = l.map (·.1) := by
    rw [List.map_set]
    apply List.ext_getElem?
    intro q
    rw [List.getElem?_set]
    by_cases hq : j = q
    ·subst hq; simp [hle, g2, hjl]
    ·simp [hq]
   rw [e]; exact h2
  ·intro q hq
   rcases List.mem_or_eq_of_mem_set hq with hq' | rfl
   ·by_cases hqa : q.1 = a
    ·obtain ⟨i, hi⟩ := List.mem_iff_getElem?.1 hq
     rw [List.getElem?_set] at hi
     by_cases hij : j = i
     ·subst hij
      simp only [if_true, hjl] at hi
      cases hi
      simp
     ·rw [if_neg hij] at hi
      exact absurd (nodup_inj h2 g1 hi (g2.trans hqa.symm)) hij
    ·simp only [hqa, if_false]
     exact h3 q hq'
   ·simp
  ·intro x hx
   have hxa : ¬ x = a := fun e => hx (a, v, p.2.2) (List.mem_iff_getElem?.2 ⟨j, by simp [hjl]⟩) e.symm
   simp only [hxa, if_false]
   refine h4 x fun q hq e => ?_
   obtain ⟨i, hi⟩ := List.mem_iff_getElem?.1 hq
   by_cases hij : j = i
   ·subst hij
    rw [g1] at hi
    cases hi
    exact hxa (e.symm.trans g2)
   ·exact hx q (List.mem_iff_getElem?.2 ⟨i, by rw [List.getElem?_set_ne hij]; exact hi⟩) e
 ·rw [g2] at hf
  refine ⟨.map ((l ++ [(a, v, c)]).map ment).toArray (c + 1), ?_, l ++ [(a, v, c)], c + 1, hnew _, ?_, ?_, ?_⟩
  ·have hp : (l.map ment).toArray.push { key := .int .i64 a, val := v, born := c } = ((l ++ [(a, v, c)]).map ment).toArray := by simp [ment]
   simp only [Instr.mapUpdate, Sem.run_bind, run_underlying ht, MapKept.run_getObj_map h1, run_checkInt hk, hf, Result.andThen, Sem.run_pure, hp, MapKept.run_setObj_map _ h1]
  ·rw [List.map_append, List.nodup_append]
   refine ⟨h2, by simp, fun x hx y hy => ?_⟩
   obtain ⟨q, hq, rfl⟩ := List.mem_map.1 hx
   simp only [List.map_cons, List.map_nil, List.mem_singleton] at hy
   rw [hy]
   exact g1 q hq
  ·intro q hq
   rcases List.mem_append.1 hq with hq | hq
   ·dsimp only; rw [if_neg (g1 q hq)]; exact h3 q hq
   ·rw [List.mem_singleton.1 hq]; simp
  ·intro x hx
   have hxa : ¬ x = a := fun e => hx (a, v, c) (by simp) e.symm
   simp only [hxa, if_false]
   exact h4 x fun q hq => hx q (List.mem_append_left _ hq)
theorem map_del {w : World} {b : Nat} {f : Int → Option Value} {a : Int} {ats : Array TypeId} (ht : P.underlying t = some (.map k e)) (hk : P.underlying k = some (.int kk)) (ha : ats[0]? = some t) (hm : (mapC b f).ok w) :
  ∃ o, (Builtin.delete_ ats ty #[.map (some b), .int .i64 a]).run P w = .ok (.tuple #[]) { w with heap := w.heap.setIfInBounds b o } ∧ (mapC b (fun x => if x = a then none else f x)).ok { w with heap := w.heap.setIfInBounds b o } := by
 obtain ⟨l, c, h1, h2, h3, h4⟩ := hm
 have hb := (Array.getElem?_eq_some_iff.1 h1).1
 have hf := run_findKey (P := P) (w := w) (a := a) (l := l) hk
 have hnew : ∀ o, (w.heap.setIfInBounds b o)[b]? = some o := fun o => by simp [hb]
 rcases mgo_spec a l 0 with ⟨j, p, g1, g2, g3⟩ | ⟨g1, g2⟩
 ·rw [g3, Nat.zero_add] at hf
  have hjl := (List.getElem?_eq_some_iff.1 g1).1
  have her : (l.map ment).toArray.eraseIdxIfInBounds j = ((l.eraseIdx j).map ment).toArray := by
   apply Array.toList_inj.1
   apply List.ext_getElem?
   intro q
   simp only [Array.toList_eraseIdxIfInBounds, List.getElem?_eraseIdx, List.getElem?_map]
   split <;> rfl
  have her2 : (l.map ment).eraseIdx j = (l.eraseIdx j).map ment := by
   apply List.ext_getElem?
   intro q
   simp only [List.getElem?_eraseIdx, List.getElem?_map]
   split <;> rfl
  refine ⟨.map ((l.eraseIdx j).map ment).toArray c, ?_, l.eraseIdx j, c, hnew _, ?_, ?_, ?_⟩
  ·simp [Builtin.delete_, ha, run_underlying ht, MapKept.run_getObj_map h1, run_checkInt hk, hf, her, her2, MapKept.run_setObj_map _ h1]
  ·exact h2.sublist ((List.eraseIdx_sublist l j).map _)
  ·intro q hq
   have hq' := List.mem_of_mem_eraseIdx hq
   have hqa : ¬ q.1 = a := fun e => by
    obtain ⟨i, hi⟩ := List.mem_iff_getElem?.1 hq
    rw [List.getElem?_eraseIdx] at hi
    split at hi
    ·have := nodup_inj h2 g1 hi (g2.trans e.symm); omega
    ·have := nodup_inj h2 g1 hi (g2.trans e.symm); omega
   dsimp only
   rw [if_neg hqa]
   exact h3 q hq'
  ·intro x hx
   dsimp only
   by_cases hxa : x = a
   ·rw [if_pos hxa]
   ·rw [if_neg hxa]
    refine h4 x fun q hq e => ?_
    obtain ⟨i, hi⟩ := List.mem_iff_getElem?.1 hq
    rcases Nat.lt_trichotomy i j with h | h | h
    ·exact hx q (List.mem_iff_getElem?.2 ⟨i, by rw [List.getElem?_eraseIdx, if_pos h]; exact hi⟩) e
    ·subst h
     rw [g1] at hi
     cases hi
     exact hxa (e.symm.trans g2)
    ·exact hx q (List.mem_iff_getElem?.2 ⟨i - 1, by rw [List.getElem?_eraseIdx, if_neg (by omega), show i - 1 + 1 = i by omega]; exact hi⟩) e
 ·rw [g2] at hf
  refine ⟨.map (l.map ment).toArray c, ?_, l, c, hnew _, h2, ?_, ?_⟩
  ·simp [Builtin.delete_, ha, run_underlying ht, MapKept.run_getObj_map h1, run_checkInt hk, hf, MapKept.run_setObj_map _ h1]
  ·intro q hq
   dsimp only
   rw [if_neg (g1 q hq)]
   exact h3 q hq
  ·intro x hx
   dsimp only
   by_cases hxa : x = a
   ·rw [if_pos hxa]
   ·rw [if_neg hxa]; exact h4 x hx
theorem op_mapUpdate {b : Nat} {f : Int → Option Value} {a : Int} (ht : P.underlying t = some (.map k e)) (hk : P.underlying k = some (.int kk)) (hx : evr L x = some (.map (some b))) (hy : evr L y = some (.int .i64 a)) (hz : evr L z = some v) (hm : Take H (mapC b f) F) :
  Opn P Q ⟨none, .mapUpdate t x y z, ty, pos, af, g⟩ n L H (St n L (mapC b (fun x => if x = a then some v else f x) :: F)) :=
 Opn.skip rfl fun a' w hs => by
  obtain ⟨o, h1, h2⟩ := map_put (P := P) (v := v) (a := a) ht hk (hs.sat.ok _ (hm.perm.mem_iff.2 (List.mem_cons_self ..)))
  exact ⟨_, by simp [execOp, hs.eval hx, hs.eval hy, hs.eval hz, h1], hs.sat.swap hm rfl h2 (chg_putMap w b o) (fun b' h => .inr h)⟩
theorem op_delete {b : Nat} {f : Int → Option Value} {a : Int} {ats : Array TypeId} (ht : P.underlying t = some (.map k e)) (hk : P.underlying k = some (.int kk)) (ha : ats[0]? = some t) (hx : evr L x = some (.map (some b))) (hy : evr L y = some (.int .i64 a)) (hm : Take H (mapC b f) F) :
  Opn P Q ⟨none, .call { callee := .builtin .delete, args := #[x, y], argTypes := ats }, ty, pos, af, g⟩ n L H (St n L (mapC b (fun x => if x = a then none else f x) :: F)) := by
 intro a' w hs K hK
 obtain ⟨o, h1, h2⟩ := map_del (P := P) (ty := ty) (a := a) ht hk ha (hs.sat.ok _ (hm.perm.mem_iff.2 (List.mem_cons_self ..)))
 unfold Oper.wp execOp
 simp only [resolve, invoke, builtin, Sem.run_bind, Sem.run_pure, Result.andThen_ok, List.map_toArray, List.map_cons, List.map_nil, hs.eval hx, hs.eval hy, h1]
 exact hK _ _ ⟨hs.regs, hs.sat.swap hm rfl h2 (chg_putMap w b o) (fun b' h => .inr h)⟩
end
end Go.Proofs.YtkjlbedebmffgaaGreat.Sx
namespace Go.Proofs.YtkjlbedebmffgaaGreat.Sx
open Go.RowKit
def objC (b : Nat) (o : Obj) : Ch where
 foot b' := b' = b
 ex := true
 ok w := w.heap[b]? = some o
 loc w w' h _ _ _ _ hb := (hb b rfl).trans h
 inb w h b' hb := by subst hb; exact (Array.getElem?_eq_some_iff.1 h).1
@[simp] theorem objC_ex (b : Nat) (o : Obj) : (objC b o).ex = true := rfl
theorem chg_putObj (w : World) (b : Nat) (o : Obj) : Chg (· = b) w (w.putObj b o) := chg_putMap w b o
theorem obj_put {w : World} {b : Nat} {o o' : Obj} {H F : List Ch} (hs : Sat w H) (hm : Take H (objC b o) F) : Sat (w.putObj b o') (objC b o' :: F) := by
 have h : w.heap[b]? = some o := hs.ok _ (hm.perm.mem_iff.2 (List.mem_cons_self ..))
 exact hs.swap hm rfl (World.putObj_heap_same (Array.getElem?_eq_some_iff.1 h).1) (chg_putObj w b o') (fun b' h => .inr h)
theorem Sat.withFrame {w : World} {T D : List Ch} (hD : ∀ d ∈ D, d.ex = false) (hs : Sat w (T ++ D)) : Sat w (T ++ D ++ [frameC w (MutF T)]) := by
 refine ⟨fun x hx => ?_, List.pairwise_append.2 ⟨hs.apart, List.pairwise_singleton .., fun x hx y hy hm b hxf hyf => ?_⟩⟩
 ·rcases List.mem_append.1 hx with hx | hx
  ·exact hs.ok x hx
  ·rw [List.mem_singleton.1 hx]
   exact Chg.refl _ _
 ·rw [List.mem_singleton.1 hy] at hyf hm
  rcases hm with hm | hm
  ·rcases List.mem_append.1 hx with hx | hx
   ·exact hyf.2 ⟨x, hx, hm, hxf⟩
   ·rw [hD x hx] at hm; cases hm
  ·cases hm
theorem frame_new {w0 w : World} {T : List Ch} {L F : List Ch} (hs : Sat w (frameC w0 (MutF T) :: L)) (hex : ∀ c ∈ L, c.ex = true) : Chg (MutF T) w0 w ∧ ∀ c ∈ L, ∀ b, c.foot b → w0.heap.size ≤ b ∨ MutF T b := by
 have hchg : Chg (MutF T) w0 w := hs.head
 have hap := (List.pairwise_cons.1 hs.apart).1
 refine ⟨hchg, fun c hc b hb => ?_⟩
 by_cases hlt : b < w0.heap.size
 ·right
  by_cases hm : MutF T b
  ·exact hm
  ·exact absurd hb (hap c hc (.inr (hex c hc)) b ⟨hlt, hm⟩)
 ·left; omega
def notDefer : Op → Bool
 | .defer _ => false
 | _ => true
theorem semAt_of {ro : Option Nat} {ρ : Operand → Value} {o : Oper} (h : notDefer o.op = true) : o.semAt ro ρ = execOp ρ o := by
 unfold Oper.semAt
 split
 ·rename_i c hc; rw [hc] at h; cases h
 ·rfl
section
variable {P : Program} {Q : Exit → Act → World → Prop} {n : Fr} {L L' : List (Nat × Value)} {H H' F : List Ch} {ops : Array Oper} {o : Oper} {Fe : Fence} {i : Nat} {is : List Nat}
def Fence.free (Fe : Fence) : Prop := (∀ f, Fe.fn f) ∧ Fe.depth = none
theorem free_wide : Fence.free Fence.wide := ⟨fun _ => trivial, rfl⟩
theorem free_round {l : Nat} : Fence.free (Fence.wide.inRound l) := ⟨fun _ => trivial, rfl⟩
def WI (Fe : Fence) (P : Program) (c : Code) (Q : Exit → Act → World → Prop) (n : Fr) (L : List (Nat × Value)) (H : List Ch) : Prop := ∀ a w, St n L H a w → c.wpIn Fe 0 P Q a w
def WLI (Fe : Fence) (P : Program) (ops : Array Oper) (Q : Exit → Act → World → Prop) (is : List Nat) (n : Fr) (L : List (Nat × Value)) (H : List Ch) : Prop := ∀ a w, St n L H a w → wpOpsIn Fe 0 P ops Q is a w
theorem WI.region {id : Nat} {l : List Oper} (h : WLI Fe P l.toArray Q (List.range l.toArray.size) n L H) : WI Fe P (.region id l.toArray false) Q n L H := fun a w hs => wpIn_region (h a w hs)
theorem WI.seq {x y : Code} (h : WI Fe P x (Exit.then (y.wpIn Fe 0 P Q) Q) n L H) : WI Fe P (.seq x y) Q n L H := fun a w hs => wpIn_seq (h a w hs)
theorem WI.block {id : Nat} {c : Code} (h : WI Fe P c (Exit.inBlock id Q) n L H) : WI Fe P (.block id c) Q n L H := fun a w hs => wpIn_block (h a w hs)
theorem WI.ret (h : WX Q .ret n L H) : WI Fe P .ret Q n L H := fun a w hs => wpIn_ret (h a w hs)
theorem WI.skip (h : WX Q .normal n L H) : WI Fe P .skip Q n L H := fun a w hs => wpIn_skip (h a w hs)
theorem WI.cond {x y : Code} {p : Prop} [Decidable p] {z : Operand} (hc : evr L z = some (.bool (decide p))) (ht : p → WI Fe P x Q n L H) (hf : ¬ p → WI Fe P y Q n L H) : WI Fe P (.cond z x y) Q n L H :=
 fun a w hs => wpIn_cond_split (hs.eval hc) (fun h => ht (of_decide_eq_true h) a w hs) (fun h => hf (of_decide_eq_false h) a w hs)
theorem WXI.next {y : Code} {Q' : Exit → Act → World → Prop} (h : WI Fe P y Q n L H) : WX (Exit.then (y.wpIn Fe 0 P Q) Q') .normal n L H := fun a w hs => h a w hs
theorem WLI.nil (h : WX Q .normal n L H) : WLI Fe P ops Q [] n L H := fun a w hs => h a w hs
theorem WLI.step {Post : Act → World → Prop} (hF : Fence.free Fe) (hi : ops[i]? = some o) (hg : o.guard = none) (hd : notDefer o.op = true)
  (ho : ∀ a w, St n L H a w → ∀ K : Act → World → Prop, (∀ a' w', Post a' w' → K a' w') → o.uponIn Fe 0 P a K Q ((execOp a.eval o).run P w)) (h : ∀ a w, Post a w → wpOpsIn Fe 0 P ops Q is a w) : WLI Fe P ops Q (i :: is) n L H := fun a w hs => by
 simp only [wpOpsIn, hi]
 rw [if_pos (by simp [Region.wanted, hg])]
 refine ⟨fun f _ => hF.1 f, ?_⟩
 rw [semAt_of hd]
 exact ho a w hs _ h
theorem WLI.v {d : Nat} {v : Value} (hF : Fence.free Fe) (hi : ops[i]? = some o) (hg : o.guard = none) (hd : notDefer o.op = true) (hv : Val P o n L H d v) (h : WLI Fe P ops Q is n (upd L d v) H) : WLI Fe P ops Q (i :: is) n L H :=
 WLI.step (Post := St n (upd L d v) H) hF hi hg hd (fun a w hs K hK => by rw [hv.run a w hs, Oper.uponIn_value, hv.dst]; exact hK _ _ ⟨hs.regs.put hv.lt v, hs.sat⟩) h
theorem WLI.alloc {d : Nat} {ty t : TypeId} {pos : String} {af : Array Edge} {sz by' : Nat} {zero : List Value} (hF : Fence.free Fe) (hi : ops[i]? = some ⟨some d, .alloc t, ty, pos, af, none⟩) (ht : TInf P t sz by' zero) (hn : d < n.n)
  (h : ∀ b, WLI Fe P ops Q is n (upd L d (.pointer (some ⟨b, 0, none⟩))) (blk b zero t :: H)) : WLI Fe P ops Q (i :: is) n L H :=
 WLI.step (Post := fun a w => ∃ b, St n (upd L d (.pointer (some ⟨b, 0, none⟩))) (blk b zero t :: H) a w) hF hi rfl rfl (fun a w hs K hK => by
  obtain ⟨i, z, hi, _, _, hz, hzz⟩ := ht.open
  have hr : (execOp a.eval ⟨some d, .alloc t, ty, pos, af, none⟩).run P w = .ok (.value (.pointer (some ⟨w.heap.size, 0, none⟩))) (w.alloc (.cells zero.toArray t)) := by
   simp [execOp, Instr.alloc, zeroValue, typeInfo, hi, hz, newVar, newRow, ← hzz]
  rw [hr, Oper.uponIn_value]
  exact hK _ _ ⟨_, hs.regs.put hn _, hs.sat.grow (blk_new w zero t) (Chg.alloc _ _ _) (fun b hb => by cases hb; exact Nat.le_refl _)⟩) fun a w ⟨b, hs⟩ => h b a w hs
theorem WLI.storeAll {ty t tb : TypeId} {pos : String} {af : Array Edge} {x y : Operand} {v : Value} {sz b : Nat} {cs : List Value} (hF : Fence.free Fe) (hi : ops[i]? = some ⟨none, .store t x y, ty, pos, af, none⟩) (hsz : (P.info? t).map (·.size) = some sz) (hx : evr L x = some (.pointer (some ⟨b, 0, none⟩))) (hy : evr L y = some v)
  (ht : Take H (blk b cs tb) F) (hl : v.cells.size = sz) (h1 : v.cells.toList.all (·.oneCell') = true) (hk : cs.length = sz) (h : WLI Fe P ops Q is n L (blk b v.cells.toList tb :: F)) : WLI Fe P ops Q (i :: is) n L H :=
 WLI.step (Post := St n L (blk b v.cells.toList tb :: F)) hF hi rfl rfl (fun a w hs K hK => by
  have hb : w.heap[b]? = some (.cells cs.toArray tb (0, 0)) := hs.sat.ok _ (ht.perm.mem_iff.2 (List.mem_cons_self ..))
  have hr : (execOp a.eval ⟨none, .store t x y, ty, pos, af, none⟩).run P w = .ok .skip (w.setRow b (pset cs 0 v.cells.toList).toArray) := by
   have hst := run_storeVar (P := P) (k := 0) (cs := cs) hsz hl h1 hb (by omega)
   simp [execOp, hs.eval hx, hs.eval hy, Instr.storeAt, Instr.sureAddr, hst]
  rw [hr, Oper.uponIn_skip]
  have hp : pset cs 0 v.cells.toList = v.cells.toList := pset_all _ _ (by simp; omega)
  have hsat := blk_store hs.sat ht (k := 0) (vs := v.cells.toList) (by simp; omega)
  rw [hp] at hsat ⊢
  exact hK _ _ ⟨hs.regs, hsat⟩) h
def Round (P : Program) (l f : Nat) (tmps : Array Value) (assign body : Code) (T : List Ch) (r : Bool) (B : List Ch) : Prop :=
 ∀ w, Sat w T → RoundIn Fence.wide 0 P l f tmps assign body w fun e w' => e = .returned (.bool r) ∧ Sat w' B ∧ Chg (MutF T) w w' ∧ ∀ c ∈ B, ∀ b, c.foot b → w.heap.size ≤ b ∨ MutF T b
theorem Round.intro {l f m : Nat} {tmps : Array Value} {assign body : Code} {T B : List Ch} {r : Bool} {rec : Loop} {L0 : List (Nat × Value)} (hready : rec.state = .ready) (hsz : tmps.size = m) (hL : ∀ d v, get L0 d = some v → tmps[d]? = some v)
  (h : ∀ w0, WI (Fence.wide.inRound l) P assign (Exit.then (fun a₁ w₁ => ∃ H1, Take H1 (objC l (.loop rec)) (H1.tail) ∧ ∃ L1, St ⟨m, []⟩ L1 H1 a₁ w₁ ∧ (WI (Fence.wide.inRound l) P body (fun e a w => ∃ st, (e = .normal ∧ r = true ∧ st = none ∨ e = .ret ∧ r = false ∧ st = some Code.ret) ∧ ∃ L2 F2, St ⟨m, []⟩ L2 (objC l (.loop { rec with state := .busy }) :: frameC w0 (MutF (objC l (.loop rec) :: T)) :: F2) a w ∧ (objC l (.loop { rec with state := if st.isNone then .ready else .done, pending := st }) :: F2) = B ∧ ∀ c ∈ F2, c.ex = true) ⟨m, []⟩ L1 (objC l (.loop { rec with state := .busy }) :: H1.tail))) (fun _ _ _ => False)) ⟨m, []⟩ L0 ((objC l (.loop rec) :: T) ++ [frameC w0 (MutF (objC l (.loop rec) :: T))])) :
  Round P l f tmps assign body (objC l (.loop rec) :: T) r B := by
 intro w hs
 have hs0 : St ⟨m, []⟩ L0 ((objC l (.loop rec) :: T) ++ [frameC w (MutF (objC l (.loop rec) :: T))]) { tmps := tmps, defers := [] } w := ⟨⟨hsz, rfl, hL⟩, by have := Sat.withFrame (D := []) (fun d hd => by cases hd) (by simpa using hs); simpa using this⟩
 refine roundIn_of_wpIn trivial (wpIn_mono (h w _ _ hs0) ?_)
 intro e a₁ w₁ he
 cases e with
 | normal =>
  obtain ⟨H1, htk, L1, hst, hbody⟩ := he
  have hobj : w₁.heap[l]? = some (.loop rec) := hst.sat.ok _ (htk.perm.mem_iff.2 (List.mem_cons_self ..))
  refine ⟨_, run_beginRound hobj hready, wpIn_mono (hbody _ _ ⟨hst.regs, obj_put hst.sat htk⟩) ?_⟩
  rintro e a w' ⟨st, hor, L2, F2, hst2, rfl, hex⟩
  have hobj2 : w'.heap[l]? = some (.loop { rec with state := .busy }) := hst2.sat.ok _ (List.mem_cons_self ..)
  have hsat3 := obj_put (o' := .loop { rec with state := if st.isNone then .ready else .done, pending := st }) hst2.sat .here
  have hsat4 : Sat (w'.putObj l (.loop { rec with state := if st.isNone then .ready else .done, pending := st })) (frameC w (MutF (objC l (.loop rec) :: T)) :: objC l (.loop { rec with state := if st.isNone then .ready else .done, pending := st }) :: F2) :=
   hsat3.perm (List.Perm.swap ..)
  have hfin := frame_new (F := []) hsat4 (fun c hc => by rcases List.mem_cons.1 hc with rfl | hc; rfl; exact hex c hc)
  rcases hor with ⟨rfl, rfl, rfl⟩ | ⟨rfl, rfl, rfl⟩
  ·exact ⟨_, _, run_endRound none hobj2, rfl, hsat4.tail, hfin⟩
  ·exact ⟨_, _, run_endRound (some .ret) hobj2, rfl, hsat4.tail, hfin⟩
 | exit id => exact he
 | goto t => exact he
 | ret => exact he
 | panic ch => exact he
 | outgrown => exact he
end
end Go.Proofs.YtkjlbedebmffgaaGreat.Sx
namespace Go.Proofs.YtkjlbedebmffgaaGreat.Sx
open Go.RowKit
section
variable {P : Program} {Q : Exit → Act → World → Prop} {n : Fr} {L L' : List (Nat × Value)} {H H' F : List Ch} {ops : Array Oper} {o : Oper} {i : Nat} {is : List Nat}
theorem WC.wide {c : Code} (h : WI Fence.wide P c Q n L H) : WC P c Q n L H := fun a w hs => wpIn_wide.1 (h a w hs)
theorem WLI.yield {d l : Nat} {ty : TypeId} {pos : String} {af : Array Edge} {fx : Operand} {zs : List Operand} {vs : List Value} {ats : Array TypeId} {rec : Loop} {T B : List Ch} {r : Bool} (hi : ops[i]? = some ⟨some d, .call { callee := .value fx, args := zs.toArray, argTypes := ats }, ty, pos, af, none⟩) (hn : d < n.n)
  (hf : evr L fx = some (.func (.yield l) #[] #[])) (hargs : zs.map (evr L) = vs.map some) (hps : rec.params.size = vs.length) (hT : Takes H (objC l (.loop rec) :: T) F)
  (hr : Round P l rec.fn ((rec.params.zip vs.toArray).foldl (fun tmps (t, a) => tmps.setIfInBounds t a) rec.tmps) rec.assign rec.body (objC l (.loop rec) :: T) r B)
  (h : WLI Fence.wide P ops Q is n (upd L d (.bool r)) (B ++ F)) : WLI Fence.wide P ops Q (i :: is) n L H :=
 WLI.step (Post := St n (upd L d (.bool r)) (B ++ F)) free_wide hi rfl rfl (fun a w hs K hK => by
  have h1 := hs.sat.takes hT
  have hobj : w.heap[l]? = some (.loop rec) := h1.ok _ (List.mem_cons_self ..)
  have e1 : zs.toArray.map a.eval = vs.toArray := by rw [List.map_toArray, evals hs zs vs hargs]
  have hrun : (execOp a.eval ⟨some d, .call { callee := .value fx, args := zs.toArray, argTypes := ats }, ty, pos, af, none⟩).run P w =
    .ok (.round l rec.fn ((rec.params.zip vs.toArray).foldl (fun tmps (t, a) => tmps.setIfInBounds t a) rec.tmps) rec.assign rec.body) w := by
   have hy := run_yield (P := P) (args := vs.toArray) hobj (by simp [hps])
   simp only [execOp, resolve, Deferred.ofValue, invoke, e1, hs.eval hf, Sem.run_bind, Sem.run_pure, Result.andThen_ok]
   simpa using hy
  rw [hrun, Oper.uponIn_round]
  refine ⟨fun h => (by cases h), (hr w h1.app_left).mono ?_⟩
  rintro e w' ⟨rfl, hB, hchg, hnew⟩
  exact hK _ _ ⟨hs.regs.put hn _, h1.frame hB hchg hnew⟩) h
theorem WC.range {m f : Nat} {g : Operand} {ps : Array Tmp} {assign body : Code} {v1 : Value} {T D : List Ch} {R : Type} {φ : R → Prop} {ret : R → Value} {B : R → List Ch} {stop : R → Bool}
  (hg : evr L g = some (.func (.func f) #[] #[v1])) (hc : Callable P f) (hG : Give H T D F)
  (hspec : ∀ (l dl fn : Nat) (tmps : Array Value), tmps.size = m → (∀ d v, get L d = some v → tmps[d]? = some v) →
   Spec P f [.func (.yield l) #[] #[], v1] (objC l (.loop ⟨.ready, none, fn, tmps, ps, assign, body, dl⟩) :: T) D φ ret (fun r => objC l (.loop ⟨if stop r then .done else .ready, if stop r then some .ret else none, fn, tmps, ps, assign, body, dl⟩) :: B r))
  (hno : ∀ r dl, φ r → stop r = false → WX Q .normal ⟨m, [⟨.collected dl, #[]⟩]⟩ L (objC dl (.deferred (some [])) :: (B r ++ F)))
  (hyes : ∀ r dl, φ r → stop r = true → WX Q .ret ⟨m, [⟨.collected dl, #[]⟩]⟩ L (objC dl (.deferred (some [])) :: (B r ++ F))) : WC P (.rangeFunc g ps assign body) Q ⟨m, []⟩ L H :=
 WC.wide fun a w hs => wpIn_rangeFunc fun fn _ => by
  have hen := run_enterLoop_outer (P := P) (w := w) fn a.tmps ps assign body
  have hs1 : Sat (w.alloc (.deferred (some []))) (objC w.heap.size (.deferred (some [])) :: H) := hs.sat.grow (heap_alloc_new w _) (Chg.alloc _ _ _) (fun b hb => by cases hb; exact Nat.le_refl _)
  have hs2 : Sat ((w.alloc (.deferred (some []))).alloc (.loop ⟨.ready, none, fn, a.tmps, ps, assign, body, w.heap.size⟩)) (objC (w.heap.size + 1) (.loop ⟨.ready, none, fn, a.tmps, ps, assign, body, w.heap.size⟩) :: objC w.heap.size (.deferred (some [])) :: H) := by
   have e : (w.alloc (.deferred (some []))).heap.size = w.heap.size + 1 := by simp
   refine hs1.grow ?_ (Chg.alloc _ _ _) (fun b hb => by cases hb; rw [e]; exact Nat.le_refl _)
   have := heap_alloc_new (w.alloc (.deferred (some []))) (.loop ⟨.ready, none, fn, a.tmps, ps, assign, body, w.heap.size⟩)
   rw [e] at this
   exact this
  have hres : (resolve a.eval (rangeCall g (w.heap.size + 1)) 0).run P ((w.alloc (.deferred (some []))).alloc (.loop ⟨.ready, none, fn, a.tmps, ps, assign, body, w.heap.size⟩)) = .ok ⟨.fn (.func f) #[v1], #[.func (.yield (w.heap.size + 1)) #[] #[]]⟩ ((w.alloc (.deferred (some []))).alloc (.loop ⟨.ready, none, fn, a.tmps, ps, assign, body, w.heap.size⟩)) := by
   simp [resolve, Deferred.ofValue, rangeCall, hs.eval hg]
   rfl
  refine ⟨_, _, _, _, _, f, #[.func (.yield (w.heap.size + 1)) #[] #[], v1], ((w.alloc (.deferred (some []))).alloc (.loop ⟨.ready, none, fn, a.tmps, ps, assign, body, w.heap.size⟩)), hen, hres, fun _ _ => trivial, ?_, fun h => (by cases h), callsIn_wide.2 ?_⟩
  ·simp [invoke, hc.run]
  ·have hsp := hspec (w.heap.size + 1) w.heap.size fn a.tmps hs.regs.size hs.regs.get
   have h3 : Sat ((w.alloc (.deferred (some []))).alloc (.loop ⟨.ready, none, fn, a.tmps, ps, assign, body, w.heap.size⟩)) ((objC (w.heap.size + 1) (.loop ⟨.ready, none, fn, a.tmps, ps, assign, body, w.heap.size⟩) :: T) ++ (objC w.heap.size (.deferred (some [])) :: F)) := by
    refine hs2.perm (List.Perm.cons _ ?_)
    exact (List.Perm.cons _ hG.t.perm).trans (List.perm_middle.symm)
   refine (hsp _ (h3.ros fun d hd => ⟨(hG.d.all d hd).1, ?_⟩)).mono ?_
   ·obtain ⟨c, hc1, hc2⟩ := (hG.d.all d hd).2
    exact ⟨c, List.mem_cons_of_mem _ hc1, hc2⟩
   ·rintro e w' ⟨r, rfl, hφ, hB, hchg, hnew⟩
    have h4 := h3.frame hB hchg hnew
    have hobj : w'.heap[w.heap.size + 1]? = some (.loop ⟨if stop r then .done else .ready, if stop r then some .ret else none, fn, a.tmps, ps, assign, body, w.heap.size⟩) := h4.ok _ (List.mem_cons_self ..)
    have hend := run_endLoop (P := P) hobj (by cases stop r <;> simp)
    have h5 := obj_put (o' := .loop { (⟨if stop r then .done else .ready, if stop r then some .ret else none, fn, a.tmps, ps, assign, body, w.heap.size⟩ : Loop) with state := .exhausted }) h4 .here
    have h6 : St ⟨m, [⟨.collected w.heap.size, #[]⟩]⟩ L (objC w.heap.size (.deferred (some [])) :: (B r ++ F)) { a with defers := [{ target := .collected w.heap.size, args := #[] }] ++ a.defers } (w'.putObj (w.heap.size + 1) (.loop { (⟨if stop r then .done else .ready, if stop r then some .ret else none, fn, a.tmps, ps, assign, body, w.heap.size⟩ : Loop) with state := .exhausted })) := by
     refine ⟨⟨hs.regs.size, ?_, hs.regs.get⟩, h5.tail.perm List.perm_middle⟩
     rw [hs.regs.defers]
     rfl
    cases hst : stop r with
    | false =>
     simp only [hst, Bool.false_eq_true, if_false] at hend h6
     exact ⟨none, _, hend, hno r _ hφ hst _ _ h6⟩
    | true =>
     simp only [hst, if_true] at hend h6
     exact ⟨some .ret, _, hend, wpIn_ret (hyes r _ hφ hst _ _ h6)⟩
def FinM (P : Program) (fn : Func) (w0 : World) (T : List Ch) {R : Type} (φ : R → Prop) (ret : R → Value) (B : R → List Ch) : Exit → Act → World → Prop
 | .normal, a, w => bodyPostM Fence.wide 0 P fn (fun e w' => ∃ r, e = .returned (ret r) ∧ φ r ∧ Sat w' (B r) ∧ Chg (MutF T) w0 w' ∧ ∀ c ∈ B r, ∀ b, c.foot b → w0.heap.size ≤ b ∨ MutF T b) .normal a w
 | .ret, a, w => bodyPostM Fence.wide 0 P fn (fun e w' => ∃ r, e = .returned (ret r) ∧ φ r ∧ Sat w' (B r) ∧ Chg (MutF T) w0 w' ∧ ∀ c ∈ B r, ∀ b, c.foot b → w0.heap.size ≤ b ∨ MutF T b) .ret a w
 | _, _, _ => False
theorem FinM.body {fn : Func} {w0 : World} {T : List Ch} {R : Type} {φ : R → Prop} {ret : R → Value} {B : R → List Ch} {e : Exit} {a : Act} {w : World} (h : FinM P fn w0 T φ ret B e a w) :
  bodyPostM Fence.wide 0 P fn (fun e w' => ∃ r, e = .returned (ret r) ∧ φ r ∧ Sat w' (B r) ∧ Chg (MutF T) w0 w' ∧ ∀ c ∈ B r, ∀ b, c.foot b → w0.heap.size ≤ b ∨ MutF T b) e a w := by
 cases e <;> first | exact h | exact h.elim
theorem Spec.introM {c : Code} {f : FuncId} {fn : Func} {args : List Value} {T D : List Ch} {R : Type} {φ : R → Prop} {ret : R → Value} {B : R → List Ch} (hf : P.funcs[f]? = some fn) {m : Nat} (hm : fn.ntmps = m) (hb : fn.body = some c)
  (hsz : args.length ≤ m) (hD : ∀ d ∈ D, d.ex = false) (h : ∀ w0, WC P c (FinM P fn w0 T φ ret B) ⟨m, []⟩ (argL 0 args) (T ++ D ++ [frameC w0 (MutF T)])) : Spec P f args T D φ ret B := by
 intro w hs
 refine callsIn_wide.1 (callsIn_of_wp_marks (n := 0) hf hb trivial (wpIn_mono (wpIn_wide.2 (h w _ w ⟨⟨?_, rfl, ?_⟩, hs.withFrame hD⟩)) fun _ _ _ h => h.body))
 ·simp [hm]; omega
 ·intro d v hv
  obtain ⟨_, h2⟩ := argL_get args 0 d v hv
  simp only [Nat.sub_zero] at h2
  have hlt := (List.getElem?_eq_some_iff.1 h2).1
  rw [Array.getElem?_append_left (by simpa using hlt)]
  simpa using h2
theorem FinM.go {m dl : Nat} {fn : Func} {w0 : World} {T : List Ch} {R : Type} {φ : R → Prop} {ret : R → Value} {B : R → List Ch} {e : Exit} (he : e = .ret ∨ e = .normal) (r : R) (hφ : φ r)
  (hres : ∀ a w, St ⟨m, []⟩ L (objC dl (.deferred none) :: F) a w → (results fn a.tmps).run P w = .ok (ret r) w) (hM : Take H (objC dl (.deferred (some []))) F) {F2 : List Ch} (hB : Takes (objC dl (.deferred none) :: F) (frameC w0 (MutF T) :: B r) F2) (hex : ∀ c ∈ B r, c.ex = true) :
  WX (FinM P fn w0 T φ ret B) e ⟨m, [⟨.collected dl, #[]⟩]⟩ L H := by
 intro a w hs
 have hobj : w.heap[dl]? = some (.deferred (some [])) := hs.sat.ok _ (hM.perm.mem_iff.2 (List.mem_cons_self ..))
 have htake := run_takeDeferred (P := P) hobj
 have h1 := obj_put (o' := .deferred none) hs.sat hM
 have h2 := (h1.takes hB).app_left
 have hnew := frame_new (F := []) h2 hex
 have hr := hres { a with defers := [] } (w.putObj dl (.deferred none)) ⟨⟨hs.regs.size, rfl, hs.regs.get⟩, h1⟩
 have hfin : LeavesInM Fence.wide 0 P fn a.tmps (fun e w' => ∃ r, e = .returned (ret r) ∧ φ r ∧ Sat w' (B r) ∧ Chg (MutF T) w0 w' ∧ ∀ c ∈ B r, ∀ b, c.foot b → w0.heap.size ≤ b ∨ MutF T b) a.defers .returning w := by
  rw [hs.regs.defers]
  exact ⟨by simp, .inl ⟨dl, _, rfl, htake, _, hr, r, rfl, hφ, h2.tail, hnew⟩⟩
 rcases he with rfl | rfl <;> exact hfin
theorem FinM.ret1 {m dl : Nat} {fn : Func} {w0 : World} {T : List Ch} {R : Type} {φ : R → Prop} {ret : R → Value} {B : R → List Ch} {e : Exit} (he : e = .ret ∨ e = .normal) (r : R) (hφ : φ r) {r1 : ResultVar}
  (hM : Take H (objC dl (.deferred (some []))) F) (hr : fn.results = #[r1]) (h1 : Res P ⟨m, []⟩ L (objC dl (.deferred none) :: F) r1 (ret r)) {F2 : List Ch} (hB : Takes (objC dl (.deferred none) :: F) (frameC w0 (MutF T) :: B r) F2) (hex : ∀ c ∈ B r, c.ex = true) : WX (FinM P fn w0 T φ ret B) e ⟨m, [⟨.collected dl, #[]⟩]⟩ L H :=
 FinM.go he r hφ (fun a w hs => by rw [results_eq, hr]; simp [h1.run a w hs]) hM hB hex
end
end Go.Proofs.YtkjlbedebmffgaaGreat.Sx
namespace Go.Proofs.YtkjlbedebmffgaaGreat.Ty
open Go.Proofs.YtkjlbedebmffgaaGreat.Sx Go.Proofs
theorem fl3 : Flat Tryz.prog 3 := Flat.mk' Tryz.underlying3 rfl
theorem fl4 : Flat Tryz.prog 4 := Flat.mk' Tryz.underlying4 rfl
theorem fl5 : Flat Tryz.prog 5 := Flat.mk' Tryz.underlying5 rfl
theorem fl29 : Flat Tryz.prog 29 := Flat.mk' Tryz.underlying29 rfl
theorem fl30 : Flat Tryz.prog 30 := Flat.mk' Tryz.underlying30 rfl
theorem ag32 : Agg Tryz.prog 32 4 := Agg.mk' Tryz.underlying32 rfl (by kernel_rfl)
theorem fl34 : Flat Tryz.prog 34 := Flat.mk' Tryz.underlying34 rfl
theorem fl35 : Flat Tryz.prog 35 := Flat.mk' Tryz.underlying35 rfl
theorem fl36 : Flat Tryz.prog 36 := Flat.mk' Tryz.underlying36 rfl
theorem fl37 : Flat Tryz.prog 37 := Flat.mk' Tryz.underlying37 rfl
theorem ag39 : Agg Tryz.prog 39 5 := Agg.mk' Tryz.underlying39 rfl (by kernel_rfl)
theorem ag41 : Agg Tryz.prog 41 9 := Agg.mk' Tryz.underlying41 rfl (by kernel_rfl)
theorem fl44 : Flat Tryz.prog 44 := Flat.mk' Tryz.underlying44 rfl
theorem ag73 : Agg Tryz.prog 73 256 := Agg.mk' Tryz.underlying73 rfl (by kernel_rfl)
theorem fl74 : Flat Tryz.prog 74 := Flat.mk' Tryz.underlying74 rfl
theorem fl75 : Flat Tryz.prog 75 := Flat.mk' Tryz.underlying75 rfl
theorem ag80 : Agg Tryz.prog 80 257 := Agg.mk' Tryz.underlying80 rfl (by kernel_rfl)
theorem ag88 : Agg Tryz.prog 88 3 := Agg.mk' Tryz.underlying88 rfl (by kernel_rfl)
theorem ag92 : Agg Tryz.prog 92 4 := Agg.mk' Tryz.underlying92 rfl (by kernel_rfl)
theorem ag104 : Agg Tryz.prog 104 4 := Agg.mk' Tryz.underlying104 rfl (by kernel_rfl)
theorem ag123 : Agg Tryz.prog 123 6 := Agg.mk' Tryz.underlying123 rfl (by kernel_rfl)
theorem ag135 : Agg Tryz.prog 135 3 := Agg.mk' Tryz.underlying135 rfl (by kernel_rfl)
theorem ag139 : Agg Tryz.prog 139 6 := Agg.mk' Tryz.underlying139 rfl (by kernel_rfl)
theorem ag144 : Agg Tryz.prog 144 4 := Agg.mk' Tryz.underlying144 rfl (by kernel_rfl)
theorem ag154 : Agg Tryz.prog 154 16 := Agg.mk' Tryz.underlying154 rfl (by kernel_rfl)
theorem fl159 : Flat Tryz.prog 159 := Flat.mk' Tryz.underlying159 rfl
theorem ag161 : Agg Tryz.prog 161 12 := Agg.mk' Tryz.underlying161 rfl (by kernel_rfl)
theorem ag169 : Agg Tryz.prog 169 32 := Agg.mk' Tryz.underlying169 rfl (by kernel_rfl)
theorem ag177 : Agg Tryz.prog 177 16 := Agg.mk' Tryz.underlying177 rfl (by kernel_rfl)
theorem fl181 : Flat Tryz.prog 181 := Flat.mk' Tryz.underlying181 rfl
theorem ag182 : Agg Tryz.prog 182 8 := Agg.mk' Tryz.underlying182 rfl (by kernel_rfl)
theorem ag183 : Agg Tryz.prog 183 64 := Agg.mk' Tryz.underlying183 rfl (by kernel_rfl)
theorem ag191 : Agg Tryz.prog 191 32 := Agg.mk' Tryz.underlying191 rfl (by kernel_rfl)
theorem ag198 : Agg Tryz.prog 198 8 := Agg.mk' Tryz.underlying198 rfl (by kernel_rfl)
theorem ag201 : Agg Tryz.prog 201 11 := Agg.mk' Tryz.underlying201 rfl (by kernel_rfl)
theorem ag205 : Agg Tryz.prog 205 16 := Agg.mk' Tryz.underlying205 rfl (by kernel_rfl)
theorem sz3 : (Tryz.prog.info? 3).map (·.size) = some 1 := by kernel_rfl
theorem sz4 : (Tryz.prog.info? 4).map (·.size) = some 1 := by kernel_rfl
theorem sz5 : (Tryz.prog.info? 5).map (·.size) = some 1 := by kernel_rfl
theorem sz30 : (Tryz.prog.info? 30).map (·.size) = some 1 := by kernel_rfl
theorem sz32 : (Tryz.prog.info? 32).map (·.size) = some 4 := by kernel_rfl
theorem sz35 : (Tryz.prog.info? 35).map (·.size) = some 1 := by kernel_rfl
theorem sz36 : (Tryz.prog.info? 36).map (·.size) = some 1 := by kernel_rfl
theorem sz37 : (Tryz.prog.info? 37).map (·.size) = some 1 := by kernel_rfl
theorem sz39 : (Tryz.prog.info? 39).map (·.size) = some 5 := by kernel_rfl
theorem sz41 : (Tryz.prog.info? 41).map (·.size) = some 9 := by kernel_rfl
theorem sz44 : (Tryz.prog.info? 44).map (·.size) = some 1 := by kernel_rfl
theorem sz73 : (Tryz.prog.info? 73).map (·.size) = some 256 := by kernel_rfl
theorem sz75 : (Tryz.prog.info? 75).map (·.size) = some 1 := by kernel_rfl
theorem sz80 : (Tryz.prog.info? 80).map (·.size) = some 257 := by kernel_rfl
theorem sz84 : (Tryz.prog.info? 84).map (·.size) = some 2 := by kernel_rfl
theorem sz88 : (Tryz.prog.info? 88).map (·.size) = some 3 := by kernel_rfl
theorem sz92 : (Tryz.prog.info? 92).map (·.size) = some 4 := by kernel_rfl
theorem sz100 : (Tryz.prog.info? 100).map (·.size) = some 2 := by kernel_rfl
theorem sz104 : (Tryz.prog.info? 104).map (·.size) = some 4 := by kernel_rfl
theorem sz123 : (Tryz.prog.info? 123).map (·.size) = some 6 := by kernel_rfl
theorem sz135 : (Tryz.prog.info? 135).map (·.size) = some 3 := by kernel_rfl
theorem sz139 : (Tryz.prog.info? 139).map (·.size) = some 6 := by kernel_rfl
theorem sz144 : (Tryz.prog.info? 144).map (·.size) = some 4 := by kernel_rfl
theorem sz154 : (Tryz.prog.info? 154).map (·.size) = some 16 := by kernel_rfl
theorem sz158 : (Tryz.prog.info? 158).map (·.size) = some 7 := by kernel_rfl
theorem sz160 : (Tryz.prog.info? 160).map (·.size) = some 2 := by kernel_rfl
theorem sz161 : (Tryz.prog.info? 161).map (·.size) = some 12 := by kernel_rfl
theorem sz169 : (Tryz.prog.info? 169).map (·.size) = some 32 := by kernel_rfl
theorem sz177 : (Tryz.prog.info? 177).map (·.size) = some 16 := by kernel_rfl
theorem sz181 : (Tryz.prog.info? 181).map (·.size) = some 1 := by kernel_rfl
theorem sz182 : (Tryz.prog.info? 182).map (·.size) = some 8 := by kernel_rfl
theorem sz183 : (Tryz.prog.info? 183).map (·.size) = some 64 := by kernel_rfl
theorem sz191 : (Tryz.prog.info? 191).map (·.size) = some 32 := by kernel_rfl
theorem sz198 : (Tryz.prog.info? 198).map (·.size) = some 8 := by kernel_rfl
theorem sz201 : (Tryz.prog.info? 201).map (·.size) = some 11 := by kernel_rfl
theorem sz205 : (Tryz.prog.info? 205).map (·.size) = some 16 := by kernel_rfl
theorem ti5 : TInf Tryz.prog 5 1 1 [.int .u8 0] := by unfold TInf; kernel_rfl
theorem ti30 : TInf Tryz.prog 30 1 24 [.slice none 0 0] := by unfold TInf; kernel_rfl
theorem ti32 : TInf Tryz.prog 32 4 32 [.int .u8 0, .int .u16 0, .int .u8 0, .slice none 0 0] := by unfold TInf; kernel_rfl
theorem ti39 : TInf Tryz.prog 39 5 72 [.slice none 0 0, .slice none 0 0, .int .i64 0, .bool false, .int .i64 0] := by unfold TInf; kernel_rfl
theorem ti41 : TInf Tryz.prog 41 9 88 [.int .i64 0, .int .i64 0, .int .i64 0, .int .i64 0, .int .i64 0, .int .i64 0, .slice none 0 0, .int .i64 0, .int .i64 0] := by unfold TInf; kernel_rfl
theorem ti44 : TInf Tryz.prog 44 1 8 [.int .i64 0] := by unfold TInf; kernel_rfl
theorem ti73 : TInf Tryz.prog 73 256 256 (List.replicate 256 (.int .u8 0)) := by unfold TInf; kernel_rfl
theorem ti80 : TInf Tryz.prog 80 257 264 [.int .i64 0, .int .u8 0, .int .u8 0, .int .u8 0, .int .u8 0, .int .u8 0, .int .u8 0, .int .u8 0, .int .u8 0, .int .u8 0, .int .u8 0, .int .u8 0, .int .u8 0, .int .u8 0, .int .u8 0, .int .u8 0, .int .u8 0, .int .u8 0, .int .u8 0, .int .u8 0, .int .u8 0, .int .u8 0, .int .u8 0, .int .u8 0, .int .u8 0, .int .u8 0, .int .u8 0, .int .u8 0, .int .u8 0, .int .u8 0, .int .u8 0, .int .u8 0, .int .u8 0, .int .u8 0, .int .u8 0, .int .u8 0, .int .u8 0, .int .u8 0, .int .u8 0, .int .u8 0, .int .u8 0, .int .u8 0, .int .u8 0, .int .u8 0, .int .u8 0, .int .u8 0, .int .u8 0, .int .u8 0, .int .u8 0, .int .u8 0, .int .u8 0, .int .u8 0, .int .u8 0, .int .u8 0, .int .u8 0, .int .u8 0, .int .u8 0, .int .u8 0, .int .u8 0, .int .u8 0, .int .u8 0, .int .u8 0, .int .u8 0, .int .u8 0, .int .u8 0, .int .u8 0, .int .u8 0, .int .u8 0, .int .u8 0, .int .u8 0, .int .u8 0, .int .u8 0, .int .u8 0, .int .u8 0, .int .u8 0, .int .u8 0, .int .u8 0, .int .u8 0, .int .u8 0, .int .u8 0, .int .u8 0, .int .u8 0, .int .u8 0, .int .u8 0, .int .u8 0, .int .u8 0, .int .u8 0, .int .u8 0, .int .u8 0, .int .u8 0, .int .u8 0, .int .u8 0, .int .u8 0, .int .u8 0, .int .u8 0, .int .u8 0, .int .u8 0, .int .u8 0, .int .u8 0, .int .u8 0, .int .u8 0, .int .u8 0, .int .u8 0, .int .u8 0, .int .u8 0, .int .u8 0, .int .u8 0, .int .u8 0, .int .u8 0, .int .u8 0, .int .u8 0, .int .u8 0, .int .u8 0, .int .u8 0, .int .u8 0, .int .u8 0, .int .u8 0, .int .u8 0, .int .u8 0, .int .u8 0, .int .u8 0, .int .u8 0, .int .u8 0, .int .u8 0, .int .u8 0, .int .u8 0, .int .u8 0, .int .u8 0, .int .u8 0, .int .u8 0, .int .u8 0, .int .u8 0, .int .u8 0, .int .u8 0, .int .u8 0, .int .u8 0, .int .u8 0, .int .u8 0, .int .u8 0, .int .u8 0, .int .u8 0, .int .u8 0, .int .u8 0, .int .u8 0, .int .u8 0, .int .u8 0, .int .u8 0, .int .u8 0, .int .u8 0, .int .u8 0, .int .u8 0, .int .u8 0, .int .u8 0, .int .u8 0, .int .u8 0, .int .u8 0, .int .u8 0, .int .u8 0, .int .u8 0, .int .u8 0, .int .u8 0, .int .u8 0, .int .u8 0, .int .u8 0, .int .u8 0, .int .u8 0, .int .u8 0, .int .u8 0, .int .u8 0, .int .u8 0, .int .u8 0, .int .u8 0, .int .u8 0, .int .u8 0, .int .u8 0, .int .u8 0, .int .u8 0, .int .u8 0, .int .u8 0, .int .u8 0, .int .u8 0, .int .u8 0, .int .u8 0, .int .u8 0, .int .u8 0, .int .u8 0, .int .u8 0, .int .u8 0, .int .u8 0, .int .u8 0, .int .u8 0, .int .u8 0, .int .u8 0, .int .u8 0, .int .u8 0, .int .u8 0, .int .u8 0, .int .u8 0, .int .u8 0, .int .u8 0, .int .u8 0, .int .u8 0, .int .u8 0, .int .u8 0, .int .u8 0, .int .u8 0, .int .u8 0, .int .u8 0, .int .u8 0, .int .u8 0, .int .u8 0, .int .u8 0, .int .u8 0, .int .u8 0, .int .u8 0, .int .u8 0, .int .u8 0, .int .u8 0, .int .u8 0, .int .u8 0, .int .u8 0, .int .u8 0, .int .u8 0, .int .u8 0, .int .u8 0, .int .u8 0, .int .u8 0, .int .u8 0, .int .u8 0, .int .u8 0, .int .u8 0, .int .u8 0, .int .u8 0, .int .u8 0, .int .u8 0, .int .u8 0, .int .u8 0, .int .u8 0, .int .u8 0, .int .u8 0, .int .u8 0, .int .u8 0, .int .u8 0, .int .u8 0, .int .u8 0, .int .u8 0, .int .u8 0, .int .u8 0, .int .u8 0, .int .u8 0, .int .u8 0, .int .u8 0, .int .u8 0, .int .u8 0, .int .u8 0, .int .u8 0, .int .u8 0] := by unfold TInf; kernel_rfl
theorem ti84 : TInf Tryz.prog 84 2 32 [.int .i64 0, .slice none 0 0] := by unfold TInf; kernel_rfl
theorem ti88 : TInf Tryz.prog 88 3 24 [.pointer none, .int .i64 0, .int .i64 0] := by unfold TInf; kernel_rfl
theorem ti92 : TInf Tryz.prog 92 4 48 [.bool false, .int .i64 0, .int .i64 0, .slice none 0 0] := by unfold TInf; kernel_rfl
theorem ti100 : TInf Tryz.prog 100 2 32 [.int .i64 0, .slice none 0 0] := by unfold TInf; kernel_rfl
theorem ti104 : TInf Tryz.prog 104 4 48 [.int .i64 0, .int .i64 0, .int .i64 0, .slice none 0 0] := by unfold TInf; kernel_rfl
theorem ti123 : TInf Tryz.prog 123 6 64 [.int .i64 0, .int .i64 0, .int .i64 0, .int .i64 0, .int .i64 0, .slice none 0 0] := by unfold TInf; kernel_rfl
theorem ti135 : TInf Tryz.prog 135 3 24 [.int .i64 0, .int .i64 0, .int .i64 0] := by unfold TInf; kernel_rfl
theorem ti139 : TInf Tryz.prog 139 6 64 [.int .i64 0, .int .i64 0, .int .i64 0, .int .i64 0, .int .i64 0, .slice none 0 0] := by unfold TInf; kernel_rfl
theorem ti144 : TInf Tryz.prog 144 4 48 [.int .i64 0, .int .i64 0, .int .i64 0, .slice none 0 0] := by unfold TInf; kernel_rfl
theorem ti154 : TInf Tryz.prog 154 16 16 (List.replicate 16 (.int .u8 0)) := by unfold TInf; kernel_rfl
theorem ti158 : TInf Tryz.prog 158 7 72 [.int .i64 0, .int .i64 0, .int .i64 0, .int .i64 0, .int .i64 0, .slice none 0 0, .int .i64 0] := by unfold TInf; kernel_rfl
theorem ti160 : TInf Tryz.prog 160 2 16 [.pointer none, .int .i64 0] := by unfold TInf; kernel_rfl
theorem ti161 : TInf Tryz.prog 161 12 96 [.pointer none, .int .i64 0, .pointer none, .int .i64 0, .pointer none, .int .i64 0, .pointer none, .int .i64 0, .pointer none, .int .i64 0, .pointer none, .int .i64 0] := by unfold TInf; kernel_rfl
theorem ti169 : TInf Tryz.prog 169 32 32 (List.replicate 32 (.int .u8 0)) := by unfold TInf; kernel_rfl
theorem ti177 : TInf Tryz.prog 177 16 16 (List.replicate 16 (.int .u8 0)) := by unfold TInf; kernel_rfl
theorem ti182 : TInf Tryz.prog 182 8 32 [.int .u32 0, .int .u32 0, .int .u32 0, .int .u32 0, .int .u32 0, .int .u32 0, .int .u32 0, .int .u32 0] := by unfold TInf; kernel_rfl
theorem ti183 : TInf Tryz.prog 183 64 256 (List.replicate 64 (.int .u32 0)) := by unfold TInf; kernel_rfl
theorem ti191 : TInf Tryz.prog 191 32 32 (List.replicate 32 (.int .u8 0)) := by unfold TInf; kernel_rfl
theorem ti198 : TInf Tryz.prog 198 8 32 [.int .u32 0, .int .u32 0, .int .u32 0, .int .u32 0, .int .u32 0, .int .u32 0, .int .u32 0, .int .u32 0] := by unfold TInf; kernel_rfl
theorem ti201 : TInf Tryz.prog 201 11 72 [.int .u32 0, .int .u32 0, .int .u32 0, .int .u32 0, .int .u32 0, .int .u32 0, .int .u32 0, .int .u32 0, .slice none 0 0, .int .i64 0, .bool false] := by unfold TInf; kernel_rfl
theorem ti205 : TInf Tryz.prog 205 16 64 (List.replicate 16 (.int .u32 0)) := by unfold TInf; kernel_rfl
theorem fo32_0 : FOff Tryz.prog 32 0 0 := FOff.mk' Tryz.underlying32 rfl rfl (by kernel_rfl)
theorem fo32_1 : FOff Tryz.prog 32 1 1 := FOff.mk' Tryz.underlying32 rfl rfl (by kernel_rfl)
theorem fo32_2 : FOff Tryz.prog 32 2 2 := FOff.mk' Tryz.underlying32 rfl rfl (by kernel_rfl)
theorem fo32_3 : FOff Tryz.prog 32 3 3 := FOff.mk' Tryz.underlying32 rfl rfl (by kernel_rfl)
theorem fo39_0 : FOff Tryz.prog 39 0 0 := FOff.mk' Tryz.underlying39 rfl rfl (by kernel_rfl)
theorem fo39_1 : FOff Tryz.prog 39 1 1 := FOff.mk' Tryz.underlying39 rfl rfl (by kernel_rfl)
theorem fo39_2 : FOff Tryz.prog 39 2 2 := FOff.mk' Tryz.underlying39 rfl rfl (by kernel_rfl)
theorem fo39_3 : FOff Tryz.prog 39 3 3 := FOff.mk' Tryz.underlying39 rfl rfl (by kernel_rfl)
theorem fo39_4 : FOff Tryz.prog 39 4 4 := FOff.mk' Tryz.underlying39 rfl rfl (by kernel_rfl)
theorem fo41_0 : FOff Tryz.prog 41 0 0 := FOff.mk' Tryz.underlying41 rfl rfl (by kernel_rfl)
theorem fo41_1 : FOff Tryz.prog 41 1 1 := FOff.mk' Tryz.underlying41 rfl rfl (by kernel_rfl)
theorem fo41_2 : FOff Tryz.prog 41 2 2 := FOff.mk' Tryz.underlying41 rfl rfl (by kernel_rfl)
theorem fo41_3 : FOff Tryz.prog 41 3 3 := FOff.mk' Tryz.underlying41 rfl rfl (by kernel_rfl)
theorem fo41_4 : FOff Tryz.prog 41 4 4 := FOff.mk' Tryz.underlying41 rfl rfl (by kernel_rfl)
theorem fo41_5 : FOff Tryz.prog 41 5 5 := FOff.mk' Tryz.underlying41 rfl rfl (by kernel_rfl)
theorem fo41_6 : FOff Tryz.prog 41 6 6 := FOff.mk' Tryz.underlying41 rfl rfl (by kernel_rfl)
theorem fo41_7 : FOff Tryz.prog 41 7 7 := FOff.mk' Tryz.underlying41 rfl rfl (by kernel_rfl)
theorem fo41_8 : FOff Tryz.prog 41 8 8 := FOff.mk' Tryz.underlying41 rfl rfl (by kernel_rfl)
theorem fo43_0 : FOff Tryz.prog 43 0 0 := FOff.mk' Tryz.underlying43 rfl rfl (by kernel_rfl)
theorem fo43_1 : FOff Tryz.prog 43 1 1 := FOff.mk' Tryz.underlying43 rfl rfl (by kernel_rfl)
theorem fo43_2 : FOff Tryz.prog 43 2 2 := FOff.mk' Tryz.underlying43 rfl rfl (by kernel_rfl)
theorem fo43_3 : FOff Tryz.prog 43 3 7 := FOff.mk' Tryz.underlying43 rfl rfl (by kernel_rfl)
theorem fo43_4 : FOff Tryz.prog 43 4 16 := FOff.mk' Tryz.underlying43 rfl rfl (by kernel_rfl)
theorem fo77_0 : FOff Tryz.prog 77 0 0 := FOff.mk' Tryz.underlying77 rfl rfl (by kernel_rfl)
theorem fo77_1 : FOff Tryz.prog 77 1 1 := FOff.mk' Tryz.underlying77 rfl rfl (by kernel_rfl)
theorem fo77_2 : FOff Tryz.prog 77 2 2 := FOff.mk' Tryz.underlying77 rfl rfl (by kernel_rfl)
theorem fo77_3 : FOff Tryz.prog 77 3 3 := FOff.mk' Tryz.underlying77 rfl rfl (by kernel_rfl)
theorem fo77_4 : FOff Tryz.prog 77 4 4 := FOff.mk' Tryz.underlying77 rfl rfl (by kernel_rfl)
theorem fo77_5 : FOff Tryz.prog 77 5 5 := FOff.mk' Tryz.underlying77 rfl rfl (by kernel_rfl)
theorem fo77_6 : FOff Tryz.prog 77 6 6 := FOff.mk' Tryz.underlying77 rfl rfl (by kernel_rfl)
theorem fo80_0 : FOff Tryz.prog 80 0 0 := FOff.mk' Tryz.underlying80 rfl rfl (by kernel_rfl)
theorem fo80_1 : FOff Tryz.prog 80 1 1 := FOff.mk' Tryz.underlying80 rfl rfl (by kernel_rfl)
theorem fo84_0 : FOff Tryz.prog 84 0 0 := FOff.mk' Tryz.underlying84 rfl rfl (by kernel_rfl)
theorem fo84_1 : FOff Tryz.prog 84 1 1 := FOff.mk' Tryz.underlying84 rfl rfl (by kernel_rfl)
theorem fo88_0 : FOff Tryz.prog 88 0 0 := FOff.mk' Tryz.underlying88 rfl rfl (by kernel_rfl)
theorem fo88_1 : FOff Tryz.prog 88 1 1 := FOff.mk' Tryz.underlying88 rfl rfl (by kernel_rfl)
theorem fo88_2 : FOff Tryz.prog 88 2 2 := FOff.mk' Tryz.underlying88 rfl rfl (by kernel_rfl)
theorem fo92_0 : FOff Tryz.prog 92 0 0 := FOff.mk' Tryz.underlying92 rfl rfl (by kernel_rfl)
theorem fo92_1 : FOff Tryz.prog 92 1 1 := FOff.mk' Tryz.underlying92 rfl rfl (by kernel_rfl)
theorem fo92_2 : FOff Tryz.prog 92 2 2 := FOff.mk' Tryz.underlying92 rfl rfl (by kernel_rfl)
theorem fo92_3 : FOff Tryz.prog 92 3 3 := FOff.mk' Tryz.underlying92 rfl rfl (by kernel_rfl)
theorem fo96_0 : FOff Tryz.prog 96 0 0 := FOff.mk' Tryz.underlying96 rfl rfl (by kernel_rfl)
theorem fo96_1 : FOff Tryz.prog 96 1 3 := FOff.mk' Tryz.underlying96 rfl rfl (by kernel_rfl)
theorem fo96_2 : FOff Tryz.prog 96 2 4 := FOff.mk' Tryz.underlying96 rfl rfl (by kernel_rfl)
theorem fo96_3 : FOff Tryz.prog 96 3 5 := FOff.mk' Tryz.underlying96 rfl rfl (by kernel_rfl)
theorem fo96_4 : FOff Tryz.prog 96 4 6 := FOff.mk' Tryz.underlying96 rfl rfl (by kernel_rfl)
theorem fo96_5 : FOff Tryz.prog 96 5 7 := FOff.mk' Tryz.underlying96 rfl rfl (by kernel_rfl)
theorem fo96_6 : FOff Tryz.prog 96 6 8 := FOff.mk' Tryz.underlying96 rfl rfl (by kernel_rfl)
theorem fo96_7 : FOff Tryz.prog 96 7 9 := FOff.mk' Tryz.underlying96 rfl rfl (by kernel_rfl)
theorem fo100_0 : FOff Tryz.prog 100 0 0 := FOff.mk' Tryz.underlying100 rfl rfl (by kernel_rfl)
theorem fo100_1 : FOff Tryz.prog 100 1 1 := FOff.mk' Tryz.underlying100 rfl rfl (by kernel_rfl)
theorem fo104_0 : FOff Tryz.prog 104 0 0 := FOff.mk' Tryz.underlying104 rfl rfl (by kernel_rfl)
theorem fo104_1 : FOff Tryz.prog 104 1 1 := FOff.mk' Tryz.underlying104 rfl rfl (by kernel_rfl)
theorem fo104_2 : FOff Tryz.prog 104 2 2 := FOff.mk' Tryz.underlying104 rfl rfl (by kernel_rfl)
theorem fo104_3 : FOff Tryz.prog 104 3 3 := FOff.mk' Tryz.underlying104 rfl rfl (by kernel_rfl)
theorem fo123_0 : FOff Tryz.prog 123 0 0 := FOff.mk' Tryz.underlying123 rfl rfl (by kernel_rfl)
theorem fo123_1 : FOff Tryz.prog 123 1 1 := FOff.mk' Tryz.underlying123 rfl rfl (by kernel_rfl)
theorem fo123_2 : FOff Tryz.prog 123 2 2 := FOff.mk' Tryz.underlying123 rfl rfl (by kernel_rfl)
theorem fo123_3 : FOff Tryz.prog 123 3 3 := FOff.mk' Tryz.underlying123 rfl rfl (by kernel_rfl)
theorem fo123_4 : FOff Tryz.prog 123 4 4 := FOff.mk' Tryz.underlying123 rfl rfl (by kernel_rfl)
theorem fo123_5 : FOff Tryz.prog 123 5 5 := FOff.mk' Tryz.underlying123 rfl rfl (by kernel_rfl)
theorem fo135_0 : FOff Tryz.prog 135 0 0 := FOff.mk' Tryz.underlying135 rfl rfl (by kernel_rfl)
theorem fo135_1 : FOff Tryz.prog 135 1 1 := FOff.mk' Tryz.underlying135 rfl rfl (by kernel_rfl)
theorem fo135_2 : FOff Tryz.prog 135 2 2 := FOff.mk' Tryz.underlying135 rfl rfl (by kernel_rfl)
theorem fo139_0 : FOff Tryz.prog 139 0 0 := FOff.mk' Tryz.underlying139 rfl rfl (by kernel_rfl)
theorem fo139_1 : FOff Tryz.prog 139 1 1 := FOff.mk' Tryz.underlying139 rfl rfl (by kernel_rfl)
theorem fo139_2 : FOff Tryz.prog 139 2 2 := FOff.mk' Tryz.underlying139 rfl rfl (by kernel_rfl)
theorem fo139_3 : FOff Tryz.prog 139 3 3 := FOff.mk' Tryz.underlying139 rfl rfl (by kernel_rfl)
theorem fo139_4 : FOff Tryz.prog 139 4 4 := FOff.mk' Tryz.underlying139 rfl rfl (by kernel_rfl)
theorem fo139_5 : FOff Tryz.prog 139 5 5 := FOff.mk' Tryz.underlying139 rfl rfl (by kernel_rfl)
theorem fo144_0 : FOff Tryz.prog 144 0 0 := FOff.mk' Tryz.underlying144 rfl rfl (by kernel_rfl)
theorem fo144_1 : FOff Tryz.prog 144 1 1 := FOff.mk' Tryz.underlying144 rfl rfl (by kernel_rfl)
theorem fo144_2 : FOff Tryz.prog 144 2 2 := FOff.mk' Tryz.underlying144 rfl rfl (by kernel_rfl)
theorem fo144_3 : FOff Tryz.prog 144 3 3 := FOff.mk' Tryz.underlying144 rfl rfl (by kernel_rfl)
theorem fo158_0 : FOff Tryz.prog 158 0 0 := FOff.mk' Tryz.underlying158 rfl rfl (by kernel_rfl)
theorem fo158_1 : FOff Tryz.prog 158 1 6 := FOff.mk' Tryz.underlying158 rfl rfl (by kernel_rfl)
theorem fo160_0 : FOff Tryz.prog 160 0 0 := FOff.mk' Tryz.underlying160 rfl rfl (by kernel_rfl)
theorem fo160_1 : FOff Tryz.prog 160 1 1 := FOff.mk' Tryz.underlying160 rfl rfl (by kernel_rfl)
theorem fo198_0 : FOff Tryz.prog 198 0 0 := FOff.mk' Tryz.underlying198 rfl rfl (by kernel_rfl)
theorem fo198_1 : FOff Tryz.prog 198 1 1 := FOff.mk' Tryz.underlying198 rfl rfl (by kernel_rfl)
theorem fo198_2 : FOff Tryz.prog 198 2 2 := FOff.mk' Tryz.underlying198 rfl rfl (by kernel_rfl)
theorem fo198_3 : FOff Tryz.prog 198 3 3 := FOff.mk' Tryz.underlying198 rfl rfl (by kernel_rfl)
theorem fo198_4 : FOff Tryz.prog 198 4 4 := FOff.mk' Tryz.underlying198 rfl rfl (by kernel_rfl)
theorem fo198_5 : FOff Tryz.prog 198 5 5 := FOff.mk' Tryz.underlying198 rfl rfl (by kernel_rfl)
theorem fo198_6 : FOff Tryz.prog 198 6 6 := FOff.mk' Tryz.underlying198 rfl rfl (by kernel_rfl)
theorem fo198_7 : FOff Tryz.prog 198 7 7 := FOff.mk' Tryz.underlying198 rfl rfl (by kernel_rfl)
theorem fo201_0 : FOff Tryz.prog 201 0 0 := FOff.mk' Tryz.underlying201 rfl rfl (by kernel_rfl)
theorem fo201_1 : FOff Tryz.prog 201 1 8 := FOff.mk' Tryz.underlying201 rfl rfl (by kernel_rfl)
theorem fo201_2 : FOff Tryz.prog 201 2 9 := FOff.mk' Tryz.underlying201 rfl rfl (by kernel_rfl)
theorem fo201_3 : FOff Tryz.prog 201 3 10 := FOff.mk' Tryz.underlying201 rfl rfl (by kernel_rfl)
theorem ca4 : Callable Tryz.prog 4 := by unfold Callable; kernel_rfl
theorem ca5 : Callable Tryz.prog 5 := by unfold Callable; kernel_rfl
theorem ca6 : Callable Tryz.prog 6 := by unfold Callable; kernel_rfl
theorem ca7 : Callable Tryz.prog 7 := by unfold Callable; kernel_rfl
theorem ca8 : Callable Tryz.prog 8 := by unfold Callable; kernel_rfl
theorem ca9 : Callable Tryz.prog 9 := by unfold Callable; kernel_rfl
theorem ca10 : Callable Tryz.prog 10 := by unfold Callable; kernel_rfl
theorem ca11 : Callable Tryz.prog 11 := by unfold Callable; kernel_rfl
theorem ca12 : Callable Tryz.prog 12 := by unfold Callable; kernel_rfl
theorem ca13 : Callable Tryz.prog 13 := by unfold Callable; kernel_rfl
theorem ca14 : Callable Tryz.prog 14 := by unfold Callable; kernel_rfl
theorem ca15 : Callable Tryz.prog 15 := by unfold Callable; kernel_rfl
theorem ca16 : Callable Tryz.prog 16 := by unfold Callable; kernel_rfl
theorem ca17 : Callable Tryz.prog 17 := by unfold Callable; kernel_rfl
theorem ca18 : Callable Tryz.prog 18 := by unfold Callable; kernel_rfl
theorem ca19 : Callable Tryz.prog 19 := by unfold Callable; kernel_rfl
theorem ca20 : Callable Tryz.prog 20 := by unfold Callable; kernel_rfl
theorem ca21 : Callable Tryz.prog 21 := by unfold Callable; kernel_rfl
theorem ca25 : Callable Tryz.prog 25 := by unfold Callable; kernel_rfl
theorem ca26 : Callable Tryz.prog 26 := by unfold Callable; kernel_rfl
theorem ca27 : Callable Tryz.prog 27 := by unfold Callable; kernel_rfl
theorem ca28 : Callable Tryz.prog 28 := by unfold Callable; kernel_rfl
theorem ca29 : Callable Tryz.prog 29 := by unfold Callable; kernel_rfl
theorem ca31 : Callable Tryz.prog 31 := by unfold Callable; kernel_rfl
theorem ca32 : Callable Tryz.prog 32 := by unfold Callable; kernel_rfl
theorem ca33 : Callable Tryz.prog 33 := by unfold Callable; kernel_rfl
theorem ca34 : Callable Tryz.prog 34 := by unfold Callable; kernel_rfl
theorem ca35 : Callable Tryz.prog 35 := by unfold Callable; kernel_rfl
theorem ca36 : Callable Tryz.prog 36 := by unfold Callable; kernel_rfl
theorem ca37 : Callable Tryz.prog 37 := by unfold Callable; kernel_rfl
theorem ca38 : Callable Tryz.prog 38 := by unfold Callable; kernel_rfl
theorem ca39 : Callable Tryz.prog 39 := by unfold Callable; kernel_rfl
theorem ca40 : Callable Tryz.prog 40 := by unfold Callable; kernel_rfl
theorem ca41 : Callable Tryz.prog 41 := by unfold Callable; kernel_rfl
theorem ca42 : Callable Tryz.prog 42 := by unfold Callable; kernel_rfl
theorem ca43 : Callable Tryz.prog 43 := by unfold Callable; kernel_rfl
theorem ca44 : Callable Tryz.prog 44 := by unfold Callable; kernel_rfl
theorem ca45 : Callable Tryz.prog 45 := by unfold Callable; kernel_rfl
theorem ca46 : Callable Tryz.prog 46 := by unfold Callable; kernel_rfl
theorem ca47 : Callable Tryz.prog 47 := by unfold Callable; kernel_rfl
theorem ca48 : Callable Tryz.prog 48 := by unfold Callable; kernel_rfl
theorem ca49 : Callable Tryz.prog 49 := by unfold Callable; kernel_rfl
theorem ca50 : Callable Tryz.prog 50 := by unfold Callable; kernel_rfl
theorem ca51 : Callable Tryz.prog 51 := by unfold Callable; kernel_rfl
theorem ca52 : Callable Tryz.prog 52 := by unfold Callable; kernel_rfl
theorem ca54 : Callable Tryz.prog 54 := by unfold Callable; kernel_rfl
theorem ca55 : Callable Tryz.prog 55 := by unfold Callable; kernel_rfl
theorem ca56 : Callable Tryz.prog 56 := by unfold Callable; kernel_rfl
theorem ca57 : Callable Tryz.prog 57 := by unfold Callable; kernel_rfl
theorem ca58 : Callable Tryz.prog 58 := by unfold Callable; kernel_rfl
theorem ca59 : Callable Tryz.prog 59 := by unfold Callable; kernel_rfl
theorem ca60 : Callable Tryz.prog 60 := by unfold Callable; kernel_rfl
theorem ca61 : Callable Tryz.prog 61 := by unfold Callable; kernel_rfl
theorem ca62 : Callable Tryz.prog 62 := by unfold Callable; kernel_rfl
theorem ca63 : Callable Tryz.prog 63 := by unfold Callable; kernel_rfl
theorem ca64 : Callable Tryz.prog 64 := by unfold Callable; kernel_rfl
theorem ca65 : Callable Tryz.prog 65 := by unfold Callable; kernel_rfl
theorem ca66 : Callable Tryz.prog 66 := by unfold Callable; kernel_rfl
theorem ca67 : Callable Tryz.prog 67 := by unfold Callable; kernel_rfl
theorem ca69 : Callable Tryz.prog 69 := by unfold Callable; kernel_rfl
theorem ca70 : Callable Tryz.prog 70 := by unfold Callable; kernel_rfl
theorem ca71 : Callable Tryz.prog 71 := by unfold Callable; kernel_rfl
theorem ca72 : Callable Tryz.prog 72 := by unfold Callable; kernel_rfl
theorem ca73 : Callable Tryz.prog 73 := by unfold Callable; kernel_rfl
theorem ca74 : Callable Tryz.prog 74 := by unfold Callable; kernel_rfl
theorem ca75 : Callable Tryz.prog 75 := by unfold Callable; kernel_rfl
theorem ca79 : Callable Tryz.prog 79 := by unfold Callable; kernel_rfl
theorem ca80 : Callable Tryz.prog 80 := by unfold Callable; kernel_rfl
theorem ca81 : Callable Tryz.prog 81 := by unfold Callable; kernel_rfl
theorem ca82 : Callable Tryz.prog 82 := by unfold Callable; kernel_rfl
theorem ca83 : Callable Tryz.prog 83 := by unfold Callable; kernel_rfl
theorem ca84 : Callable Tryz.prog 84 := by unfold Callable; kernel_rfl
theorem ca85 : Callable Tryz.prog 85 := by unfold Callable; kernel_rfl
theorem ca86 : Callable Tryz.prog 86 := by unfold Callable; kernel_rfl
theorem ca87 : Callable Tryz.prog 87 := by unfold Callable; kernel_rfl
theorem ca88 : Callable Tryz.prog 88 := by unfold Callable; kernel_rfl
theorem ca89 : Callable Tryz.prog 89 := by unfold Callable; kernel_rfl
theorem ca90 : Callable Tryz.prog 90 := by unfold Callable; kernel_rfl
theorem ca91 : Callable Tryz.prog 91 := by unfold Callable; kernel_rfl
theorem ca92 : Callable Tryz.prog 92 := by unfold Callable; kernel_rfl
theorem ca93 : Callable Tryz.prog 93 := by unfold Callable; kernel_rfl
theorem ca94 : Callable Tryz.prog 94 := by unfold Callable; kernel_rfl
theorem ca95 : Callable Tryz.prog 95 := by unfold Callable; kernel_rfl
theorem ca96 : Callable Tryz.prog 96 := by unfold Callable; kernel_rfl
theorem ca97 : Callable Tryz.prog 97 := by unfold Callable; kernel_rfl
theorem ca98 : Callable Tryz.prog 98 := by unfold Callable; kernel_rfl
theorem ca99 : Callable Tryz.prog 99 := by unfold Callable; kernel_rfl
theorem ca100 : Callable Tryz.prog 100 := by unfold Callable; kernel_rfl
theorem ca101 : Callable Tryz.prog 101 := by unfold Callable; kernel_rfl
theorem ca102 : Callable Tryz.prog 102 := by unfold Callable; kernel_rfl
theorem ca103 : Callable Tryz.prog 103 := by unfold Callable; kernel_rfl
theorem ca104 : Callable Tryz.prog 104 := by unfold Callable; kernel_rfl
theorem ca105 : Callable Tryz.prog 105 := by unfold Callable; kernel_rfl
theorem ca106 : Callable Tryz.prog 106 := by unfold Callable; kernel_rfl
theorem ca107 : Callable Tryz.prog 107 := by unfold Callable; kernel_rfl
theorem ca108 : Callable Tryz.prog 108 := by unfold Callable; kernel_rfl
theorem ca109 : Callable Tryz.prog 109 := by unfold Callable; kernel_rfl
theorem ca110 : Callable Tryz.prog 110 := by unfold Callable; kernel_rfl
theorem ca111 : Callable Tryz.prog 111 := by unfold Callable; kernel_rfl
theorem ca113 : Callable Tryz.prog 113 := by unfold Callable; kernel_rfl
theorem ca114 : Callable Tryz.prog 114 := by unfold Callable; kernel_rfl
theorem ca115 : Callable Tryz.prog 115 := by unfold Callable; kernel_rfl
theorem ca116 : Callable Tryz.prog 116 := by unfold Callable; kernel_rfl
theorem ca117 : Callable Tryz.prog 117 := by unfold Callable; kernel_rfl
theorem ca118 : Callable Tryz.prog 118 := by unfold Callable; kernel_rfl
theorem ca119 : Callable Tryz.prog 119 := by unfold Callable; kernel_rfl
theorem ca120 : Callable Tryz.prog 120 := by unfold Callable; kernel_rfl
theorem ca121 : Callable Tryz.prog 121 := by unfold Callable; kernel_rfl
theorem ca122 : Callable Tryz.prog 122 := by unfold Callable; kernel_rfl
theorem ca123 : Callable Tryz.prog 123 := by unfold Callable; kernel_rfl
theorem ca124 : Callable Tryz.prog 124 := by unfold Callable; kernel_rfl
theorem ca125 : Callable Tryz.prog 125 := by unfold Callable; kernel_rfl
theorem mo : Tryz.prog.follows .mixedOrders = true := by kernel_rfl
end Go.Proofs.YtkjlbedebmffgaaGreat.Ty
