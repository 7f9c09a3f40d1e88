/- The engine: the shapes in which the lemmas are met, and numbers of one kind. Plain theorems over any program. -/
import Derived.Test.YthephcghglldaaaSw
set_option linter.unusedVariables false
set_option linter.unusedSimpArgs false
namespace Go.Proofs.Ythephcghglldaaa.Sx
open Go.RowKit

@[simp] theorem blk_ex (g : Nat) (cs : List Value) (t : TypeId) : (blk g cs t).ex = true := rfl
@[simp] theorem own_ex (v : Value) (e : TypeId) (sz n : Nat) (xs : List Value) : (own v e sz n xs).ex = true := rfl
@[simp] theorem rd_ex (v : Value) (sz n : Nat) (xs : List Value) : (rd v sz n xs).ex = false := rfl

/-- Cells that are read, and that are this call's own. -/
def rx (v : Value) (sz m : Nat) (xs : List Value) : Ch := { rd v sz m xs with ex := true }
@[simp] theorem rx_ex (v : Value) (sz n : Nat) (xs : List Value) : (rx v sz n xs).ex = true := rfl
theorem rx_le_rd {v : Value} {sz m : Nat} {xs : List Value} : (rd v sz m xs).Le (rx v sz m xs) := ⟨fun h => (by cases h), fun b h => h, fun w h => h⟩
theorem own_le_rx {v : Value} {e : TypeId} {sz m : Nat} {xs : List Value} : (rx v sz m xs).Le (own v e sz m xs) := ⟨fun _ => rfl, own_le_rd.foot, own_le_rd.ok⟩
theorem rx_sub {A : Option Addr} {c m sz l h : Nat} {xs : List Value} (hlh : l ≤ h) (hm : h ≤ m) :
    (rx (sliced A l h c sz) sz (h - l) ((xs.drop (l * sz)).take ((h - l) * sz))).Le (rx (.slice A m c) sz m xs) := ⟨fun _ => rfl, (rd_sub hlh hm).foot, (rd_sub hlh hm).ok⟩
theorem Src.rx {H : List Ch} {v : Value} {sz m : Nat} {xs : List Value} (h : Sx.rx v sz m xs ∈ H) : Src H v sz m xs := ⟨_, h, rx_le_rd⟩
theorem Reads.rx {F D : List Ch} {v : Value} {sz m : Nat} {xs : List Value} (h : Sx.rx v sz m xs ∈ F) (k : Reads F D) : Reads F (Sx.rd v sz m xs :: D) := .cons h rfl rx_le_rd k
theorem Src.rd {H : List Ch} {v : Value} {sz m : Nat} {xs : List Value} (h : Sx.rd v sz m xs ∈ H) : Src H v sz m xs := ⟨_, h, Ch.Le.refl _⟩
theorem Src.own {H : List Ch} {v : Value} {e : TypeId} {sz m : Nat} {xs : List Value} (h : Sx.own v e sz m xs ∈ H) : Src H v sz m xs := ⟨_, h, own_le_rd⟩
theorem Src.sub {H : List Ch} {A : Option Addr} {c m sz l h : Nat} {xs : List Value} (hs : Src H (.slice A m c) sz m xs) (hlh : l ≤ h) (hm : h ≤ m) : Src H (sliced A l h c sz) sz (h - l) ((xs.drop (l * sz)).take ((h - l) * sz)) := by
  obtain ⟨x, hx, hl⟩ := hs
  exact ⟨x, hx, (rd_sub hlh hm).trans hl⟩
theorem Src.blk {H : List Ch} {b k m c sz : Nat} {t : TypeId} {cs xs : List Value} (h : Sx.blk b cs t ∈ H) (hmc : m ≤ c) (hm : m ≤ maxLen) (hx : (cs.drop k).take (m * sz) = xs) (hl : xs.length = m * sz) : Src H (.slice (some ⟨b, k, none⟩) m c) sz m xs := ⟨_, h, blk_le_rd hmc hm hx hl⟩
theorem Reads.rd {F D : List Ch} {v : Value} {sz m : Nat} {xs : List Value} (h : Sx.rd v sz m xs ∈ F) (k : Reads F D) : Reads F (Sx.rd v sz m xs :: D) := .cons h rfl (.refl _) k
theorem Reads.own {F D : List Ch} {v : Value} {e : TypeId} {sz m : Nat} {xs : List Value} (h : Sx.own v e sz m xs ∈ F) (k : Reads F D) : Reads F (Sx.rd v sz m xs :: D) := .cons h rfl own_le_rd k
theorem Reads.src {F D : List Ch} {v : Value} {sz m : Nat} {xs : List Value} (h : Src F v sz m xs) (k : Reads F D) : Reads F (Sx.rd v sz m xs :: D) := by
  obtain ⟨x, hx, hl⟩ := h
  exact .cons hx rfl hl k

section
variable {P : Program} {Q : Exit → Act → World → Prop} {n : Nat} {L L' : List (Nat × Value)} {H H' F : List Ch} {ops : Array Oper} {rest : List Oper} {o : Oper}
theorem wl1 {X : Type} {LL : X → List (Nat × Value)} {HH : X → List Ch} (ho : Opn P Q o n L H (fun a w => ∃ b, St n (LL b) (HH b) a w)) (hg : o.guard = none) (h : ∀ b, WL P ops Q rest n (LL b) (HH b)) : WL P ops Q (o :: rest) n L H :=
  wl ho hg fun a w ⟨b, hs⟩ => h b a w hs
theorem wl2 {X Y : Type} {LL : X → Y → List (Nat × Value)} {HH : X → Y → List Ch} (ho : Opn P Q o n L H (fun a w => ∃ b c, St n (LL b c) (HH b c) a w)) (hg : o.guard = none) (h : ∀ b c, WL P ops Q rest n (LL b c) (HH b c)) : WL P ops Q (o :: rest) n L H :=
  wl ho hg fun a w ⟨b, c, hs⟩ => h b c a w hs
theorem wlx {X : Type} {φ : X → Prop} {LL : X → List (Nat × Value)} {HH : X → List Ch} (ho : Opn P Q o n L H (fun a w => ∃ b, φ b ∧ St n (LL b) (HH b) a w)) (hg : o.guard = none) (h : ∀ b, φ b → WL P ops Q rest n (LL b) (HH b)) : WL P ops Q (o :: rest) n L H :=
  wl ho hg fun a w ⟨b, hb, hs⟩ => h b hb a w hs
theorem WX.regs {e : Exit} (k : RS L L') (h : WX Q e n L' H) : WX Q e n L H := fun a w hs => h a w (hs.regsub k)
theorem WX.conv {e : Exit} (k : ∀ a w, St n L H a w → St n L' H' a w) (h : WX Q e n L' H') : WX Q e n L H := fun a w hs => h a w (k a w hs)
theorem WX.sub {e : Exit} (k : RS L L') (t : Takes H H' F) (h : WX Q e n L' H') : WX Q e n L H := fun a w hs => h a w (hs.sub k t)
theorem WX.weak {e : Exit} (k : Weak H H') (h : WX Q e n L H') : WX Q e n L H := fun a w hs => h a w ⟨hs.regs, hs.sat.weak k⟩
/-- One more reading of what is there. -/
theorem WL.dup {c d : Ch} (hc : c ∈ H) (hcr : c.ex = false) (hd : d.ex = false) (hl : d.Le c) (h : WL P ops Q rest n L (d :: H)) : WL P ops Q rest n L H := fun a w hs => h a w ⟨hs.regs, hs.sat.dup hd hc hcr hl⟩
theorem WX.dup {e : Exit} {c d : Ch} (hc : c ∈ H) (hcr : c.ex = false) (hd : d.ex = false) (hl : d.Le c) (h : WX Q e n L (d :: H)) : WX Q e n L H := fun a w hs => h a w ⟨hs.regs, hs.sat.dup hd hc hcr hl⟩
theorem WL.dupr {v v' : Value} {sz sz' m m' : Nat} {xs xs' : List Value} (hc : Sx.rd v sz m xs ∈ H) (hl : (Sx.rd v' sz' m' xs').Le (Sx.rd v sz m xs)) (h : WL P ops Q rest n L (Sx.rd v' sz' m' xs' :: H)) : WL P ops Q rest n L H := WL.dup hc rfl rfl hl h
theorem WX.dupr {e : Exit} {v v' : Value} {sz sz' m m' : Nat} {xs xs' : List Value} (hc : Sx.rd v sz m xs ∈ H) (hl : (Sx.rd v' sz' m' xs').Le (Sx.rd v sz m xs)) (h : WX Q e n L (Sx.rd v' sz' m' xs' :: H)) : WX Q e n L H := WX.dup hc rfl rfl hl h
theorem WL.nilrd (sz : Nat) (h : WL P ops Q rest n L (Sx.rd (.slice none 0 0) sz 0 [] :: H)) : WL P ops Q rest n L H := fun a w hs =>
  h a w ⟨hs.regs, hs.sat.grow (c := Sx.rd (.slice none 0 0) sz 0 []) ⟨by simp, by simp [maxLen], none, 0, rfl, Nat.le_refl _, fun hp => absurd hp (by simp)⟩ (Chg.refl _ _) (fun b hb => absurd hb.1 (by simp))⟩
/-- A chunk is turned into another. -/
theorem WX.turn {e : Exit} {c d : Ch} (hc : Take H c F) (hl : d.Le c) (h : WX Q e n L (d :: F)) : WX Q e n L H :=
  fun a w hs => h a w ⟨hs.regs, (hs.sat.perm hc.perm).weak (.keep hl (by
    have : ∀ G : List Ch, Weak G G := fun G => by
      induction G with
      | nil => exact .nil _
      | cons x G ih => exact .keep (.refl _) ih
    exact this F))⟩

theorem WX.blkEq {e : Exit} {b : Nat} {cs : List Value} {t : TypeId} (cs' : List Value) (hc : Take H (blk b cs t) F) (he : cs = cs') (h : WX Q e n L (blk b cs' t :: F)) : WX Q e n L H :=
  fun a w hs => h a w ⟨hs.regs, he ▸ hs.sat.perm hc.perm⟩
theorem WX.ownEq {e : Exit} {v : Value} {et : TypeId} {sz m : Nat} {xs : List Value} (xs' : List Value) (hc : Take H (own v et sz m xs) F) (he : xs = xs') (h : WX Q e n L (own v et sz m xs' :: F)) : WX Q e n L H :=
  fun a w hs => h a w ⟨hs.regs, he ▸ hs.sat.perm hc.perm⟩
theorem WL.blkEq {b : Nat} {cs : List Value} {t : TypeId} (cs' : List Value) (hc : Take H (blk b cs t) F) (he : cs = cs') (h : WL P ops Q rest n L (blk b cs' t :: F)) : WL P ops Q rest n L H :=
  fun a w hs => h a w ⟨hs.regs, he ▸ hs.sat.perm hc.perm⟩
theorem WL.ownEq {v : Value} {et : TypeId} {sz m : Nat} {xs : List Value} (xs' : List Value) (hc : Take H (own v et sz m xs) F) (he : xs = xs') (h : WL P ops Q rest n L (own v et sz m xs' :: F)) : WL P ops Q rest n L H :=
  fun a w hs => h a w ⟨hs.regs, he ▸ hs.sat.perm hc.perm⟩
theorem WL.regs (k : RS L L') (h : WL P ops Q rest n L' H) : WL P ops Q rest n L H := fun a w hs => h a w (hs.regsub k)
section
variable {Hs G : List Ch} {e i : Nat} {oi : Oper} {fuel : Nat} {listed : Array Bool}
theorem WA.stepv {d : Nat} {v : Value} (hr : Region.ready .any ops listed = [i]) (hi : ops[i]? = some oi) (hg : oi.guard = none) (ho : Val P oi n L H d v) (hS : i ≠ e → Takes H Hs G)
    (h : WA P ops Q (fun w => Sat w Hs) e fuel (listed.setIfInBounds i true) n (upd L d v) H) : WA P ops Q (fun w => Sat w Hs) e (fuel + 1) listed n L H :=
  WA.step hr hi hg ho.opn (fun hne a w hs => hs.sat.only (hS hne)) h
theorem WA.stepo (hr : Region.ready .any ops listed = [i]) (hi : ops[i]? = some oi) (hg : oi.guard = none) (ho : Opn P Q oi n L H (St n L' H')) (hS : i ≠ e → Takes H' Hs G)
    (h : WA P ops Q (fun w => Sat w Hs) e fuel (listed.setIfInBounds i true) n L' H') : WA P ops Q (fun w => Sat w Hs) e (fuel + 1) listed n L H :=
  WA.step hr hi hg ho (fun hne a w hs => hs.sat.only (hS hne)) h
theorem WA.step1 {X : Type} {LL : X → List (Nat × Value)} {HH : X → List Ch} {G : X → List Ch} (hr : Region.ready .any ops listed = [i]) (hi : ops[i]? = some oi) (hg : oi.guard = none) (ho : Opn P Q oi n L H (fun a w => ∃ b, St n (LL b) (HH b) a w)) (hS : i ≠ e → ∀ b, Takes (HH b) Hs (G b))
    (h : ∀ b, WA P ops Q (fun w => Sat w Hs) e fuel (listed.setIfInBounds i true) n (LL b) (HH b)) : WA P ops Q (fun w => Sat w Hs) e (fuel + 1) listed n L H :=
  WA.step hr hi hg ho (fun hne a w ⟨b, hs⟩ => hs.sat.only (hS hne b)) fun a w ⟨b, hs⟩ => h b a w hs
theorem WA.step2 {X Y : Type} {LL : X → Y → List (Nat × Value)} {HH : X → Y → List Ch} {G : X → Y → List Ch} (hr : Region.ready .any ops listed = [i]) (hi : ops[i]? = some oi) (hg : oi.guard = none) (ho : Opn P Q oi n L H (fun a w => ∃ b c, St n (LL b c) (HH b c) a w)) (hS : i ≠ e → ∀ b c, Takes (HH b c) Hs (G b c))
    (h : ∀ b c, WA P ops Q (fun w => Sat w Hs) e fuel (listed.setIfInBounds i true) n (LL b c) (HH b c)) : WA P ops Q (fun w => Sat w Hs) e (fuel + 1) listed n L H :=
  WA.step hr hi hg ho (fun hne a w ⟨b, c, hs⟩ => hs.sat.only (hS hne b c)) fun a w ⟨b, c, hs⟩ => h b c a w hs
theorem WA.stepx {X : Type} {φ : X → Prop} {LL : X → List (Nat × Value)} {HH : X → List Ch} {G : X → List Ch} (hr : Region.ready .any ops listed = [i]) (hi : ops[i]? = some oi) (hg : oi.guard = none) (ho : Opn P Q oi n L H (fun a w => ∃ b, φ b ∧ St n (LL b) (HH b) a w)) (hS : i ≠ e → ∀ b, Takes (HH b) Hs (G b))
    (h : ∀ b, φ b → WA P ops Q (fun w => Sat w Hs) e fuel (listed.setIfInBounds i true) n (LL b) (HH b)) : WA P ops Q (fun w => Sat w Hs) e (fuel + 1) listed n L H :=
  WA.step hr hi hg ho (fun hne a w ⟨b, _, hs⟩ => hs.sat.only (hS hne b)) fun a w ⟨b, hb, hs⟩ => h b hb a w hs
end

/-! ### Numbers of one kind -/
def bv (c : UInt8) : Value := .int .u8 (c.toNat : Int)
def wv (x : UInt32) : Value := .int .u32 (x.toNat : Int)
section
variable {d : Nat} {ty : TypeId} {pos : String} {af : Array Edge} {g : Option (Nat × Bool)} {x y z : Operand} {v u : Value} {xt yt : TypeId} {src dst : TypeId}
theorem op_convByte {a : Int} (hs : (P.underlying src).isSome = true) (hd : P.underlying dst = some (.int .u8)) (hn : d < n) (hx : evr L x = some (.int .i64 a)) (h0 : 0 ≤ a) :
    Val P ⟨some d, .convert src dst x, ty, pos, af, g⟩ n L H d (bv (UInt8.ofNat a.toNat)) := by
  have h := op_conv (P := P) (H := H) (ty := ty) (pos := pos) (af := af) (g := g) (k := .i64) hs hd hn hx
  have e : IntKind.u8.wrap a = ((UInt8.ofNat a.toNat).toNat : Int) := by
    simp [IntKind.wrap, IntKind.bits, IntKind.signed]
    omega
  rw [e] at h
  exact h
theorem op_conv8i {c : UInt8} (hs : (P.underlying src).isSome = true) (hd : P.underlying dst = some (.int .i64)) (hn : d < n) (hx : evr L x = some (bv c)) :
    Val P ⟨some d, .convert src dst x, ty, pos, af, g⟩ n L H d (.int .i64 (c.toNat : Int)) := by
  have h := op_conv (P := P) (H := H) (ty := ty) (pos := pos) (af := af) (g := g) (k := .u8) hs hd hn hx
  have hc := c.toNat_lt
  have e : IntKind.i64.wrap (c.toNat : Int) = (c.toNat : Int) := by rw [IntKind.wrap_i64]; omega
  rw [e] at h
  exact h
theorem op_convii {a : Int} (hs : (P.underlying src).isSome = true) (hd : P.underlying dst = some (.int .i64)) (hn : d < n) (hx : evr L x = some (.int .i64 a)) (ha : -9223372036854775808 ≤ a ∧ a < 9223372036854775808) :
    Val P ⟨some d, .convert src dst x, ty, pos, af, g⟩ n L H d (.int .i64 a) := by
  have h := op_conv (P := P) (H := H) (ty := ty) (pos := pos) (af := af) (g := g) (k := .i64) hs hd hn hx
  have e : IntKind.i64.wrap a = a := by rw [IntKind.wrap_i64]; omega
  rw [e] at h
  exact h
theorem op_conv832 {c : UInt8} (hs : (P.underlying src).isSome = true) (hd : P.underlying dst = some (.int .u32)) (hn : d < n) (hx : evr L x = some (bv c)) :
    Val P ⟨some d, .convert src dst x, ty, pos, af, g⟩ n L H d (wv c.toUInt32) := by
  have h := op_conv (P := P) (H := H) (ty := ty) (pos := pos) (af := af) (g := g) (k := .u8) hs hd hn hx
  have hc := c.toNat_lt
  have e : IntKind.u32.wrap (c.toNat : Int) = (c.toUInt32.toNat : Int) := by
    simp [IntKind.wrap, IntKind.bits, IntKind.signed]
    omega
  rw [e] at h
  exact h
theorem op_conv328 {c : UInt32} (hs : (P.underlying src).isSome = true) (hd : P.underlying dst = some (.int .u8)) (hn : d < n) (hx : evr L x = some (wv c)) :
    Val P ⟨some d, .convert src dst x, ty, pos, af, g⟩ n L H d (bv c.toUInt8) := by
  have h := op_conv (P := P) (H := H) (ty := ty) (pos := pos) (af := af) (g := g) (k := .u32) hs hd hn hx
  have e : IntKind.u8.wrap (c.toNat : Int) = (c.toUInt8.toNat : Int) := by
    simp [IntKind.wrap, IntKind.bits, IntKind.signed]
  rw [e] at h
  exact h
theorem op_convi64u64 {a : Int} (hs : (P.underlying src).isSome = true) (hd : P.underlying dst = some (.int .u64)) (hn : d < n) (hx : evr L x = some (.int .i64 a)) (h0 : 0 ≤ a ∧ a < 18446744073709551616) :
    Val P ⟨some d, .convert src dst x, ty, pos, af, g⟩ n L H d (.int .u64 a) := by
  have h := op_conv (P := P) (H := H) (ty := ty) (pos := pos) (af := af) (g := g) (k := .i64) hs hd hn hx
  have e : IntKind.u64.wrap a = a := by
    simp [IntKind.wrap, IntKind.bits, IntKind.signed]
    omega
  rw [e] at h
  exact h
theorem op_conv648 {a : Int} (hs : (P.underlying src).isSome = true) (hd : P.underlying dst = some (.int .u8)) (hn : d < n) (hx : evr L x = some (.int .u64 a)) (h0 : 0 ≤ a) :
    Val P ⟨some d, .convert src dst x, ty, pos, af, g⟩ n L H d (bv (UInt8.ofNat a.toNat)) := by
  have h := op_conv (P := P) (H := H) (ty := ty) (pos := pos) (af := af) (g := g) (k := .u64) hs hd hn hx
  have e : IntKind.u8.wrap a = ((UInt8.ofNat a.toNat).toNat : Int) := by
    simp [IntKind.wrap, IntKind.bits, IntKind.signed]
    omega
  rw [e] at h
  exact h

theorem bits32 (f : BitVec 32 → BitVec 32 → BitVec 32) (a b : UInt32) : IntKind.u32.wrap ((f (BitVec.ofInt 32 (a.toNat : Int)) (BitVec.ofInt 32 (b.toNat : Int))).toNat : Int) = ((f a.toBitVec b.toBitVec).toNat : Int) := by
  have ea : BitVec.ofInt 32 (a.toNat : Int) = a.toBitVec := by simp
  have eb : BitVec.ofInt 32 (b.toNat : Int) = b.toBitVec := by simp
  rw [ea, eb]
  have := (f a.toBitVec b.toBitVec).isLt
  simp [IntKind.wrap, IntKind.bits, IntKind.signed]
  omega
theorem bits8 (f : BitVec 8 → BitVec 8 → BitVec 8) (a b : UInt8) : IntKind.u8.wrap ((f (BitVec.ofInt 8 (a.toNat : Int)) (BitVec.ofInt 8 (b.toNat : Int))).toNat : Int) = ((f a.toBitVec b.toBitVec).toNat : Int) := by
  have ea : BitVec.ofInt 8 (a.toNat : Int) = a.toBitVec := by simp
  have eb : BitVec.ofInt 8 (b.toNat : Int) = b.toBitVec := by simp
  rw [ea, eb]
  have := (f a.toBitVec b.toBitVec).isLt
  simp [IntKind.wrap, IntKind.bits, IntKind.signed]
  omega
section
variable {a b : UInt32}
theorem op_add32 (hn : d < n) (hx : evr L x = some (wv a)) (hy : evr L y = some (wv b)) : Val P ⟨some d, .binOp .add xt x y yt, ty, pos, af, g⟩ n L H d (wv (a + b)) :=
  binop_val hn hx hy (fun _ _ => rfl) fun w => by
    simp [wv, binOp, Op.intArith, IntKind.wrap, IntKind.bits, IntKind.signed]
theorem op_xor32 (hn : d < n) (hx : evr L x = some (wv a)) (hy : evr L y = some (wv b)) : Val P ⟨some d, .binOp .xor xt x y yt, ty, pos, af, g⟩ n L H d (wv (a ^^^ b)) :=
  binop_val hn hx hy (fun _ _ => rfl) fun w => by
    have := bits32 (· ^^^ ·) a b
    show (binOp .xor xt (.int .u32 (a.toNat : Int)) (.int .u32 (b.toNat : Int))).run P w = _
    rw [binOp_xor]
    exact congrArg (fun z : Int => (Result.ok (Value.int .u32 z) w : Result Value)) this
theorem op_and32 (hn : d < n) (hx : evr L x = some (wv a)) (hy : evr L y = some (wv b)) : Val P ⟨some d, .binOp .and xt x y yt, ty, pos, af, g⟩ n L H d (wv (a &&& b)) :=
  binop_val hn hx hy (fun _ _ => rfl) fun w => by
    have := bits32 (· &&& ·) a b
    show (binOp .and xt (.int .u32 (a.toNat : Int)) (.int .u32 (b.toNat : Int))).run P w = _
    rw [binOp_and]
    exact congrArg (fun z : Int => (Result.ok (Value.int .u32 z) w : Result Value)) this
theorem op_or32 (hn : d < n) (hx : evr L x = some (wv a)) (hy : evr L y = some (wv b)) : Val P ⟨some d, .binOp .or xt x y yt, ty, pos, af, g⟩ n L H d (wv (a ||| b)) :=
  binop_val hn hx hy (fun _ _ => rfl) fun w => by
    have := bits32 (· ||| ·) a b
    show (binOp .or xt (.int .u32 (a.toNat : Int)) (.int .u32 (b.toNat : Int))).run P w = _
    rw [binOp_or]
    exact congrArg (fun z : Int => (Result.ok (Value.int .u32 z) w : Result Value)) this
theorem op_not32 (hn : d < n) (hx : evr L x = some (wv a)) : Val P ⟨some d, .unOp .xor xt x, ty, pos, af, g⟩ n L H d (wv (~~~ a)) :=
  Val.mk rfl hn fun a' w hs => by
    have e1 : (execOp a'.eval ⟨some d, .unOp .xor xt x, ty, pos, af, g⟩).run P w = .ok (.value (.int .u32 (IntKind.u32.wrap ((BitVec.ofInt 32 4294967295 ^^^ BitVec.ofInt 32 (a.toNat : Int)).toNat : Int)))) w := by
      simp [execOp, hs.eval hx, wv, Op.unary, Op.intBits, IntKind.signed, IntKind.max, IntKind.bits]
      rfl
    rw [e1]
    have h2 := bits32 (· ^^^ ·) 4294967295 a
    have e3 : BitVec.ofInt 32 4294967295 = BitVec.ofInt 32 ((4294967295 : UInt32).toNat : Int) := by decide
    rw [e3]
    rw [show ((BitVec.ofInt 32 ((4294967295 : UInt32).toNat : Int) ^^^ BitVec.ofInt 32 (a.toNat : Int)).toNat : Int) = ((fun x y : BitVec 32 => x ^^^ y) (BitVec.ofInt 32 ((4294967295 : UInt32).toNat : Int)) (BitVec.ofInt 32 (a.toNat : Int))).toNat from rfl, h2]
    have e4 : (4294967295 : UInt32).toBitVec ^^^ a.toBitVec = (~~~ a).toBitVec := by
      rw [UInt32.toBitVec_not]
      have : (4294967295 : UInt32).toBitVec = BitVec.allOnes 32 := by decide
      rw [this]
      exact BitVec.allOnes_xor
    rw [e4]
    rfl
theorem op_shl32 {k' : IntKind} {s : Int} (hn : d < n) (hx : evr L x = some (wv a)) (hy : evr L y = some (.int k' s)) (hs : 0 ≤ s ∧ s < 32) : Val P ⟨some d, .binOp .shl xt x y yt, ty, pos, af, g⟩ n L H d (wv (a <<< UInt32.ofNat s.toNat)) :=
  binop_val hn hx hy (fun _ _ => rfl) fun w => by
    have h0 : ¬ s < 0 := by omega
    have h1 : min s.toNat 32 = s.toNat := by omega
    have h2 : s.toNat % 32 = s.toNat := by omega
    have h3 : s.toNat % 4294967296 % 32 = s.toNat := by omega
    simp [wv, binOp_shl, Op.shift, h0, IntKind.bits, h1, IntKind.wrap, IntKind.signed, UInt32.toNat_shiftLeft, h2, h3, Nat.shiftLeft_eq]
theorem op_shr32 {k' : IntKind} {s : Int} (hn : d < n) (hx : evr L x = some (wv a)) (hy : evr L y = some (.int k' s)) (hs : 0 ≤ s ∧ s < 32) : Val P ⟨some d, .binOp .shr xt x y yt, ty, pos, af, g⟩ n L H d (wv (a >>> UInt32.ofNat s.toNat)) :=
  binop_val hn hx hy (fun _ _ => rfl) fun w => by
    have h0 : ¬ s < 0 := by omega
    have h1 : min s.toNat 32 = s.toNat := by omega
    have h2 : s.toNat % 32 = s.toNat := by omega
    have h3 : s.toNat % 4294967296 % 32 = s.toNat := by omega
    simp [wv, binOp_shr, Op.shift, h0, IntKind.bits, h1, UInt32.toNat_shiftRight, h2, h3, Nat.shiftRight_eq_div_pow]
end
section
variable {a b : UInt8}
theorem op_add8 (hn : d < n) (hx : evr L x = some (bv a)) (hy : evr L y = some (bv b)) : Val P ⟨some d, .binOp .add xt x y yt, ty, pos, af, g⟩ n L H d (bv (a + b)) :=
  binop_val hn hx hy (fun _ _ => rfl) fun w => by
    simp [bv, binOp, Op.intArith, IntKind.wrap, IntKind.bits, IntKind.signed]
theorem op_xor8 (hn : d < n) (hx : evr L x = some (bv a)) (hy : evr L y = some (bv b)) : Val P ⟨some d, .binOp .xor xt x y yt, ty, pos, af, g⟩ n L H d (bv (a ^^^ b)) :=
  binop_val hn hx hy (fun _ _ => rfl) fun w => by
    have := bits8 (· ^^^ ·) a b
    show (binOp .xor xt (.int .u8 (a.toNat : Int)) (.int .u8 (b.toNat : Int))).run P w = _
    rw [binOp_xor]
    exact congrArg (fun z : Int => (Result.ok (Value.int .u8 z) w : Result Value)) this
theorem bv_eq : (((a.toNat : Int) == (b.toNat : Int)) = decide (a = b)) := by
  by_cases h : a = b
  · simp [h]
  · have : ¬ ((a.toNat : Int) = (b.toNat : Int)) := fun e => h (UInt8.toNat_inj.1 (by exact_mod_cast e))
    simp [h, this]
theorem op_eql8 (hn : d < n) (hx : evr L x = some (bv a)) (hy : evr L y = some (bv b)) : Val P ⟨some d, .binOp .eql xt x y yt, ty, pos, af, g⟩ n L H d (.bool (decide (a = b))) :=
  binop_val hn hx hy (fun _ _ => rfl) fun w => by rw [← bv_eq]; rfl
theorem op_neq8 (hn : d < n) (hx : evr L x = some (bv a)) (hy : evr L y = some (bv b)) : Val P ⟨some d, .binOp .neq xt x y yt, ty, pos, af, g⟩ n L H d (.bool (decide (¬ a = b))) :=
  binop_val hn hx hy (fun _ _ => rfl) fun w => by
    have h := bv_eq (a := a) (b := b)
    simp only [bv, binOp_neq, bne, h]
    by_cases e : a = b <;> simp [e]
end
theorem op_sl2arr {t e : TypeId} {len b k m c : Nat} (hu : P.underlying t = some (.array len e)) (hn : d < n) (hx : evr L x = some (.slice (some ⟨b, k, none⟩) m c)) (hm : len ≤ m) :
    Val P ⟨some d, .sliceToArrayPointer t x, ty, pos, af, g⟩ n L H d (.pointer (some ⟨b, k, none⟩)) :=
  Val.mk rfl hn fun a w hs => by
    have : ¬ m < len := by omega
    simp [execOp, hs.eval hx, Instr.arrayAt, Sem.run_bind, run_underlying hu, this]
theorem op_eqlnil {t e : TypeId} {a0 : Addr} (hu : P.underlying t = some (.pointer e)) (hn : d < n) (hx : evr L x = some (.pointer (some a0))) (hy : evr L y = some (.pointer none)) :
    Val P ⟨some d, .binOp .eql t x y yt, ty, pos, af, g⟩ n L H d (.bool false) :=
  binop_val hn hx hy (fun _ _ => rfl) fun w => by
    have h : ∀ k, (Op.equalIn (k + 1) t (.pointer (some a0)) (.pointer none)).run P w = .ok false w := fun k => by
      simp [Op.equalIn, Sem.run_bind, run_underlying hu]
    have h2 : (Op.equal t (.pointer (some a0)) (.pointer none)).run P w = .ok false w := h 9999
    simp only [binOp, Sem.run_bind, h2, Result.andThen]
    rfl
theorem op_indexV {t e : TypeId} {k : IntKind} {i : Int} {len sz : Nat} {cs : Array Value} (hu : P.underlying t = some (.array len e)) (hsz : (P.info? e).map (·.size) = some sz) (hf : Flat P e) (hn : d < n)
    (hx : evr L x = some (.agg cs)) (hi : evr L y = some (.int k i)) (h0 : 0 ≤ i) (h1 : i < len) (hv : cs[i.toNat * sz]? = some v) :
    Val P ⟨some d, .index t x y, ty, pos, af, g⟩ n L H d v :=
  Val.mk rfl hn fun a w hs => by
    simp [execOp, hs.eval hx, hs.eval hi, Instr.index, asIntOf, Sem.run_bind, run_underlying hu, h0, h1, run_sizeOf hsz, part, hf.isAgg, hv]
theorem op_eqlb {p q : Bool} (hn : d < n) (hx : evr L x = some (.bool p)) (hy : evr L y = some (.bool q)) (hu : P.underlying xt = some .bool) : Val P ⟨some d, .binOp .eql xt x y yt, ty, pos, af, g⟩ n L H d (.bool (p == q)) :=
  binop_val hn hx hy (fun _ _ => rfl) fun w => by
    have h : ∀ k, (Op.equalIn (k + 1) xt (.bool p) (.bool q)).run P w = .ok (p == q) w := fun k => by
      simp [Op.equalIn, Sem.run_bind, run_underlying hu]
    have h2 : (Op.equal xt (.bool p) (.bool q)).run P w = .ok (p == q) w := h 9999
    simp only [binOp, Sem.run_bind, h2, Result.andThen]
    rfl
theorem op_build {t : TypeId} {parts : List (Nat × Operand)} {pv : List (Nat × Value)} {cs : List Value} (hn : d < n) (hp : parts.map (fun p => (p.1, evr L p.2)) = pv.map (fun p => (p.1, some p.2))) (hb : P.built t pv = some cs.toArray) :
    Val P ⟨some d, .build t parts.toArray, ty, pos, af, g⟩ n L H d (.agg cs.toArray) :=
  Val.mk rfl hn fun a w hs => by
    have hp' : parts.map (fun p => (p.1, a.eval p.2)) = pv := by
      clear hb
      induction parts generalizing pv with
      | nil => cases pv with | nil => rfl | cons _ _ => cases hp
      | cons q parts ih =>
        cases pv with
        | nil => cases hp
        | cons r pv =>
          simp only [List.map_cons, List.cons.injEq, Prod.mk.injEq] at hp
          obtain ⟨⟨h1, h2⟩, h3⟩ := hp
          simp only [List.map_cons, ih h3, hs.eval h2, h1]
    have hr := run_build (P := P) w t (parts.map fun p => (p.1, a.eval p.2)).toArray cs.toArray (by rw [hp']; exact hb)
    simp only [execOp, List.map_toArray, Sem.run_bind, hr, Result.andThen]
    rfl
theorem op_append0 {t e : TypeId} {A B : Option Addr} {k c cB sz by' : Nat} {zero ys : List Value} (hu : P.underlying t = some (.slice e)) (he : TInf P e sz by' zero) (hzl : zero.length = sz) (hpos : 0 < sz) (hn : d < n)
    (hx : evr L x = some (.slice A 0 c)) (hy : evr L y = some (.slice B k cB)) (ht : Take H (own (.slice A 0 c) e sz 0 []) F) (hsrc : Src F (.slice B k cB) sz k ys)
    (h1 : ys.all (·.oneCell') = true) (hb : k * by' ≤ 140737488355328) (h63 : k ≤ 9223372036854775807) :
    Opn P Q ⟨some d, .call { callee := .builtin .append, args := #[x, y], argTypes := #[t, t] }, ty, pos, af, g⟩ n L H
      (fun a w => ∃ A' c', St n (upd L d (.slice A' k c')) (own (.slice A' k c') e sz k ys :: F) a w) := by
  have h := op_append (P := P) (Q := Q) (n := n) (ty := ty) (pos := pos) (af := af) (g := g) hu he hzl hpos hn hx hy ht hsrc h1 (by rw [Nat.zero_add]; exact hb) (by omega)
  simpa only [Nat.zero_add, List.nil_append] using h

/-! ### Whole blocks -/
theorem pset_all (cs vs : List Value) (h : cs.length = vs.length) : pset cs 0 vs = vs := by simp [pset, ← h]
theorem op_loadAll {t bt : TypeId} {b sz : Nat} {cs : List Value} (ht : Agg P t sz) (hn : d < n) (hx : evr L x = some (.pointer (some ⟨b, 0, none⟩))) (hc : blk b cs bt ∈ H) (hl : cs.length = sz) :
    Val P ⟨some d, .load t x, ty, pos, af, g⟩ n L H d (.agg cs.toArray) := by
  have h := op_loadN (P := P) (ty := ty) (pos := pos) (af := af) (g := g) ht hn hx hc (by simp; omega)
  have e : (cs.drop 0).take sz = cs := by simp [← hl]
  rwa [e] at h
theorem op_storeAll {t tb : TypeId} {sz b : Nat} {cs : List Value} (hsz : (P.info? t).map (·.size) = some sz) (hx : evr L x = some (.pointer (some ⟨b, 0, none⟩))) (hy : evr L y = some v)
    (ht : Take H (blk b cs tb) F) (hl : v.cells.size = sz) (h1 : v.cells.toList.all (·.oneCell') = true) (hk : cs.length = sz) :
    Opn P Q ⟨none, .store t x y, ty, pos, af, g⟩ n L H (St n L (blk b v.cells.toList tb :: F)) := by
  have h := op_store (P := P) (Q := Q) (n := n) (ty := ty) (pos := pos) (af := af) (g := g) hsz hx hy ht hl h1 (by omega)
  rwa [pset_all _ _ (by simp; omega)] at h

/-! ### Literals of none and of one element -/
theorem op_lit0 {t e : TypeId} {sz by' : Nat} {zero : List Value} (hu : P.underlying t = some (.slice e)) (he : TInf P e sz by' zero) (hn : d < n) :
    Opn P Q ⟨some d, .buildSlice t 0 #[], ty, pos, af, g⟩ n L H (fun a w => ∃ b, St n (upd L d (.slice (some ⟨b, 0, none⟩) 0 0)) (own (.slice (some ⟨b, 0, none⟩) 0 0) e sz 0 [] :: H) a w) := by
  obtain ⟨i, z, hi, hs1, _, hz, hzz⟩ := he.open
  intro a w hs K hK
  unfold Oper.wp
  have hsz : (sizeOf e).run P w = .ok sz w := by simp [sizeOf, typeInfo, hi, hs1]
  have hr : (execOp a.eval ⟨some d, .buildSlice t 0 #[], ty, pos, af, g⟩).run P w = .ok (.value (.slice (some ⟨w.heap.size, 0, none⟩) 0 0)) (w.alloc (.cells #[] e)) := by
    simp [execOp, Instr.buildSlice, Sem.run_bind, run_underlying hu, hsz, Instr.fill, newRow, Array.range_zero']
  rw [hr, Oper.upon_value]
  refine hK _ _ ⟨_, hs.regs.put hn _, hs.sat.grow (own_new w [] e sz 0 (by simp) (by simp [maxLen])) (Chg.alloc _ _ _) (fun b hb => ?_)⟩
  simp only [own, Value.ownBlock, Option.some.injEq] at hb
  omega
theorem fill_one (vs zs : List Value) (hl : vs.length = zs.length) : ∀ (pre : List Value), (vs.zipIdx pre.length).foldl (fun (cs : Array Value) p => cs.setIfInBounds (0 + p.2) p.1) (pre ++ zs).toArray = (pre ++ vs).toArray := by
  induction vs generalizing zs with
  | nil =>
    intro pre
    have : zs = [] := List.eq_nil_of_length_eq_zero (by simpa using hl.symm)
    subst this
    rfl
  | cons v vs ih =>
    intro pre
    obtain ⟨z, zs', rfl⟩ : ∃ z zs', zs = z :: zs' := by cases zs with | nil => simp at hl | cons z zs' => exact ⟨z, zs', rfl⟩
    have h2 := ih zs' (by simpa using hl) (pre ++ [v])
    simp only [List.zipIdx_cons, List.foldl_cons, Nat.zero_add]
    have e1 : (pre ++ z :: zs').toArray.setIfInBounds pre.length v = ((pre ++ [v]) ++ zs').toArray := by
      apply Array.ext'
      simp [List.set_append]
    rw [e1]
    have e2 : (pre ++ [v]).length = pre.length + 1 := by simp
    rw [e2] at h2
    simp only [Nat.zero_add] at h2
    rw [h2]
    simp
theorem op_lit1 {t e : TypeId} {sz by' : Nat} {zero : List Value} {xo : Operand} (hu : P.underlying t = some (.slice e)) (he : TInf P e sz by' zero) (hzl : zero.length = sz) (hp : 0 < sz ∧ sz ≤ 16777216) (hn : d < n) (hx : evr L xo = some v) (hv : v.cells.size = sz) :
    Opn P Q ⟨some d, .buildSlice t 1 #[(0, xo)], ty, pos, af, g⟩ n L H (fun a w => ∃ b, St n (upd L d (.slice (some ⟨b, 0, none⟩) 1 1)) (own (.slice (some ⟨b, 0, none⟩) 1 1) e sz 1 v.cells.toList :: H) a w) := by
  refine op_buildSlice (pv := [(0, v)]) hu he hn (fun a h => by simp [h.eval hx]) (by omega) (by simp [maxLen]) ?_ (by simp [hv])
  have hz : ((Array.range (1 * sz)).map (zero.toArray[· % zero.length]!)) = zero.toArray := by
    apply Array.ext
    · simp [hzl]
    · intro j h1 h2
      simp only [Array.size_map, Array.size_range, Nat.one_mul] at h1
      simp [hzl, Nat.mod_eq_of_lt h1, h1]
  rw [hz]
  have h1 : ¬ (v.cells.size ≠ sz ∨ 0 * sz + v.cells.size > zero.toArray.size) := by simp [hv, hzl]
  have h3 := fill_one v.cells.toList zero (by simp [hv, hzl]) []
  simp only [List.length_nil, List.nil_append] at h3
  simp only [Instr.fill, Nat.zero_mul]
  rw [if_neg (by simpa using h1)]
  simp only [Nat.zero_add] at h3 ⊢
  rw [← h3, ← Array.foldl_toList]
  simp
end
end
end Go.Proofs.Ythephcghglldaaa.Sx
