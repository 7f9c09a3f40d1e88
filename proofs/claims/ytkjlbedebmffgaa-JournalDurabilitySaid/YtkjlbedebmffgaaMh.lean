import Derived.Test.YtkjlbedebmffgaaMg
import Derived.Test.YtkjlbedebmffgaaMa
import Derived.WalkKit
import Derived.ProofKit
import Derived.OpenShut
import Derived.Carry
import Derived.Deep.Slices
set_option linter.unusedVariables false
set_option linter.unusedSimpArgs false
namespace Go.Proofs.Ytkjlbedebmffgaa.Sx
open Go.RowKit Go.Proofs.Ytkjlbedebmffgaa.Ty
attribute [local irreducible] blk own rd rx frameC

section
variable {P : Program} {n : Fr} {L : List (Nat × Value)} {H : List Ch} {d : Nat} {ty xt yt : TypeId} {pos : String} {af : Array Edge} {g : Option (Nat × Bool)} {x y : Operand}
theorem op_mul8 {a b : UInt8} (hn : d < n.n) (hx : evr L x = some (bv a)) (hy : evr L y = some (bv b)) : Val P ⟨some d, .binOp .mul xt x y yt, ty, pos, af, g⟩ n L H d (bv (a * b)) :=
  binop_val hn hx hy (fun _ _ => rfl) fun w => by
    simp [bv, binOp, Op.intArith, IntKind.wrap, IntKind.bits, IntKind.signed]
theorem op_quo8 {a b : Int} (hn : d < n.n) (hx : evr L x = some (.int .u8 a)) (hy : evr L y = some (.int .u8 b)) (h0 : 0 < b) (ha : 0 ≤ a ∧ a < 256) :
    Val P ⟨some d, .binOp .quo xt x y yt, ty, pos, af, g⟩ n L H d ((.int .u8 (a / b))) :=
  binop_val hn hx hy (fun _ _ => rfl) fun w => by
    have h1 : ¬ b = 0 := by omega
    have h2 : a.tdiv b = a / b := Int.tdiv_eq_ediv_of_nonneg ha.1
    have h3 : 0 ≤ a / b := Int.ediv_nonneg ha.1 (by omega)
    have h4 : a / b ≤ a := Int.ediv_le_self _ ha.1
    have h5 : IntKind.u8.wrap (a / b) = a / b := by
      simp [IntKind.wrap, IntKind.bits, IntKind.signed]
      omega
    simp [binOp, Op.intDiv, h1, h2, h5]
end
/-- An operation of a law. -/
structure OpR where
  k : UInt8
  n : Nat
  b : UInt8
  ch : Bs
def OpR.cells (o : OpR) : List Value := [bv o.k, .int .u16 (o.n : Int), bv o.b, o.ch.v]
def sizeM (n : UInt8) : Nat := 8 + n.toNat % 36
def bytesM (n : Nat) (f : UInt8) : List UInt8 := (List.range (n % 1500)).map fun i => f + UInt8.ofNat i * 7
def byteW (n : Nat) (f : UInt8) (i : Nat) : List UInt8 := ((List.range i).map fun i => f + UInt8.ofNat i * 7) ++ List.replicate (n % 1500 - i) 0
theorem byteW_length {n i : Nat} {f : UInt8} (h : i ≤ n % 1500) : (byteW n f i).length = n % 1500 := by simp [byteW]; omega
theorem byteW_set {n i : Nat} {f : UInt8} (h : i < n % 1500) : (byteW n f i).set i (f + UInt8.ofNat i * 7) = byteW n f (i + 1) := by
  have hl : ((List.range i).map fun i => f + UInt8.ofNat i * 7).length = i := by simp
  unfold byteW
  rw [List.range_succ, List.map_append, show n % 1500 - i = (n % 1500 - (i + 1)) + 1 by omega, List.replicate_succ, List.set_append, if_neg (by omega), hl, Nat.sub_self, List.set_cons_zero, List.append_assoc]
  rfl
def fateM (c : UInt8) : UInt8 := if c.toNat % 3 = 2 then UInt8.ofNat (c.toNat / 3 % 2) else c
def fatesM (l : List UInt8) : List UInt8 := l.map fateM
theorem fatesM_ok (l : List UInt8) : ∀ x ∈ fatesM l, ¬ x.toNat % 3 = 2 := by
  intro x hx
  obtain ⟨c, _, rfl⟩ := List.mem_map.1 hx
  unfold fateM
  split
  · rcases (show c.toNat / 3 % 2 = 0 ∨ c.toNat / 3 % 2 = 1 by omega) with h | h <;> rw [h] <;> decide
  · assumption
theorem fates_snoc (l : List UInt8) (x : UInt8) : bvs (fatesM l) ++ [bv (fateM x)] = bvs (fatesM (l ++ [x])) := by simp [fatesM, bvs]
theorem row_get {xs row : List Value} {o sz k : Nat} (h : (xs.drop o).take sz = row) (hk : k < sz) : xs[o + k]? = row[k]? := by rw [← h, List.getElem?_take, if_pos hk, List.getElem?_drop]
def fitsM (l : List OpR) : Prop := l.length ≤ 30 ∧ ∀ o ∈ l, o.ch.s.length ≤ 100
set_option maxHeartbeats 400000 in
set_option maxRecDepth 10000 in
theorem f13_spec (n : UInt8) :
    Spec Try.prog 13 [bv n] [] [] (R := Unit) (fun _ => True) (fun _ => .int .i64 ((sizeM n : Nat) : Int)) (fun _ => []) := by
  refine Spec.intro Try.func13 Try.ntmps13 rfl (by simp) (by simp) fun w0 => ?_
  refine WC.seq ?_
  refine WC.region ?_
  refine wlv (op_assign (lt_ rfl) rfl) rfl ?_
  refine WL.nil ?_
  refine WX.regs (L' := [(0, _)]) ?_
  refine WX.next ?_
  refine WC.seq ?_
  refine WC.region ?_
  have hc := n.toNat_lt
  refine wlv (op_move (lt_ rfl) rfl) rfl ?_
  refine wlv (op_rem (k := .u8) (a := (n.toNat : Int)) (lt_ rfl) rfl rfl (by omega) (by omega)) rfl ?_
  refine wlv (op_conv (k := .u8) (by kernel_rfl) Try.underlying3 (lt_ rfl) rfl) rfl ?_
  rw [show IntKind.i64.wrap ((n.toNat : Int) % 36) = (n.toNat : Int) % 36 by rw [IntKind.wrap_i64]; omega]
  refine wlv (op_add (lt_ rfl) rfl rfl (by omega)) rfl ?_
  refine wlv (op_assign (lt_ rfl) rfl) rfl ?_
  refine WL.nil ?_
  refine WX.regs (L' := [(2, _)]) ?_
  refine WX.next ?_
  refine WC.ret ?_
  rw [show (8 : Int) + (n.toNat : Int) % 36 = ((sizeM n : Nat) : Int) by unfold sizeM; omega]
  exact Fin.ret1 xI (()) (trivial) Try.results13 (.tmp rfl) xT (by simp)
set_option maxHeartbeats 400000 in
set_option maxRecDepth 10000 in
theorem f19_spec (n : Nat) (hn : n < 65536) (f : UInt8) :
    Spec Try.prog 19 [.int .u16 (n : Int), bv f] [] [] (R := Nat) (fun _ => True) (fun r => .slice (some ⟨r, 0, none⟩) (n % 1500) (n % 1500)) (fun r => [own (.slice (some ⟨r, 0, none⟩) (n % 1500) (n % 1500)) 5 1 (n % 1500) (bvs (bytesM n f))]) := by
  refine Spec.intro Try.func19 Try.ntmps19 rfl (by simp) (by simp) fun w0 => ?_
  refine WC.seq ?_
  refine WC.region ?_
  refine wlv (op_assign (lt_ rfl) rfl) rfl ?_
  refine WL.nil ?_
  refine WX.regs (L' := [(0, _), (1, _)]) ?_
  refine WX.next ?_
  refine WC.seq ?_
  refine WC.region ?_
  refine wlv (op_move (lt_ rfl) rfl) rfl ?_
  refine wlv (op_rem (lt_ rfl) rfl rfl (by omega) (by omega)) rfl ?_
  refine wlv (op_conv16i (by kernel_rfl) Try.underlying3 (lt_ rfl) rfl (by omega)) rfl ?_
  refine wl1 (op_make (z1 := (.int .u8 0)) (sz := 1) (zero := []) Try.underlying23 ti5 (lt_ rfl) rfl rfl (by omega) (by omega) (by omega) (by omega)) rfl fun b1 => ?_
  rw [show (((n : Int)) % 1500).toNat = n % 1500 by omega]
  refine WL.blkEq (b := b1) (bvs (byteW n f 0)) xK (by simp only [byteW, List.range_zero, List.map_nil, List.nil_append, Nat.sub_zero]; exact bvs_rep0 _) ?_
  refine WL.turn (c := blk b1 (bvs (byteW n f 0)) 5) (d := own (.slice (some ⟨b1, 0, none⟩) (n % 1500) (n % 1500)) 5 1 (n % 1500) (bvs (byteW n f 0))) xK (own_le_blk (by rw [bvs_length, byteW_length (by omega)]) (small_len (by omega))) ?_
  refine wlv (op_assign (lt_ rfl) rfl) rfl ?_
  refine WL.nil ?_
  refine WX.regs (L' := [(1, _), (5, _)]) ?_
  refine WX.next ?_
  refine WC.seq ?_
  refine WC.seq ?_
  refine WC.region ?_
  refine wlv (op_assign (lt_ rfl) rfl) rfl ?_
  refine WL.nil ?_
  refine WX.regs (L' := [(1, _), (5, _), (6, _)]) ?_
  refine WX.next ?_
  refine WC.block ?_
  refine WC.loop (X := Nat) (fun q => n % 1500 - q) (fun q => q ≤ n % 1500) (fun q => [(1, bv f), (5, .slice (some ⟨b1, 0, none⟩) (n % 1500) (n % 1500)), (6, .int .i64 (q : Int))]) (fun q => [own (.slice (some ⟨b1, 0, none⟩) (n % 1500) (n % 1500)) 5 1 (n % 1500) (bvs (byteW n f q)), frameC w0 (MutF [])]) (0) (Nat.zero_le _) (fun a w hs => hs.sub xY xT) ?_
  rintro i hi
  try dsimp only
  refine WC.seq ?_
  refine WC.seq ?_
  refine WC.region ?_
  refine wlv (op_move (lt_ rfl) rfl) rfl ?_
  refine wlv (op_move (lt_ rfl) rfl) rfl ?_
  refine wlv (op_len Try.underlying23 (lt_ rfl) rfl) rfl ?_
  refine wlv (op_lss (lt_ rfl) rfl rfl) rfl ?_
  refine WL.nil ?_
  refine WX.regs (L' := [(1, _), (5, _), (6, _), (14, _)]) ?_
  refine WX.next ?_
  refine WC.cond rfl (fun h1 => ?_) (fun h1 => ?_)
  ·
    refine WC.skip ?_
    refine WX.next ?_
    refine WC.seq ?_
    refine WC.block ?_
    refine WC.region ?_
    refine wlv (op_move (lt_ rfl) rfl) rfl ?_
    refine wlv (op_move (lt_ rfl) rfl) rfl ?_
    refine wlv (op_move (lt_ rfl) rfl) rfl ?_
    refine wlv (op_move (lt_ rfl) rfl) rfl ?_
    refine wlv (op_convByte (by kernel_rfl) Try.underlying5 (lt_ rfl) rfl (by omega)) rfl ?_
    refine wlv (op_mul8 (b := 7) (lt_ rfl) rfl rfl) rfl ?_
    refine wlv (op_add8 (lt_ rfl) rfl rfl) rfl ?_
    refine wlv (op_index Try.underlying23 sz5 (lt_ rfl) rfl rfl (by omega) (by omega) (by decide) xS) rfl ?_
    refine wl (op_storeS sz5 rfl rfl xK rfl rfl (by rw [bvs_length, byteW_length (by omega)]; omega) (by decide)) rfl ?_
    change WL _ _ _ _ _ _ _
    refine WL.nil ?_
    refine WX.ownEq (v := .slice (some ⟨b1, 0, none⟩) (n % 1500) (n % 1500)) (bvs (byteW n f (i + 1))) xK (by rw [← byteW_set (by omega)]; exact bvs_put (k := i) (by omega) (by rw [byteW_length (by omega)]; omega)) ?_
    refine WX.regs (L' := [(1, _), (5, _), (6, _)]) ?_
    refine WX.in_normal ?_
    refine WX.next ?_
    refine WC.region ?_
    refine wlv (op_move (lt_ rfl) rfl) rfl ?_
    refine wlv (op_add (lt_ rfl) rfl rfl (by omega)) rfl ?_
    refine wlv (op_assign (lt_ rfl) rfl) rfl ?_
    refine WL.nil ?_
    refine WX.regs (L' := [(1, _), (5, _), (6, _)]) ?_
    refine WX.meet (i + 1) ⟨by omega, by omega⟩ (fun a w hs => hs.sub xY xT)
  ·
    refine WC.exit ?_
    refine WX.then_exit ?_
    refine WX.then_exit ?_
    refine WX.in_hit ?_
    refine WX.next ?_
    refine WC.seq ?_
    refine WC.region ?_
    refine wlv (op_move (lt_ rfl) rfl) rfl ?_
    refine wlv (op_assign (lt_ rfl) rfl) rfl ?_
    refine WL.nil ?_
    refine WX.regs (L' := [(4, _)]) ?_
    refine WX.next ?_
    refine WC.ret ?_
    obtain rfl : i = n % 1500 := by omega
    rw [show byteW n f (n % 1500) = bytesM n f by simp [byteW, bytesM]]
    exact Fin.ret1 xI (b1) (trivial) Try.results19 (.tmp rfl) xT (by simp)
set_option maxHeartbeats 400000 in
set_option maxRecDepth 10000 in
theorem f24_spec (A : Option Addr) (m c : Nat) (cs : List UInt8) (hm : cs.length = m) (hmx : m ≤ 1000000) :
    Spec Try.prog 24 [.slice A m c] [] [rd (.slice A m c) 1 m (bvs cs)] (R := Option Addr × Nat) (fun _ => True) (fun r => .slice r.1 m r.2) (fun r => [own (.slice r.1 m r.2) 5 1 m (bvs (fatesM cs))]) := by
  refine Spec.intro Try.func24 Try.ntmps24 rfl (by simp) (by simp) fun w0 => ?_
  refine WC.seq ?_
  refine WC.region ?_
  refine wlv (op_assign (lt_ rfl) rfl) rfl ?_
  refine WL.nil ?_
  refine WX.regs (L' := [(0, _)]) ?_
  refine WX.next ?_
  refine WC.seq ?_
  refine WC.region ?_
  refine wlv (op_assign (lt_ rfl) rfl) rfl ?_
  refine WL.nil ?_
  refine WX.regs (L' := [(0, _), (3, _)]) ?_
  refine WX.next ?_
  refine WC.seq ?_
  refine WC.seq ?_
  refine WC.region ?_
  refine wlv (op_assign (lt_ rfl) rfl) rfl ?_
  refine WL.nil ?_
  refine WX.regs (L' := [(0, _), (3, _), (4, _)]) ?_
  refine WX.next ?_
  refine WC.block ?_
  refine WC.nilslice 5 1 ?_
  refine WC.loop (X := Nat × Option Addr × Nat) (fun q => m - q.1) (fun q => q.1 ≤ m) (fun q => [(0, .slice A m c), (3, .slice q.2.1 q.1 q.2.2), (4, .int .i64 (q.1 : Int))]) (fun q => [own (.slice q.2.1 q.1 q.2.2) 5 1 q.1 (bvs (fatesM (cs.take q.1))), rd (.slice A m c) 1 m (bvs cs), frameC w0 (MutF [])]) ((0, none, 0)) (Nat.zero_le _) (fun a w hs => hs.sub xY xT) ?_
  rintro ⟨i, Ao, co⟩ hi
  try dsimp only at hi ⊢
  refine WC.seq ?_
  refine WC.seq ?_
  refine WC.region ?_
  refine wlv (op_move (lt_ rfl) rfl) rfl ?_
  refine wlv (op_move (lt_ rfl) rfl) rfl ?_
  refine wlv (op_len Try.underlying23 (lt_ rfl) rfl) rfl ?_
  refine wlv (op_lss (lt_ rfl) rfl rfl) rfl ?_
  refine WL.nil ?_
  refine WX.regs (L' := [(0, _), (3, _), (4, _), (9, _)]) ?_
  refine WX.next ?_
  refine WC.cond rfl (fun h1 => ?_) (fun h1 => ?_)
  ·
    refine WC.skip ?_
    refine WX.next ?_
    refine WC.seq ?_
    refine WC.block ?_
    refine WC.seq ?_
    refine WC.region ?_
    obtain ⟨x, hx⟩ : ∃ x, cs[i]? = some x := ⟨cs[i]'(by omega), List.getElem?_eq_getElem _⟩
    have hx8 := x.toNat_lt
    refine wlv (op_move (lt_ rfl) rfl) rfl ?_
    refine wlv (op_move (lt_ rfl) rfl) rfl ?_
    refine wlv (op_index Try.underlying23 sz5 (lt_ rfl) rfl rfl (by omega) (by omega) (by decide) xS) rfl ?_
    refine wlv (op_loadS fl5 (lt_ rfl) rfl xS (show (bvs cs)[_]? = some (bv x) by unfold bvs; rw [List.getElem?_map, show ((i : Int)).toNat * 1 = i by omega, hx]; rfl)) rfl ?_
    refine wlv (op_assign (lt_ rfl) rfl) rfl ?_
    refine WL.nil ?_
    refine WX.regs (L' := [(0, _), (3, _), (4, _), (5, _)]) ?_
    refine WX.next ?_
    refine WC.seq ?_
    refine WC.seq ?_
    refine WC.region ?_
    refine wlv (op_move (lt_ rfl) rfl) rfl ?_
    refine wlv (op_rem (k := .u8) (a := (x.toNat : Int)) (lt_ rfl) rfl rfl (by omega) (by omega)) rfl ?_
    refine wlv (op_eql (lt_ rfl) rfl rfl) rfl ?_
    refine WL.nil ?_
    refine WX.regs (L' := [(0, _), (3, _), (4, _), (5, _), (18, _)]) ?_
    refine WX.next ?_
    refine WC.cond rfl (fun h2 => ?_) (fun h2 => ?_)
    ·
      refine WC.region ?_
      refine wlv (op_move (lt_ rfl) rfl) rfl ?_
      refine wlv (op_quo8 (a := (x.toNat : Int)) (lt_ rfl) rfl rfl (by omega) (by omega)) rfl ?_
      refine wlv (op_rem (lt_ rfl) rfl rfl (by omega) (by omega)) rfl ?_
      refine wlv (op_assign (lt_ rfl) rfl) rfl ?_
      refine WL.nil ?_
      rw [show Value.int .u8 ((x.toNat : Int) / 3 % 2) = bv (UInt8.ofNat (x.toNat / 3 % 2)) by unfold bv; rw [UInt8.toNat_ofNat']; congr 1; omega]
      refine WX.regs (L' := [(0, _), (3, _), (4, _), (5, _)]) ?_
      refine WX.next ?_
      refine WC.region ?_
      refine wlv (op_move (lt_ rfl) rfl) rfl ?_
      refine wlv (op_move (lt_ rfl) rfl) rfl ?_
      refine wl1 (op_lit1 Try.underlying23 ti5 rfl (by decide) (lt_ rfl) rfl rfl) rfl fun b1 => ?_
      refine wl2 (op_append Try.underlying23 ti5 rfl (by decide) (lt_ rfl) rfl rfl xK xS xO (by omega) (by omega)) rfl fun A1 c1 => ?_
      refine wlv (op_assign (lt_ rfl) rfl) rfl ?_
      refine WL.nil ?_
      refine WX.regs (L' := [(0, _), (3, _), (4, _)]) ?_
      refine WX.in_normal ?_
      refine WX.next ?_
      refine WC.region ?_
      refine wlv (op_move (lt_ rfl) rfl) rfl ?_
      refine wlv (op_add (lt_ rfl) rfl rfl (by omega)) rfl ?_
      refine wlv (op_assign (lt_ rfl) rfl) rfl ?_
      refine WL.nil ?_
      refine WX.regs (L' := [(0, _), (3, _), (4, _)]) ?_
      refine WX.ownEq (v := .slice A1 (i + 1) c1) (bvs (fatesM (cs.take (i + 1)))) xK (by rw [take_snoc hx, ← fates_snoc, show fateM x = UInt8.ofNat (x.toNat / 3 % 2) from if_pos (by omega)]; rfl) ?_
      refine WX.meet ((i + 1, A1, c1)) ⟨by simp only []; omega, by simp only []; omega⟩ (fun a w hs => hs.sub xY xT)
    ·
      refine WC.skip ?_
      refine WX.next ?_
      refine WC.region ?_
      refine wlv (op_move (lt_ rfl) rfl) rfl ?_
      refine wlv (op_move (lt_ rfl) rfl) rfl ?_
      refine wl1 (op_lit1 Try.underlying23 ti5 rfl (by decide) (lt_ rfl) rfl rfl) rfl fun b2 => ?_
      refine wl2 (op_append Try.underlying23 ti5 rfl (by decide) (lt_ rfl) rfl rfl xK xS xO (by omega) (by omega)) rfl fun A2 c2 => ?_
      refine wlv (op_assign (lt_ rfl) rfl) rfl ?_
      refine WL.nil ?_
      refine WX.regs (L' := [(0, _), (3, _), (4, _)]) ?_
      refine WX.in_normal ?_
      refine WX.next ?_
      refine WC.region ?_
      refine wlv (op_move (lt_ rfl) rfl) rfl ?_
      refine wlv (op_add (lt_ rfl) rfl rfl (by omega)) rfl ?_
      refine wlv (op_assign (lt_ rfl) rfl) rfl ?_
      refine WL.nil ?_
      refine WX.regs (L' := [(0, _), (3, _), (4, _)]) ?_
      refine WX.ownEq (v := .slice A2 (i + 1) c2) (bvs (fatesM (cs.take (i + 1)))) xK (by rw [take_snoc hx, ← fates_snoc, show fateM x = x from if_neg (by omega)]; rfl) ?_
      refine WX.meet ((i + 1, A2, c2)) ⟨by simp only []; omega, by simp only []; omega⟩ (fun a w hs => hs.sub xY xT)
  ·
    refine WC.exit ?_
    refine WX.then_exit ?_
    refine WX.then_exit ?_
    refine WX.in_hit ?_
    refine WX.next ?_
    refine WC.seq ?_
    refine WC.region ?_
    refine wlv (op_move (lt_ rfl) rfl) rfl ?_
    refine wlv (op_assign (lt_ rfl) rfl) rfl ?_
    refine WL.nil ?_
    refine WX.regs (L' := [(2, _)]) ?_
    refine WX.next ?_
    refine WC.ret ?_
    obtain rfl : i = m := by omega
    rw [List.take_of_length_le (by omega)]
    exact Fin.ret1 xI ((Ao, co)) (trivial) Try.results24 (.tmp rfl) xT (by simp)
set_option maxHeartbeats 400000 in
set_option maxRecDepth 10000 in
theorem f10_spec (A : Option Addr) (m c : Nat) (l : List OpR) (hm : l.length = m) :
    Spec Try.prog 10 [.slice A m c] [] [rd (.slice A m c) 4 m (l.flatMap OpR.cells)] (R := Bool) (fun b => b = true ↔ fitsM l) (fun b => .bool b) (fun _ => []) := by
  refine Spec.intro Try.func10 Try.ntmps10 rfl (by simp) (by simp) fun w0 => ?_
  refine WC.capm (A := A) (m := m) (c := c) (sz := 4) (xs := l.flatMap OpR.cells) (Src.rd xM) (fun hcm => ?_)
  refine WC.seq ?_
  refine WC.region ?_
  refine wlv (op_assign (lt_ rfl) rfl) rfl ?_
  refine WL.nil ?_
  refine WX.regs (L' := [(0, _)]) ?_
  refine WX.next ?_
  refine WC.seq ?_
  refine WC.seq ?_
  refine WC.region ?_
  refine wlv (op_assign (lt_ rfl) rfl) rfl ?_
  refine WL.nil ?_
  refine WX.regs (L' := [(0, _), (3, _)]) ?_
  refine WX.next ?_
  refine WC.block ?_
  refine WC.loop (X := Nat) (fun q => m - q) (fun q => q ≤ m ∧ ∀ o ∈ l.take q, o.ch.s.length ≤ 100) (fun q => [(0, .slice A m c), (3, .int .i64 (q : Int))]) (fun q => [rd (.slice A m c) 4 m (l.flatMap OpR.cells), frameC w0 (MutF [])]) (0) (⟨Nat.zero_le _, fun o ho => by simp at ho⟩) (fun a w hs => hs.sub xY xT) ?_
  rintro i ⟨hi, ha⟩
  try dsimp only
  refine WC.seq ?_
  refine WC.seq ?_
  refine WC.region ?_
  refine wlv (op_move (lt_ rfl) rfl) rfl ?_
  refine wlv (op_move (lt_ rfl) rfl) rfl ?_
  refine wlv (op_len Try.underlying22 (lt_ rfl) rfl) rfl ?_
  refine wlv (op_lss (lt_ rfl) rfl rfl) rfl ?_
  refine WL.nil ?_
  refine WX.regs (L' := [(0, _), (3, _), (7, _)]) ?_
  refine WX.next ?_
  refine WC.cond rfl (fun h1 => ?_) (fun h1 => ?_)
  ·
    refine WC.skip ?_
    refine WX.next ?_
    refine WC.seq ?_
    refine WC.block ?_
    refine WC.seq ?_
    refine WC.region ?_
    obtain ⟨x, hx⟩ : ∃ x, l[i]? = some x := ⟨l[i]'(by omega), List.getElem?_eq_getElem _⟩
    have hz : ∀ j, j = i * 4 → ((l.flatMap OpR.cells).drop j).take 4 = x.cells := fun j hj => by rw [hj]; exact flat_at (f := OpR.cells) (sz := 4) (fun _ => rfl) l i x hx
    refine wlv (op_move (lt_ rfl) rfl) rfl ?_
    refine wlv (op_move (lt_ rfl) rfl) rfl ?_
    refine wlv (op_index Try.underlying22 sz42 (lt_ rfl) rfl rfl (by omega) (by omega) (by decide) xS) rfl ?_
    refine wlv (op_fieldAddrS fo42_3 (lt_ rfl) rfl xS (by rw [flat_len (f := OpR.cells) (sz := 4) (fun _ => rfl)]; omega)) rfl ?_
    refine wlv (op_loadS fl23 (lt_ rfl) rfl xS ((row_get (k := 3) (hz _ (by omega)) (by decide)).trans rfl)) rfl ?_
    refine wlv (op_len Try.underlying23 (lt_ rfl) rfl) rfl ?_
    refine wlv (op_gtr (lt_ rfl) rfl rfl) rfl ?_
    refine WL.nil ?_
    refine WX.regs (L' := [(0, _), (3, _), (16, _)]) ?_
    refine WX.next ?_
    refine WC.cond rfl (fun h2 => ?_) (fun h2 => ?_)
    ·
      refine WC.seq ?_
      refine WC.region ?_
      refine wlv (op_assign (lt_ rfl) rfl) rfl ?_
      refine WL.nil ?_
      refine WX.regs (L' := [(2, _)]) ?_
      refine WX.next ?_
      refine WC.ret ?_
      refine WX.in_ret ?_
      refine WX.then_ret ?_
      refine WX.then_ret ?_
      refine WX.in_ret ?_
      refine WX.then_ret ?_
      exact Fin.ret1 xI (false) (⟨fun h => (by cases h), fun h => by have := h.2 x (List.mem_of_getElem? hx); omega⟩) Try.results10 (.tmp rfl) xT (by simp)
    ·
      refine WC.skip ?_
      refine WX.in_normal ?_
      refine WX.next ?_
      refine WC.region ?_
      refine wlv (op_move (lt_ rfl) rfl) rfl ?_
      refine wlv (op_add (lt_ rfl) rfl rfl (by omega)) rfl ?_
      refine wlv (op_assign (lt_ rfl) rfl) rfl ?_
      refine WL.nil ?_
      refine WX.regs (L' := [(0, _), (3, _)]) ?_
      refine WX.meet (i + 1) ⟨⟨by omega, fun o ho => by rw [take_snoc hx] at ho; rcases List.mem_append.1 ho with h | h; exact ha o h; rw [List.mem_singleton.1 h]; omega⟩, by omega⟩ (fun a w hs => hs.sub xY xT)
  ·
    refine WC.exit ?_
    refine WX.then_exit ?_
    refine WX.then_exit ?_
    refine WX.in_hit ?_
    refine WX.next ?_
    refine WC.seq ?_
    refine WC.region ?_
    refine wlv (op_move (lt_ rfl) rfl) rfl ?_
    refine wlv (op_len Try.underlying22 (lt_ rfl) rfl) rfl ?_
    refine wlv (op_leq (lt_ rfl) rfl rfl) rfl ?_
    refine wlv (op_assign (lt_ rfl) rfl) rfl ?_
    refine WL.nil ?_
    refine WX.regs (L' := [(2, _)]) ?_
    refine WX.next ?_
    refine WC.ret ?_
    exact Fin.ret1 xI (_) (by have e : l.take i = l := List.take_of_length_le (by omega); rw [e] at ha; rw [decide_eq_true_iff]; exact ⟨fun h => ⟨by omega, ha⟩, fun h => by have := h.1; omega⟩) Try.results10 (.tmp rfl) xT (by simp)
end Go.Proofs.Ytkjlbedebmffgaa.Sx

set_option linter.unusedVariables false
set_option linter.unusedSimpArgs false
namespace Go.Proofs.Ytkjlbedebmffgaa.Sx
open Go.RowKit Go.Proofs.Ytkjlbedebmffgaa.Ty
attribute [local irreducible] blk own rd rx frameC

/-- What the walks ask of a journal. -/
structure Jok (D : Dk) (J : Jn) (es : List (List UInt8)) : Prop where
  fs : 0 ≤ J.fi ∧ 8 ≤ J.se ∧ J.fi + J.se ≤ D.n
  n : D.n ≤ 100000
  cur : 0 ≤ J.cur ∧ J.cur ≤ 1
  gen : 0 ≤ J.gen ∧ J.gen ≤ 2147483647
  used : 0 ≤ J.used ∧ J.used ≤ 1000000
  first : 0 ≤ J.first ∧ J.first ≤ 1000000000
  dn : J.failed = 0 → D.down = false
  len : es.length ≤ 100000
  pl : ∀ p ∈ es, p.length ≤ 131072
  mx : D.pend.length + (1 + needs es) ≤ 900000
def stepM (D : Dk) (J : Jn) (es : List (List UInt8)) (o : OpR) : Dk × Jn × List (List UInt8) × Int :=
  if o.k.toNat % 3 = 0 then ((appendM D J es (bytesM o.n o.b)).1, (appendM D J es (bytesM o.n o.b)).2.1, (appendM D J es (bytesM o.n o.b)).2.2.1, (appendM D J es (bytesM o.n o.b)).2.2.2.2)
  else if o.k.toNat % 3 = 1 then ((syncM D J es.length).1, (syncM D J es.length).2.1, es, (syncM D J es.length).2.2)
  else truncM D J (J.first + ((o.n % 12 : Nat) : Int) - 2) es
theorem bytesM_length (n : Nat) (f : UInt8) : (bytesM n f).length = n % 1500 := by simp [bytesM]
set_option maxHeartbeats 400000 in
set_option maxRecDepth 10000 in
theorem f20_spec (bd bm : Nat) (A : Option Addr) (c : Nat) (D : Dk) (bj : Nat) (J : Jn) (A0 : Option Addr) (c0 : Nat) (rs : List Bs) (o : OpR) (ho : o.n < 65536) (hok : Jok D J (rs.map Bs.s)) :
    Spec Try.prog 20 [.pointer (some ⟨bj, 0, none⟩), .agg o.cells.toArray] [blk bd (dcells D bm A c) 66, mapC bm (dmap D.dur), own (.slice A D.pend.length c) 84 257 D.pend.length (D.pend.flatMap wcs), blk bj (jcells J bd A0 rs.length c0) 76, own (.slice A0 rs.length c0) 23 1 rs.length (rs.map Bs.v), rowsC true rs] [] (R := (Option Addr × Nat) × (Option Addr × Nat) × List Bs)
      (fun q => q.2.2.map Bs.s = (stepM D J (rs.map Bs.s) o).2.2.1) (fun _ => .int .i64 (stepM D J (rs.map Bs.s) o).2.2.2)
      (fun q => [blk bd (dcells (stepM D J (rs.map Bs.s) o).1 bm q.1.1 q.1.2) 66, mapC bm (dmap (stepM D J (rs.map Bs.s) o).1.dur), own (.slice q.1.1 (stepM D J (rs.map Bs.s) o).1.pend.length q.1.2) 84 257 (stepM D J (rs.map Bs.s) o).1.pend.length ((stepM D J (rs.map Bs.s) o).1.pend.flatMap wcs), blk bj (jcells (stepM D J (rs.map Bs.s) o).2.1 bd q.2.1.1 q.2.2.length q.2.1.2) 76, own (.slice q.2.1.1 q.2.2.length q.2.1.2) 23 1 q.2.2.length (q.2.2.map Bs.v), rowsC true q.2.2]) := by
  have hc := o.k.toNat_lt
  have h1f := hok.fs
  have h2f := hok.n
  have h3f := hok.first
  have h4f := hok.len
  have h5f := hok.mx
  rw [List.length_map] at h4f
  have hb := bytesM_length o.n o.b
  have hrl : ((rs.map Bs.s).length : Nat) = rs.length := List.length_map ..
  refine Spec.intro Try.func20 Try.ntmps20 rfl (by simp) (by simp) fun w0 => ?_
  refine WC.seq ?_
  refine WC.region ?_
  refine wl1 (op_box (lt_ rfl) rfl rfl) rfl fun b1 => ?_
  refine wlv (op_assign (lt_ rfl) rfl) rfl ?_
  refine WL.nil ?_
  refine WX.regs (L' := [(0, _), (3, _)]) ?_
  refine WX.next ?_
  refine WC.seq ?_
  refine WC.seq ?_
  refine WC.region ?_
  refine wlv (op_fieldAddr fo42_0 (lt_ rfl) rfl) rfl ?_
  refine wlv (op_load1 fl5 (lt_ rfl) rfl xM rfl) rfl ?_
  refine wlv (op_rem (k := .u8) (a := (o.k.toNat : Int)) (lt_ rfl) rfl rfl (by omega) (by omega)) rfl ?_
  refine WL.nil ?_
  refine WX.regs (L' := [(0, _), (3, _), (9, _)]) ?_
  refine WX.next ?_
  refine WC.block ?_
  refine WC.seq ?_
  refine WC.region ?_
  refine wlv (op_eql (lt_ rfl) rfl rfl) rfl ?_
  refine wlv (op_assign (lt_ rfl) rfl) rfl ?_
  refine WL.nil ?_
  refine WX.regs (L' := [(0, _), (3, _), (9, _), (10, _)]) ?_
  refine WX.next ?_
  refine WC.cond rfl (fun h1 => ?_) (fun h1 => ?_)
  ·
    refine WC.seq ?_
    refine WC.region ?_
    refine wlv (op_move (lt_ rfl) rfl) rfl ?_
    refine wlv (op_fieldAddr fo42_1 (lt_ rfl) rfl) rfl ?_
    refine wlv (op_load1 fl40 (lt_ rfl) rfl xM rfl) rfl ?_
    refine wlv (op_fieldAddr fo42_2 (lt_ rfl) rfl) rfl ?_
    refine wlv (op_load1 fl5 (lt_ rfl) rfl xM rfl) rfl ?_
    refine wlx (op_call (f19_spec o.n ho o.b) ca19 (lt_ rfl) rfl) rfl ?_
    rintro bb _
    refine wlx (op_call (f27_spec bd bm A c D bj J A0 c0 rs (some ⟨bb, 0, none⟩) (o.n % 1500) (o.n % 1500) (bytesM o.n o.b) hb (by omega) hok.cur hok.gen hok.used (by omega) h4f (by omega)) ca27 (lt_ rfl) rfl) rfl ?_
    rintro ⟨⟨A9, c9⟩, ⟨Aj, cj⟩, rs2⟩ hrs2
    dsimp only at hrs2 ⊢
    refine wlv (op_move (lt_ rfl) rfl) rfl ?_
    refine wlv (op_extract (lt_ rfl) rfl rfl) rfl ?_
    refine wlv (op_extract (lt_ rfl) rfl rfl) rfl ?_
    refine wlv (op_assign (lt_ rfl) rfl) rfl ?_
    refine wlv (op_assign (lt_ rfl) rfl) rfl ?_
    refine WL.nil ?_
    refine WX.regs (L' := [(6, _)]) ?_
    refine WX.next ?_
    refine WC.seq ?_
    refine WC.region ?_
    refine wlv (op_move (lt_ rfl) rfl) rfl ?_
    refine wlv (op_assign (lt_ rfl) rfl) rfl ?_
    refine WL.nil ?_
    refine WX.regs (L' := [(4, _)]) ?_
    refine WX.next ?_
    refine WC.ret ?_
    refine WX.in_ret ?_
    refine WX.then_ret ?_
    have hs : stepM D J (rs.map Bs.s) o = ((appendM D J (rs.map Bs.s) (bytesM o.n o.b)).1, (appendM D J (rs.map Bs.s) (bytesM o.n o.b)).2.1, (appendM D J (rs.map Bs.s) (bytesM o.n o.b)).2.2.1, (appendM D J (rs.map Bs.s) (bytesM o.n o.b)).2.2.2.2) := if_pos (by omega)
    rw [hs]
    dsimp only
    exact Fin.ret1 xI (((A9, c9), (Aj, cj), rs2)) (hrs2) Try.results20 (.tmp rfl) xT (by simp)
  ·
    refine WC.seq ?_
    refine WC.region ?_
    refine wlv (op_eql (lt_ rfl) rfl rfl) rfl ?_
    refine wlv (op_assign (lt_ rfl) rfl) rfl ?_
    refine WL.nil ?_
    refine WX.regs (L' := [(0, _), (3, _), (23, _)]) ?_
    refine WX.next ?_
    refine WC.cond rfl (fun h2 => ?_) (fun h2 => ?_)
    ·
      refine WC.seq ?_
      refine WC.region ?_
      refine wlv (op_move (lt_ rfl) rfl) rfl ?_
      refine wlx (op_call (f38_spec bd bm A c D bj J A0 rs.length c0 (by omega) (by omega)) ca38 (lt_ rfl) rfl) rfl ?_
      rintro ⟨A9, c9⟩ _
      refine wlv (op_assign (lt_ rfl) rfl) rfl ?_
      refine WL.nil ?_
      refine WX.regs (L' := [(4, _)]) ?_
      refine WX.next ?_
      refine WC.ret ?_
      refine WX.in_ret ?_
      refine WX.then_ret ?_
      have hs : stepM D J (rs.map Bs.s) o = ((syncM D J rs.length).1, (syncM D J rs.length).2.1, rs.map Bs.s, (syncM D J rs.length).2.2) := by unfold stepM; rw [hrl, if_neg (by omega), if_pos (by omega)]
      rw [hs]
      dsimp only
      exact Fin.ret1 xI (((A9, c9), (A0, c0), rs)) (rfl) Try.results20 (.tmp rfl) xT (by simp)
    ·
      refine WC.skip ?_
      refine WX.in_normal ?_
      refine WX.next ?_
      refine WC.seq ?_
      refine WC.drawn (Hs := [blk b1 o.cells 42]) mo 999 ?_
      refine WA.take (i := 0) rfl (by kernel_rfl) (fun _ _ _ h => h) rfl (op_move (lt_ rfl) rfl) xT ?_
      refine WA.take (i := 1) rfl (by kernel_rfl) (fun _ _ _ h => h) rfl (op_move (lt_ rfl) rfl) xT ?_
      refine WA.take (i := 3) rfl (by kernel_rfl) (fun _ _ _ h => h) rfl (op_fieldAddr fo42_1 (lt_ rfl) rfl) xT ?_
      refine WA.take (i := 4) rfl (by kernel_rfl) (fun _ _ _ h => h) rfl (op_load1 fl40 (lt_ rfl) rfl xM rfl) xT ?_
      refine WA.take (i := 5) rfl (by kernel_rfl) (fun _ _ _ h => h) rfl (op_rem (k := .u16) (lt_ rfl) rfl rfl (by omega) (by omega)) xT ?_
      refine WA.take (i := 6) rfl (by kernel_rfl) (fun _ _ _ h => h) rfl (op_conv16i (by kernel_rfl) Try.underlying3 (lt_ rfl) rfl (by omega)) xT ?_
      rw [show ((o.n : Int)) % 12 = ((o.n % 12 : Nat) : Int) by omega]
      refine WA.stepx (i := 2) (by kernel_rfl) rfl rfl (op_call (f18_spec bj bd J A0 rs.length c0) ca18 (lt_ rfl) rfl) (fun _ r => xT) ?_
      rintro _ _
      refine WA.take (i := 7) rfl (by kernel_rfl) (fun _ _ _ h => h) rfl (op_add (lt_ rfl) rfl rfl (by omega)) xT ?_
      refine WA.take (i := 8) rfl (by kernel_rfl) (fun _ _ _ h => h) rfl (op_sub (lt_ rfl) rfl rfl (by omega)) xT ?_
      refine WA.stepx (i := 9) (by kernel_rfl) rfl rfl (op_call (f28_spec bd bm A c D bj J A0 c0 (J.first + ((o.n % 12 : Nat) : Int) - 2) rs hok.dn hok.fs hok.cur (by omega) (by omega) (fun r hr => hok.pl _ (List.mem_map_of_mem hr)) (by omega) (by omega)) ca28 (lt_ rfl) rfl) (fun _ r => xT) ?_
      rintro ⟨⟨A9, c9⟩, ⟨Aj, cj⟩, rs2⟩ hrs2
      dsimp only at hrs2 ⊢
      refine WA.take (i := 10) rfl (by kernel_rfl) (fun _ _ _ h => h) rfl (op_assign (lt_ rfl) rfl) xT ?_
      refine WA.done (by kernel_rfl) ?_
      refine WX.regs (L' := [(4, _)]) ?_
      refine WX.next ?_
      refine WC.ret ?_
      have hs : stepM D J (rs.map Bs.s) o = truncM D J (J.first + ((o.n % 12 : Nat) : Int) - 2) (rs.map Bs.s) := by unfold stepM; rw [if_neg (by omega), if_neg (by omega)]
      rw [hs]
      exact Fin.ret1 xI (((A9, c9), (Aj, cj), rs2)) (hrs2) Try.results20 (.tmp rfl) xT (by simp)
end Go.Proofs.Ytkjlbedebmffgaa.Sx

/- Plain laws: what is found in an area's sectors. -/
set_option linter.unusedVariables false
set_option linter.unusedSimpArgs false
namespace Go.Proofs.Ytkjlbedebmffgaa.Sx
abbrev Sec := List UInt8
/-- The generation of a sector that can be read. -/
def gof (s : Sec) : Option Int := if (dec s).2 = 0 then some (dec s).1.g else none
theorem gof_some {s : Sec} {g : Int} : gof s = some g ↔ (dec s).2 = 0 ∧ (dec s).1.g = g := by
  unfold gof
  split
  · rename_i h; simp [h]
  · rename_i h; simp [h]
/-- What the first list shows of a generation is in the second one too. -/
def Alike (g : Int) (c' c : List Sec) : Prop := c'.length = c.length ∧ ∀ (i : Nat) s, c'[i]? = some s → gof s = some g → c[i]? = some s
theorem Alike.drop {g : Int} {c' c : List Sec} (h : Alike g c' c) (k : Nat) : Alike g (c'.drop k) (c.drop k) := by
  refine ⟨by rw [List.length_drop, List.length_drop, h.1], fun i s hs hg => ?_⟩
  rw [List.getElem?_drop] at hs ⊢
  exact h.2 _ s hs hg
theorem jf_head {ss : List Sec} {f : Pt} : ∀ {r i : Nat} {acc : List UInt8} {q : Rcd} {c : Int}, jf ss f r i acc = (q, c, 0) → q.k = f.k ∧ q.g = f.g ∧ q.n = f.n := by
  intro r
  induction r with
  | zero =>
    intro i acc q c h
    unfold jf at h
    cases h
    exact ⟨rfl, rfl, rfl⟩
  | succ r ih =>
    intro i acc q c h
    unfold jf at h
    split at h
    · cases h
    · split at h
      · rename_i h1 h2
        simp only [Prod.mk.injEq] at h
        exact absurd h.2.2 h2
      · split at h
        · cases h
        · exact ih h
theorem getD_of {c : List Sec} {i : Nat} {s : Sec} (h : c[i]? = some s) : c.getD i [] = s := by simp [List.getD_eq_getElem?_getD, h]
theorem get_of {c : List Sec} {i : Nat} (h : i < c.length) : c[i]? = some (c.getD i []) := by simp [List.getD_eq_getElem?_getD, h]
theorem jf_alike {g : Int} {c' c : List Sec} (ha : Alike g c' c) {f : Pt} (hf : f.g = g) : ∀ {r i : Nat} {acc : List UInt8} {q : Rcd} {n : Int}, jf c' f r i acc = (q, n, 0) → jf c f r i acc = (q, n, 0) := by
  intro r
  induction r with
  | zero => intro i acc q n h; unfold jf at h ⊢; exact h
  | succ r ih =>
    intro i acc q n h
    unfold jf at h
    split at h
    · cases h
    · rename_i hl
      split at h
      · rename_i h2
        simp only [Prod.mk.injEq] at h
        exact absurd h.2.2 h2
      · rename_i h2
        split at h
        · cases h
        · rename_i h3
          have h2' := Decidable.not_not.1 h2
          have hs := get_of (c := c') (i := i) (by omega)
          have hg : (dec (c'.getD i [])).1.g = g := by
            have : ¬ ¬ ((dec (c'.getD i [])).1.k = f.k ∧ (dec (c'.getD i [])).1.g = f.g ∧ (dec (c'.getD i [])).1.n = f.n) := fun k => h3 (.inr (.inl k))
            rw [← hf]
            exact (Decidable.not_not.1 this).2.1
          have hc := getD_of (ha.2 i _ hs (gof_some.2 ⟨h2', hg⟩))
          unfold jf
          rw [hc, if_neg (by rw [← ha.1]; exact hl), if_neg h2, if_neg h3]
          exact ih h
theorem join_head {c : List Sec} {q : Rcd} {n : Int} (h : join c = (q, n, 0)) : 0 < c.length ∧ (dec (c.getD 0 [])).2 = 0 ∧ q.g = (dec (c.getD 0 [])).1.g := by
  unfold join at h
  split at h
  · cases h
  · split at h
    · rename_i h1 h2
      simp only [Prod.mk.injEq] at h
      exact absurd h.2.2 h2
    · split at h
      · cases h
      · rename_i h1 h2 h3
        exact ⟨by omega, Decidable.not_not.1 h2, (jf_head h).2.1⟩
theorem join_alike {g : Int} {c' c : List Sec} (ha : Alike g c' c) {q : Rcd} {n : Int} (h : join c' = (q, n, 0)) (hg : q.g = g) : join c = (q, n, 0) := by
  obtain ⟨h0, h1, h2⟩ := join_head h
  have hc := getD_of (ha.2 0 _ (get_of h0) (gof_some.2 ⟨h1, by rw [← h2, hg]⟩))
  unfold join at h ⊢
  rw [if_neg (by omega), if_neg (fun k => k h1)] at h
  rw [hc, if_neg (by rw [← ha.1]; omega), if_neg (fun k => k h1)]
  split at h
  · cases h
  · rename_i h3
    rw [if_neg h3]
    exact jf_alike ha (by rw [← h2, hg]) h
theorem scanF_acc {ss : List Sec} {g n : Int} : ∀ (fuel pos : Nat) (acc : List Rcd), ∃ l, (scanF ss g n fuel pos acc).1 = acc ++ l := by
  intro fuel
  induction fuel with
  | zero => intro pos acc; exact ⟨[], (List.append_nil _).symm⟩
  | succ f ih =>
    intro pos acc
    unfold scanF
    split
    · exact ⟨[], (List.append_nil _).symm⟩
    · split
      · exact ⟨[], (List.append_nil _).symm⟩
      · split
        · exact ⟨[], (List.append_nil _).symm⟩
        · obtain ⟨l, hl⟩ := ih (pos + (join (ss.drop pos)).2.1.toNat) (acc ++ [(join (ss.drop pos)).1])
          exact ⟨_, by rw [hl, List.append_assoc]⟩
theorem scanF_alike {g n : Int} {c' c : List Sec} (ha : Alike g c' c) : ∀ (fuel pos : Nat) (acc : List Rcd), ∃ l, (scanF c g n fuel pos acc).1 = (scanF c' g n fuel pos acc).1 ++ l := by
  intro fuel
  induction fuel with
  | zero => intro pos acc; exact ⟨[], (List.append_nil _).symm⟩
  | succ f ih =>
    intro pos acc
    have hstop : ∀ x, (scanF c' g n (f + 1) pos acc) = (acc, x) → ∃ l, (scanF c g n (f + 1) pos acc).1 = (scanF c' g n (f + 1) pos acc).1 ++ l := by
      intro x hx
      rw [hx]
      exact scanF_acc _ _ _
    by_cases h1 : pos < c'.length
    · by_cases h2 : (join (c'.drop pos)).2.2 = 0
      · by_cases h3 : (join (c'.drop pos)).1.g = g ∧ (join (c'.drop pos)).1.n = n + acc.length
        · have hj : join (c'.drop pos) = ((join (c'.drop pos)).1, (join (c'.drop pos)).2.1, 0) := by rw [← h2]
          have hj2 := join_alike (ha.drop pos) hj h3.1
          rw [scanF_go h1 hj.symm h3, scanF_go (by rw [← ha.1]; exact h1) hj2.symm h3]
          exact ih _ _
        · exact hstop _ (scanF_seq h1 (q := (join (c'.drop pos)).1) (c := (join (c'.drop pos)).2.1) (by rw [← h2]) h3)
      · exact hstop _ (scanF_err h1 (q := (join (c'.drop pos)).1) (c := (join (c'.drop pos)).2.1) rfl h2)
    · exact hstop _ (scanF_end h1)
theorem scan_alike {g : Int} {c' c : List Sec} (ha : Alike g c' c) : ∃ l, (scan g 0 c).1 = (scan g 0 c').1 ++ l := by
  unfold scan
  split
  · exact ⟨[], rfl⟩
  · rw [ha.1]
    exact scanF_alike ha _ _ _
theorem scanF_stop {ss : List Sec} {g n : Int} {fuel pos : Nat} {acc : List Rcd} (h : ∀ s, ss[pos]? = some s → ¬ gof s = some g) : (scanF ss g n fuel pos acc).1 = acc := by
  cases fuel with
  | zero => rfl
  | succ f =>
    unfold scanF
    split
    · rfl
    · rename_i h1
      split
      · rfl
      · rename_i h2
        split
        · rfl
        · rename_i h3
          exfalso
          have hj : join (ss.drop pos) = ((join (ss.drop pos)).1, (join (ss.drop pos)).2.1, 0) := by rw [← Decidable.not_not.1 h2]
          obtain ⟨h4, h5, h6⟩ := join_head hj
          have hs := get_of (c := ss) (i := pos) (by omega)
          have hd : (ss.drop pos).getD 0 [] = ss.getD pos [] := by simp [List.getD_eq_getElem?_getD]
          rw [hd] at h5 h6
          exact h _ hs (gof_some.2 ⟨h5, by rw [← h6]; exact (Decidable.not_not.1 h3).1⟩)
/-- Records of one kind, one after the other. -/
theorem scanF_recsK {k g : Int} {ss : List Sec} {fuel : Nat} : ∀ (ps : List Sec) (n n0 : Int) (pos : Nat) (acc : List Rcd) (tail : List Sec), ss.drop pos = recs k g n ps ++ tail → (∀ p ∈ ps, p.length ≤ 131072) → fineP k g n → n + ps.length ≤ 2147483647 →
    n = n0 + acc.length → scanF ss g n0 (fuel + ps.length) pos acc = scanF ss g n0 fuel (pos + needs ps) (acc ++ rcds k g n ps) := by
  intro ps
  induction ps with
  | nil => intro n n0 pos acc tail _ _ _ _ _; simp [needs, rcds]
  | cons p ps ih =>
    intro n n0 pos acc tail hd hp hf hn hacc
    have hp0 := hp p (List.mem_cons_self ..)
    have hnd := need_le hp0
    have hj : join (ss.drop pos) = ((⟨k, g, n, p⟩ : Rcd), ((need p.length : Nat) : Int), (0 : Int)) := join_sects hf hp0 fun j hj => by
      rw [hd, recs, List.append_assoc, List.getElem?_append_left (by rw [sects_length]; exact hj), sects_at hj]
    have hlt : pos < ss.length := by
      have := congrArg List.length hd
      simp only [List.length_drop, recs, List.length_append, sects_length] at this
      omega
    simp only [List.length_cons] at hn
    rw [List.length_cons, ← Nat.add_assoc, scanF_go hlt hj.symm ⟨rfl, hacc⟩, Int.toNat_natCast,
      ih (n + 1) n0 (pos + need p.length) (acc ++ [(⟨k, g, n, p⟩ : Rcd)]) tail (by rw [← List.drop_drop, hd, recs, List.append_assoc, List.drop_left' (sects_length ..)]) (fun q hq => hp q (List.mem_cons_of_mem _ hq)) (by simp only [fineP] at *; omega) (by omega) (by simp only [List.length_append, List.length_singleton]; omega)]
    simp only [needs, rcds, List.append_assoc, List.singleton_append]
    congr 1
    omega
/-- An area: a head that tells of 'c0' entries, and entries. -/
def areaC (g f : Int) (c0 : Nat) (es : List Sec) : List Sec := sects 1 g 0 (headP f c0) ++ recs 2 g 1 es
theorem areaS_C (g f : Int) (es : List Sec) : areaS g f es = areaC g f es.length es := rfl
theorem areaC_length (g f : Int) (c0 : Nat) (es : List Sec) : (areaC g f c0 es).length = 1 + needs es := by
  unfold areaC
  rw [List.length_append, sects_length, headP_length, recs_length]
  rfl
theorem areaC_append (g f : Int) (c0 : Nat) (es ts : List Sec) : areaC g f c0 (es ++ ts) = areaC g f c0 es ++ recs 2 g (1 + es.length) ts := by
  unfold areaC
  rw [recs_append, List.append_assoc]
def rcA (g f : Int) (c0 : Nat) (es : List Sec) : List Rcd := ⟨1, g, 0, headP f c0⟩ :: rcds 2 g 1 es
/-- The conditions on what is written. -/
structure Fine (g : Int) (es : List Sec) : Prop where
  g : 0 ≤ g ∧ g ≤ 2147483647
  l : es.length ≤ 1000000
  p : ∀ p ∈ es, p.length ≤ 131072
theorem scan_run {g f : Int} {c0 : Nat} {es tail c : List Sec} (hf : Fine g es) (hc : c = areaC g f c0 es ++ tail) : ∃ fuel, (scan g 0 c).1 = (scanF c g 0 fuel (1 + needs es) (rcA g f c0 es)).1 := by
  have hl : c.length = 1 + needs es + tail.length := by rw [hc, List.length_append, areaC_length]
  have hn := needs_le es
  have hg := hf.g
  have hln := hf.l
  have h16 := headP_length f c0
  obtain ⟨fu, hfu⟩ : ∃ fu, c.length = (fu + es.length) + 1 := ⟨c.length - es.length - 1, by omega⟩
  refine ⟨fu, ?_⟩
  have hj : join (c.drop 0) = ((⟨1, g, 0, headP f c0⟩ : Rcd), ((need (headP f c0).length : Nat) : Int), (0 : Int)) := join_sects (by simp only [fineP]; omega) (by omega) fun j hj => by
    rw [List.drop_zero, hc]
    unfold areaC
    rw [List.append_assoc, List.getElem?_append_left (by rw [sects_length]; exact hj), sects_at hj]
  have hne : need (headP f c0).length = 1 := by rw [h16]; rfl
  unfold scan
  rw [if_neg (fun k => k (by simp only [fineP]; omega)), hfu, scanF_go (by omega) hj.symm ⟨rfl, rfl⟩, Int.toNat_natCast, hne,
    scanF_recsK es 1 0 (0 + 1) _ tail (by
      rw [hc]
      unfold areaC
      rw [List.append_assoc, List.drop_left' (by rw [sects_length, hne])]) hf.p (by simp only [fineP]; omega) (by omega) rfl]
  rw [Nat.zero_add]
  rfl
theorem scan_ge {g f : Int} {c0 : Nat} {es tail c : List Sec} (hf : Fine g es) (hc : c = areaC g f c0 es ++ tail) : ∃ l, (scan g 0 c).1 = rcA g f c0 es ++ l := by
  obtain ⟨fu, h⟩ := scan_run hf hc
  obtain ⟨l, hl⟩ := scanF_acc (ss := c) (g := g) (n := 0) fu (1 + needs es) (rcA g f c0 es)
  exact ⟨l, by rw [h, hl]⟩
theorem scan_eq {g f : Int} {c0 : Nat} {es tail c : List Sec} (hf : Fine g es) (hc : c = areaC g f c0 es ++ tail) (ht : ∀ s, tail[0]? = some s → ¬ gof s = some g) : (scan g 0 c).1 = rcA g f c0 es := by
  obtain ⟨fu, h⟩ := scan_run hf hc
  rw [h]
  refine scanF_stop fun s hs => ht s ?_
  rw [hc, List.getElem?_append_right (by rw [areaC_length]; omega), areaC_length, Nat.sub_self] at hs
  exact hs
theorem rcds_take (k g : Int) (ps : List Sec) : ∀ (n : Int) (j : Nat), (rcds k g n ps).take j = rcds k g n (ps.take j) := by
  induction ps with
  | nil => intro n j; simp [rcds]
  | cons p ps ih =>
    intro n j
    cases j with
    | zero => rfl
    | succ j => simp [rcds, ih]
theorem rcds_kind (g : Int) (ps : List Sec) : ∀ n, (rcds 2 g n ps).map Rcd.k = List.replicate ps.length 2 := by
  induction ps with
  | nil => intro n; rfl
  | cons p ps ih => intro n; simp [rcds, ih, List.replicate_succ]
theorem rcds_p (k g : Int) (ps : List Sec) : ∀ n, (rcds k g n ps).map Rcd.p = ps := by
  induction ps with
  | nil => intro n; rfl
  | cons p ps ih => intro n; simp [rcds, ih]
theorem bodies_rcds (g n : Int) (ps : List Sec) : bodies (rcds 2 g n ps) = ps.length := by
  unfold bodies
  rw [rcds_kind, List.takeWhile_replicate]
  simp
/-- The beginning of an area's records. -/
theorem rcA_prefix {g f : Int} {c0 : Nat} {es : List Sec} {a l : List Rcd} (h : rcA g f c0 es = a ++ l) : a = [] ∨ ∃ k, k ≤ es.length ∧ a = rcA g f c0 (es.take k) := by
  cases a with
  | nil => exact .inl rfl
  | cons r a =>
    right
    simp only [rcA, List.cons_append, List.cons.injEq] at h
    obtain ⟨rfl, h⟩ := h
    refine ⟨min a.length es.length, Nat.min_le_right .., ?_⟩
    have hl : a.length ≤ es.length := by
      have := congrArg List.length h
      rw [rcds_length, List.length_append] at this
      omega
    rw [Nat.min_eq_left hl]
    unfold rcA
    rw [← rcds_take, h, List.take_left' rfl]
end Go.Proofs.Ytkjlbedebmffgaa.Sx

/- Plain laws: an area's contents; the device. -/
set_option linter.unusedVariables false
set_option linter.unusedSimpArgs false
namespace Go.Proofs.Ytkjlbedebmffgaa.Sx
theorem areaL_rcA {g f : Int} {c0 : Nat} {es : List Sec} (hf : 0 ≤ f ∧ f ≤ 2147483647) (hc : c0 ≤ 2147483647) : areaL g (rcA g f c0 es) = if c0 ≤ es.length then some (g, f, es) else none := by
  have e1 : (headP f c0).take 8 = be f.toNat 8 := by unfold headP; rw [List.take_left' (be_length _ _)]
  have e2 : (headP f c0).drop 8 = be c0 8 := by unfold headP; rw [List.drop_left' (be_length _ _)]
  have v1 : vl (be f.toNat 8) = f.toNat := vl_be_lt (by have : (256 : Nat) ^ 8 = 18446744073709551616 := by decide
                                                        omega)
  have v2 : vl (be c0 8) = c0 := vl_be_lt (by have : (256 : Nat) ^ 8 = 18446744073709551616 := by decide
                                              omega)
  unfold rcA areaL
  simp only [e1, e2, v1, v2, bodies_rcds, headP_length]
  by_cases h : c0 ≤ es.length
  · rw [if_pos h, if_pos ⟨trivial, trivial, by omega, by omega, h⟩]
    rw [List.map_take, rcds_p, List.take_of_length_le (Nat.le_refl _), Int.toNat_of_nonneg hf.1]
  · rw [if_neg h, if_neg (fun k => h k.2.2.2.2)]
theorem gof_nil : gof [] = none := by unfold gof; rw [dec_short (by decide)]; rfl
theorem gof_len {s : Sec} {g : Int} (h : gof s = some g) : s.length = 256 := by
  have h1 := (gof_some.1 h).1
  exact (dec_fine (p := (dec s).1) (by rw [← h1])).2
theorem gof_bound {s : Sec} {g : Int} (h : gof s = some g) : 0 ≤ g ∧ g ≤ 2147483647 := by
  obtain ⟨h1, rfl⟩ := gof_some.1 h
  have := (dec_fine (bs := s) (p := (dec s).1) (by rw [← h1])).1
  unfold Pt.chk at this
  have h2 := (chk_ok this).1
  simp only [fineP] at h2
  omega
theorem areaM_gen {n γ f : Int} {c es : List Sec} (h : areaM n c = some (γ, f, es)) : gof (c.getD 0 []) = some γ ∧ γ % 2 = n ∧ areaL γ (scan γ 0 c).1 = some (γ, f, es) := by
  unfold areaM at h
  split at h
  · rename_i h1
    have h2 : (dec (c.getD 0 [])).1.g = γ := by
      unfold areaL at h
      split at h
      · cases h
      · split at h
        · simp only [Option.some.injEq, Prod.mk.injEq] at h
          exact h.1
        · cases h
    rw [h2] at h h1
    exact ⟨gof_some.2 ⟨h1.1, h2⟩, h1.2, h⟩
  · cases h
theorem areaM_of {n γ : Int} {c : List Sec} (h : gof (c.getD 0 []) = some γ) (hp : γ % 2 = n) : areaM n c = areaL γ (scan γ 0 c).1 := by
  obtain ⟨h1, h2⟩ := gof_some.1 h
  rw [areaM_scan (by rw [h2]; exact ⟨h1, hp⟩), h2]
theorem pos_of_gof {c : List Sec} {g : Int} (h : gof (c.getD 0 []) = some g) : c[0]? = some (c.getD 0 []) := by
  cases c with
  | nil => rw [show ([] : List Sec).getD 0 [] = [] from rfl, gof_nil] at h; cases h
  | cons s c => rfl
/-- An area that is overwritten in part with sectors of other generations does not become complete. -/
theorem areaM_stale {n γ f : Int} {c' c es : List Sec} (ha : Alike γ c' c) (h : areaM n c' = some (γ, f, es)) : ∃ es', areaM n c = some (γ, f, es') := by
  obtain ⟨h1, h2, h3⟩ := areaM_gen h
  have hc := getD_of (ha.2 0 _ (pos_of_gof h1) h1)
  rw [areaM_of (by rw [hc]; exact h1) h2]
  obtain ⟨l, hl⟩ := scan_alike ha
  rw [hl]
  cases hs : (scan γ 0 c').1 with
  | nil => rw [hs] at h3; cases h3
  | cons r t =>
    rw [hs] at h3
    simp only [areaL] at h3
    split at h3
    · rename_i h4
      simp only [Option.some.injEq, Prod.mk.injEq] at h3
      have hb : bodies t ≤ bodies (t ++ l) := by
        unfold bodies
        rw [List.map_append]
        have : ∀ (a b : List Int), (a.takeWhile (· == 2)).length ≤ ((a ++ b).takeWhile (· == 2)).length := by
          intro a b
          induction a with
          | nil => exact Nat.zero_le _
          | cons x a ih =>
            cases hx : x == (2 : Int) with
            | true => simp only [List.cons_append, List.takeWhile_cons, hx, if_true, List.length_cons]; omega
            | false => simp [List.takeWhile_cons, hx]
        exact this _ _
      rw [List.cons_append]
      simp only [areaL]
      rw [if_pos ⟨h4.1, h4.2.1, h4.2.2.1, h4.2.2.2.1, Nat.le_trans h4.2.2.2.2 hb⟩, h3.2.1]
      exact ⟨_, rfl⟩
    · cases h3
/-- What an area holds of which all sectors are the ones meant, or of other generations. -/
theorem areaM_meant {n g f : Int} {c0 k0 : Nat} {es c tail : List Sec} (hf : Fine g es) (hfb : 0 ≤ f ∧ f ≤ 2147483647) (hp : g % 2 = n) (ha : Alike g c (areaC g f c0 es ++ tail)) (ht : ∀ s, tail[0]? = some s → ¬ gof s = some g)
    (hg : gof (c.getD 0 []) = some g) (hc0 : c0 ≤ 1000000) : areaM n c = none ∨ ∃ k, c0 ≤ k ∧ k ≤ es.length ∧ areaM n c = some (g, f, es.take k) := by
  rw [areaM_of hg hp]
  obtain ⟨l, hl⟩ := scan_alike ha
  rw [scan_eq hf rfl ht] at hl
  rcases rcA_prefix hl with h | ⟨k, hk, h⟩
  · rw [h]; exact .inl rfl
  · rw [h, areaL_rcA hfb (by omega)]
    by_cases hck : c0 ≤ (es.take k).length
    · rw [if_pos hck]
      rw [List.length_take] at hck
      exact .inr ⟨k, by omega, hk, rfl⟩
    · rw [if_neg hck]; exact .inl rfl
theorem areaM_meant_ge {n g f : Int} {c0 k0 : Nat} {es c tail tail' : List Sec} (hf : Fine g es) (hfb : 0 ≤ f ∧ f ≤ 2147483647) (hp : g % 2 = n) (ha : Alike g c (areaC g f c0 es ++ tail)) (ht : ∀ s, tail[0]? = some s → ¬ gof s = some g)
    (hck : c0 ≤ k0 ∧ k0 ≤ es.length) (hc : c = areaC g f c0 (es.take k0) ++ tail') : ∃ k, k0 ≤ k ∧ k ≤ es.length ∧ areaM n c = some (g, f, es.take k) := by
  have hl2 := hf.l
  have hft : Fine g (es.take k0) := ⟨hf.g, by rw [List.length_take]; omega, fun p hp => hf.p p (List.mem_of_mem_take hp)⟩
  have hs0 : c.getD 0 [] = sect 1 g 0 (headP f c0) 0 := by
    apply getD_of
    rw [hc]
    unfold areaC
    rw [List.append_assoc, List.getElem?_append_left (by rw [sects_length, headP_length]; decide), sects_at (by rw [headP_length]; decide)]
  have hg : gof (c.getD 0 []) = some g := by
    rw [hs0]
    have hgg := hf.g
    have := dec_sect (k := 1) (g := g) (n := 0) (p := headP f c0) (i := 0) (by simp only [fineP]; omega) (by rw [headP_length]; decide) (by rw [headP_length]; decide)
    exact gof_some.2 ⟨by rw [this], by rw [this]; rfl⟩
  rw [areaM_of hg hp]
  obtain ⟨l, hl⟩ := scan_alike ha
  obtain ⟨l', hl'⟩ := scan_ge hft hc
  rw [scan_eq hf rfl ht] at hl
  rcases rcA_prefix hl with h | ⟨k, hk, h⟩
  · rw [h] at hl'; cases hl'
  · have hkk : k0 ≤ k := by
      rw [h] at hl'
      have := congrArg List.length hl'
      simp only [rcA, List.length_cons, List.length_append, rcds_length, List.length_take] at this
      omega
    rw [h, areaL_rcA hfb (by omega), if_pos (by rw [List.length_take]; omega)]
    exact ⟨k, hkk, hk, rfl⟩
end Go.Proofs.Ytkjlbedebmffgaa.Sx

/- Plain laws: the device; what may be there after a failure. -/
set_option linter.unusedVariables false
set_option linter.unusedSimpArgs false
namespace Go.Proofs.Ytkjlbedebmffgaa.Sx
/-- What a sector may hold after a failure in which no write is torn. -/
def Cand (D : Dk) (a : Int) (s : Sec) : Prop := s = (D.dur a).s ∨ ∃ w ∈ D.pend, w.1 = a ∧ s = w.2.s
theorem applyW_or (l : List (Int × Sct)) : ∀ (f : Int → Sct) (a : Int), applyW f l a = f a ∨ ∃ w ∈ l, w.1 = a ∧ applyW f l a = w.2 := by
  induction l with
  | nil => intro f a; exact .inl rfl
  | cons p l ih =>
    intro f a
    show applyW (put f p.1 p.2) l a = f a ∨ _
    rcases ih (put f p.1 p.2) a with h | ⟨w, hw, h1, h2⟩
    · by_cases hp : a = p.1
      · right
        refine ⟨p, List.mem_cons_self .., hp.symm, ?_⟩
        show applyW (put f p.1 p.2) l a = p.2
        rw [h]; unfold put; rw [if_pos hp]
      · left
        rw [h]; unfold put; rw [if_neg hp]
    · exact .inr ⟨w, List.mem_cons_of_mem _ hw, h1, h2⟩
theorem cand_vis (D : Dk) (a : Int) : Cand D a (D.vis a).s := by
  rcases applyW_or D.pend D.dur a with h | ⟨w, hw, h1, h2⟩
  · exact .inl (by unfold Dk.vis; rw [h])
  · exact .inr ⟨w, hw, h1, by unfold Dk.vis; rw [h2]⟩
theorem sel_sub : ∀ (l : List (Int × Sct)) (cs : List UInt8), ∀ w ∈ sel l cs, w ∈ l := by
  intro l
  induction l with
  | nil => intro cs w h; exact h
  | cons p l ih =>
    intro cs w h
    unfold sel at h
    split at h
    · rcases List.mem_cons.1 h with rfl | h
      · exact List.mem_cons_self ..
      · exact List.mem_cons_of_mem _ (ih _ _ h)
    · exact List.mem_cons_of_mem _ (ih _ _ h)
theorem cand_restart {D : Dk} {cs : List UInt8} {a : Int} {s : Sec} (h : Cand (D.restart cs) a s) : Cand D a s := by
  rcases h with h | ⟨w, hw, _⟩
  · rcases applyW_or (sel D.pend cs) D.dur a with h1 | ⟨w, hw, h1, h2⟩
    · exact .inl (by rw [h]; show (applyW D.dur (sel D.pend cs) a).s = _; rw [h1])
    · exact .inr ⟨w, sel_sub _ _ _ hw, h1, by rw [h]; show (applyW D.dur (sel D.pend cs) a).s = _; rw [h2]⟩
  · cases hw
theorem op_ok {D : Dk} (h : D.operate.2 = 0) : D.operate.1.down = D.down ∧ D.operate.1.lim = D.lim := by
  unfold Dk.operate at h ⊢
  split
  · rename_i h1; rw [if_pos h1] at h; cases h
  · exact ⟨rfl, rfl⟩
theorem op_fail {D : Dk} (h : ¬ D.operate.2 = 0) : D.operate.2 = 28 ∧ D.operate.1.down = true ∧ D.lim = true := by
  unfold Dk.operate at h ⊢
  split
  · rename_i h1; exact ⟨rfl, rfl, h1.1⟩
  · rename_i h1; rw [if_neg h1] at h; exact absurd rfl h
/-- A write that can be made. -/
theorem write_cases {D : Dk} {a : Int} {x : Sec} (hd : D.down = false) (ha : 0 ≤ a ∧ a < D.n) (hx : x.length = 256) :
    ((D.write a x).2 = 0 ∧ (D.write a x).1.down = false ∧ (D.write a x).1.lim = D.lim ∧ (D.write a x).1.pend = D.pend ++ [(a, ⟨x, hx⟩)]) ∨ ((D.write a x).2 = 28 ∧ (D.write a x).1.down = true ∧ (D.write a x).1.pend = D.pend ∧ D.lim = true) := by
  have hk := op_keep D
  unfold Dk.write
  rw [if_neg (by rw [hd]; decide), if_neg (fun k => k ha), dif_pos hx]
  by_cases h : D.operate.2 = 0
  · left
    rw [if_pos h]
    have := op_ok h
    exact ⟨rfl, by rw [← hd]; exact this.1, this.2, rfl⟩
  · right
    rw [if_neg h]
    have := op_fail h
    exact ⟨this.1, this.2.1, hk.2.1, this.2.2⟩
theorem vis_put {D D' : Dk} {a : Int} {x : Sct} (hd : D'.dur = D.dur) (hp : D'.pend = D.pend ++ [(a, x)]) (b : Int) : D'.vis b = if b = a then x else D.vis b := by
  unfold Dk.vis
  rw [hd, hp, applyW_append]
  rfl
theorem cand_put {D D' : Dk} {a : Int} {x : Sct} (hd : D'.dur = D.dur) (hp : D'.pend = D.pend ++ [(a, x)]) {b : Int} {s : Sec} (h : Cand D' b s) : Cand D b s ∨ b = a ∧ s = x.s := by
  rcases h with h | ⟨w, hw, h1, h2⟩
  · exact .inl (.inl (by rw [h, hd]))
  · rw [hp] at hw
    rcases List.mem_append.1 hw with hw | hw
    · exact .inl (.inr ⟨w, hw, h1, h2⟩)
    · rw [List.mem_singleton.1 hw] at h1 h2
      exact .inr ⟨h1.symm, h2⟩
/-- Sectors that are written one after the other. -/
theorem putM_cases {ss : List Sec} : ∀ {D : Dk} {a : Int}, D.down = false → 0 ≤ a → a + ss.length ≤ D.n → (∀ s ∈ ss, s.length = 256) →
    (((putM D a ss).2 = 0 ∧ (putM D a ss).1.down = false ∧ (putM D a ss).1.lim = D.lim ∧ (∀ (i : Nat) s, ss[i]? = some s → ((putM D a ss).1.vis (a + i)).s = s) ∧ (∀ b, (b < a ∨ a + ss.length ≤ b) → (putM D a ss).1.vis b = D.vis b)) ∨
      ((putM D a ss).2 = 28 ∧ (putM D a ss).1.down = true ∧ D.lim = true)) ∧ (∀ b s, Cand (putM D a ss).1 b s → Cand D b s ∨ ∃ i : Nat, ss[i]? = some s ∧ b = a + i) := by
  induction ss with
  | nil =>
    intro D a hd _ _ _
    exact ⟨.inl ⟨rfl, hd, rfl, fun i s h => by simp at h, fun b _ => rfl⟩, fun b s h => .inl h⟩
  | cons x ss ih =>
    intro D a hd ha hle hs
    rw [List.length_cons] at hle
    have hx := hs x (List.mem_cons_self ..)
    have hk := write_keep D a x
    simp only [putM]
    rcases write_cases hd ⟨ha, by omega⟩ hx with ⟨h1, h2, h3, h4⟩ | ⟨h1, h2, h3, h4⟩
    · rw [if_pos h1]
      have hn := hk.1
      obtain ⟨ih1, ih2⟩ := ih (D := (D.write a x).1) (a := a + 1) h2 (by omega) (by rw [hn]; omega) (fun s h => hs s (List.mem_cons_of_mem _ h))
      refine ⟨?_, fun b s h => ?_⟩
      · rcases ih1 with ⟨g1, g2, g3, g4, g5⟩ | ⟨g1, g2, g3⟩
        · refine .inl ⟨g1, g2, by rw [g3, h3], fun i s hi => ?_, fun b hb => ?_⟩
          · cases i with
            | zero =>
              simp only [List.getElem?_cons_zero, Option.some.injEq] at hi
              subst hi
              rw [g5 (a + ((0 : Nat) : Int)) (.inl (by omega)), vis_put hk.2.1 h4, if_pos (by omega)]
            | succ i =>
              rw [List.getElem?_cons_succ] at hi
              have := g4 i s hi
              rw [show a + ((i + 1 : Nat) : Int) = a + 1 + (i : Int) by omega]
              exact this
          · rw [List.length_cons] at hb
            rw [g5 b (by omega), vis_put hk.2.1 h4, if_neg (by omega)]
        · exact .inr ⟨g1, g2, by rw [← h3]; exact g3⟩
      · rcases ih2 b s h with h | ⟨i, hi, hb⟩
        · rcases cand_put hk.2.1 h4 h with h | ⟨hb, hs⟩
          · exact .inl h
          · exact .inr ⟨0, by rw [hs]; rfl, by omega⟩
        · exact .inr ⟨i + 1, by rw [List.getElem?_cons_succ]; exact hi, by omega⟩
    · rw [if_neg (by rw [h1]; decide)]
      refine ⟨.inr ⟨h1, h2, h4⟩, fun b s h => .inl ?_⟩
      unfold Cand at h ⊢
      rw [hk.2.1, h3] at h
      exact h
theorem flush_cases {D : Dk} (hd : D.down = false) : (D.flush.2 = 0 ∧ D.flush.1.down = false ∧ D.flush.1.lim = D.lim ∧ D.flush.1.pend = [] ∧ D.flush.1.dur = D.vis ∧ D.flush.1.n = D.n) ∨ (D.flush.2 = 28 ∧ D.flush.1.down = true ∧ D.lim = true ∧ D.flush.1.pend = D.pend ∧ D.flush.1.dur = D.dur ∧ D.flush.1.n = D.n) := by
  have hk := op_keep D
  by_cases h : D.operate.2 = 0
  · left
    rw [flush_ok hd h]
    have := op_ok h
    exact ⟨rfl, by rw [← hd]; exact this.1, this.2, rfl, rfl, hk.2.2⟩
  · right
    rw [flush_op hd h]
    have := op_fail h
    exact ⟨this.1, this.2.1, this.2.2, hk.2.1, hk.1, hk.2.2⟩
theorem cand_flush {D : Dk} (hd : D.down = false) {a : Int} {s : Sec} (h : Cand D.flush.1 a s) : Cand D a s := by
  rcases flush_cases hd with ⟨_, _, _, h4, h5, _⟩ | ⟨_, _, _, h4, h5, _⟩
  · rcases h with h | ⟨w, hw, _⟩
    · rw [h, h5]; exact cand_vis D a
    · rw [h4] at hw; cases hw
  · unfold Cand at h ⊢
    rw [h4, h5] at h
    exact h
/-- An area that is written and flushed. -/
theorem writeM_cases {D : Dk} {base g f : Int} {es : List Sec} (hd : D.down = false) (hb : 0 ≤ base) (hle : base + (1 + needs es : Nat) ≤ D.n) (hs : ∀ s ∈ areaS g f es, s.length = 256) :
    (((writeM D base g f es).2.2 = 0 ∧ (writeM D base g f es).2.1 = ((1 + needs es : Nat) : Int) ∧ (writeM D base g f es).1.down = false ∧ (writeM D base g f es).1.lim = D.lim ∧ (writeM D base g f es).1.pend = [] ∧
        (∀ (i : Nat) s, (areaS g f es)[i]? = some s → ((writeM D base g f es).1.dur (base + i)).s = s) ∧ (∀ b, (b < base ∨ base + (1 + needs es : Nat) ≤ b) → (writeM D base g f es).1.dur b = D.vis b)) ∨
      ((writeM D base g f es).2.2 = 28 ∧ (writeM D base g f es).1.down = true ∧ D.lim = true)) ∧ (∀ b s, Cand (writeM D base g f es).1 b s → Cand D b s ∨ ∃ i : Nat, (areaS g f es)[i]? = some s ∧ b = base + i) ∧ (writeM D base g f es).1.n = D.n := by
  have hal := areaS_length g f es
  have hk := putM_keep (ss := areaS g f es) D base
  obtain ⟨h1, h2⟩ := putM_cases (ss := areaS g f es) hd hb (by rw [hal]; exact hle) hs
  unfold writeM
  rw [hal] at *
  rcases h1 with ⟨g1, g2, g3, g4, g5⟩ | ⟨g1, g2, g3⟩
  · rw [if_pos g1]
    have hfc := flush_cases g2
    refine ⟨?_, fun b s h => h2 b s (cand_flush g2 h), ?_⟩
    · rcases hfc with ⟨f1, f2, f3, f4, f5, f6⟩ | ⟨f1, f2, f3, f4, f5, f6⟩
      · exact .inl ⟨f1, rfl, f2, by rw [f3, g3], f4, fun i s hi => by rw [f5]; exact g4 i s hi, fun b hb => by rw [f5]; exact g5 b hb⟩
      · exact .inr ⟨f1, f2, by rw [← g3]; exact f3⟩
    · rcases hfc with ⟨f1, f2, f3, f4, f5, f6⟩ | ⟨f1, f2, f3, f4, f5, f6⟩
      · rw [f6]; exact hk.1
      · rw [f6]; exact hk.1
  · rw [if_neg (by rw [g1]; decide)]
    exact ⟨.inr ⟨g1, g2, g3⟩, h2, hk.1⟩
/-! ### The next generation -/
theorem nstep_ge (n g : Int) (s : Sec) : g ≤ nstep n g s ∧ ∀ g', gof s = some g' → g' < nstep n g s ∨ g' < g := by
  unfold nstep
  split
  · rename_i h
    have : 0 ≤ ((dec s).1.g + 1 + n) % 2 := Int.emod_nonneg _ (by decide)
    refine ⟨by omega, fun g' hg => .inl ?_⟩
    rw [(gof_some.1 hg).2.symm]
    omega
  · rename_i h
    refine ⟨Int.le_refl _, fun g' hg => .inr ?_⟩
    obtain ⟨h1, rfl⟩ := gof_some.1 hg
    exact Decidable.byContradiction fun k => h ⟨h1, by omega⟩
theorem nextF_facts {n : Int} (ss : List Sec) : ∀ (g : Int), g ≤ ss.foldl (nstep n) g ∧ ∀ s ∈ ss, ∀ g', gof s = some g' → g' < ss.foldl (nstep n) g := by
  induction ss with
  | nil => intro g; exact ⟨Int.le_refl _, fun s hs => by cases hs⟩
  | cons x ss ih =>
    intro g
    obtain ⟨h1, h2⟩ := nstep_ge n g x
    obtain ⟨h3, h4⟩ := ih (nstep n g x)
    refine ⟨Int.le_trans h1 h3, fun s hs g' hg => ?_⟩
    rcases List.mem_cons.1 hs with rfl | hs
    · rcases h2 g' hg with h | h
      · exact Int.lt_of_lt_of_le h h3
      · exact Int.lt_of_lt_of_le (Int.lt_of_lt_of_le h h1) h3
    · exact h4 s hs g' hg
theorem nstep_par {n g : Int} (s : Sec) (h : (g + n) % 2 = 0) : (nstep n g s + n) % 2 = 0 := by
  unfold nstep
  split <;> omega
theorem nextF_par {n : Int} (ss : List Sec) : ∀ (g : Int), (g + n) % 2 = 0 → (ss.foldl (nstep n) g + n) % 2 = 0 := by
  induction ss with
  | nil => intro g h; exact h
  | cons x ss ih => intro g h; exact ih _ (nstep_par x h)
theorem nstep_up {n g B : Int} {s : Sec} (hn : 0 ≤ n ∧ n ≤ 1) (hg : g ≤ B + 2) (h : ∀ g', gof s = some g' → g' ≤ B) : nstep n g s ≤ B + 2 := by
  unfold nstep
  split
  · rename_i h1
    have := h _ (gof_some.2 ⟨h1.1, rfl⟩)
    omega
  · exact hg
theorem nextF_up {n B : Int} (hn : 0 ≤ n ∧ n ≤ 1) (ss : List Sec) : ∀ (g : Int), g ≤ B + 2 → (∀ s ∈ ss, ∀ g', gof s = some g' → g' ≤ B) → ss.foldl (nstep n) g ≤ B + 2 := by
  induction ss with
  | nil => intro g h _; exact h
  | cons x ss ih => intro g h hB; exact ih _ (nstep_up hn h (hB x (List.mem_cons_self ..))) fun s hs => hB s (List.mem_cons_of_mem _ hs)
/-- The next generation is above all that are there, and belongs to the area. -/
theorem nextM_facts {n B : Int} {ss : List Sec} (hn : n = 0 ∨ n = 1) (hB : -1 ≤ B ∧ B ≤ 2000000000) (h : ∀ s ∈ ss, ∀ g', gof s = some g' → g' ≤ B) :
    ∃ g, nextM n ss = (g, 0) ∧ g % 2 = n ∧ 0 ≤ g ∧ g ≤ B + 2 ∧ ∀ s ∈ ss, ∀ g', gof s = some g' → g' < g := by
  have h1 := nextF_facts (n := n) ss n
  have h2 := nextF_par (n := n) ss n (by omega)
  have h3 := nextF_up (n := n) (B := B) (by omega) ss n (by omega) h
  refine ⟨nextF n ss, ?_, ?_, ?_, h3, h1.2⟩
  · unfold nextM
    rw [if_neg (by unfold nextF; omega)]
  · unfold nextF; omega
  · unfold nextF; omega
theorem mem_seen {D : Dk} {a : Int} {k : Nat} {s : Sec} : s ∈ D.seen a k ↔ ∃ i : Nat, i < k ∧ (D.vis (a + i)).s = s := by simp [Dk.seen]
theorem seen_at {D : Dk} {a : Int} {k i : Nat} (h : i < k) : (D.seen a k)[i]? = some (D.vis (a + i)).s := by simp [Dk.seen, h]
theorem seen_length (D : Dk) (a : Int) (k : Nat) : (D.seen a k).length = k := by simp [Dk.seen]
theorem sects_256 {k g n : Int} {p : Sec} (hf : fineP k g n) (hp : p.length ≤ 131072) : ∀ s ∈ sects k g n p, s.length = 256 := by
  intro s hs
  obtain ⟨i, hi, rfl⟩ := List.mem_map.1 hs
  have := dec_sect hf hp (List.mem_range.1 hi)
  exact gof_len (g := g) (gof_some.2 ⟨by rw [this], by rw [this]; rfl⟩)
theorem sects_gof {k g n : Int} {p : Sec} (hf : fineP k g n) (hp : p.length ≤ 131072) : ∀ s ∈ sects k g n p, gof s = some g := by
  intro s hs
  obtain ⟨i, hi, rfl⟩ := List.mem_map.1 hs
  have := dec_sect hf hp (List.mem_range.1 hi)
  exact gof_some.2 ⟨by rw [this], by rw [this]; rfl⟩
theorem recs_gof {k g : Int} {es : List Sec} : ∀ {n : Int}, (∀ p ∈ es, p.length ≤ 131072) → fineP k g n → n + es.length ≤ 2147483647 → ∀ s ∈ recs k g n es, gof s = some g := by
  induction es with
  | nil => intro n _ _ _ s hs; cases hs
  | cons p es ih =>
    intro n hp hf hn s hs
    rw [List.length_cons] at hn
    rcases List.mem_append.1 hs with h | h
    · exact sects_gof hf (hp p (List.mem_cons_self ..)) s h
    · exact ih (fun q hq => hp q (List.mem_cons_of_mem _ hq)) (by simp only [fineP] at *; omega) (by omega) s h
theorem areaC_gof {g f : Int} {c0 : Nat} {es : List Sec} (hf : Fine g es) : ∀ s ∈ areaC g f c0 es, gof s = some g := by
  intro s hs
  have hg := hf.g
  have hl := hf.l
  rcases List.mem_append.1 hs with h | h
  · exact sects_gof (by simp only [fineP]; omega) (by rw [headP_length]; decide) s h
  · exact recs_gof hf.p (by simp only [fineP]; omega) (by omega) s h
theorem areaC_256 {g f : Int} {c0 : Nat} {es : List Sec} (hf : Fine g es) : ∀ s ∈ areaC g f c0 es, s.length = 256 := fun s hs => gof_len (areaC_gof hf s hs)
end Go.Proofs.Ytkjlbedebmffgaa.Sx

/- Plain laws: a journal that is whole, and what keeps it so. -/
set_option linter.unusedVariables false
set_option linter.unusedSimpArgs false
namespace Go.Proofs.Ytkjlbedebmffgaa.Sx
def Jn.base (J : Jn) (k : Nat) : Int := J.fi + J.cur * ((k / 2 : Nat) : Int)
/-- Where a journal lies, and its numbers. -/
structure Geo (k : Nat) (N : Int) (D : Dk) (J : Jn) : Prop where
  se : J.se = k
  k8 : 8 ≤ k
  fi : 0 ≤ J.fi
  top : J.fi + k ≤ D.n
  n : D.n ≤ 1000
  cur : J.cur = 0 ∨ J.cur = 1
  gb : 0 ≤ J.gen ∧ J.gen ≤ N
  fb : 0 ≤ J.first ∧ J.first ≤ N
structure Strong (k : Nat) (N : Int) (D : Dk) (J : Jn) (es : List Sec) (c0 k0 : Nat) : Prop where
  geo : Geo k N D J
  dn : D.down = false
  fl : J.failed = 0
  par : J.gen % 2 = J.cur
  used : J.used = ((1 + needs es : Nat) : Int)
  fit : 1 + needs es ≤ k / 2
  ck : c0 ≤ k0 ∧ k0 ≤ es.length
  sy : J.synced = J.first + k0
  pl : ∀ p ∈ es, p.length ≤ 100000
  A : ∀ (i : Nat) s, i < k / 2 → Cand D (J.base k + i) s → (areaC J.gen J.first c0 es)[i]? = some s ∨ ¬ gof s = some J.gen
  V : ∀ (i : Nat) s, (areaC J.gen J.first c0 es)[i]? = some s → (D.vis (J.base k + i)).s = s
  Y : ∀ (i : Nat) s, (areaC J.gen J.first c0 (es.take k0))[i]? = some s → ∀ s', Cand D (J.base k + i) s' → s' = s
  B : ∀ a s g', J.fi ≤ a → a < J.fi + k → Cand D a s → gof s = some g' → g' ≤ J.gen
  O : ∀ a s g', J.fi ≤ a → a < J.fi + k → ¬ (J.base k ≤ a ∧ a < J.base k + ((k / 2 : Nat) : Int)) → Cand D a s → gof s = some g' → g' < J.gen
theorem Geo.lo {k : Nat} {N : Int} {D : Dk} {J : Jn} (h : Geo k N D J) : J.fi ≤ J.base k ∧ J.base k + ((k / 2 : Nat) : Int) ≤ J.fi + ((2 * (k / 2) : Nat) : Int) ∧ J.base k + ((k / 2 : Nat) : Int) ≤ J.fi + k := by
  unfold Jn.base
  rcases h.cur with e | e <;> rw [e] <;> omega
theorem fine_pl {g : Int} {es : List Sec} {k : Nat} (hg : 0 ≤ g ∧ g ≤ 2147483647) (hn : 1 + needs es ≤ k / 2) (hk : k ≤ 1000) (hp : ∀ p ∈ es, p.length ≤ 100000) : Fine g es :=
  ⟨hg, by have := needs_le es; omega, fun p h => Nat.le_trans (hp p h) (by decide)⟩
theorem Geo.k {k : Nat} {N : Int} {D : Dk} {J : Jn} (h : Geo k N D J) : k ≤ 1000 := by have := h.fi; have := h.top; have := h.n; omega
theorem Strong.fine {k : Nat} {N : Int} {D : Dk} {J : Jn} {es : List Sec} {c0 k0 : Nat} (h : Strong k N D J es c0 k0) (hN : N ≤ 1000000) : Fine J.gen es :=
  fine_pl (by have := h.geo.gb; omega) h.fit h.geo.k h.pl
theorem cand_nil {D : Dk} (hp : D.pend = []) {a : Int} {s : Sec} (h : Cand D a s) : s = (D.dur a).s := by
  rcases h with h | ⟨w, hw, _⟩
  · exact h
  · rw [hp] at hw; cases hw
theorem vis_nil {D : Dk} (hp : D.pend = []) (a : Int) : D.vis a = D.dur a := by unfold Dk.vis; rw [hp]; rfl
/-- The other area is written: done, or the power fails. -/
theorem change_cases {k : Nat} {N B : Int} {D : Dk} {J : Jn} (hg : Geo k N D J) (hd : D.down = false) (hfl : J.failed = 0) (hB : -1 ≤ B ∧ B ≤ 1000000) (hN : N ≤ 1000000) (hv : ∀ a g', J.fi ≤ a → a < J.fi + k → gof (D.vis a).s = some g' → g' ≤ B)
    {f : Int} {es : List Sec} (hf : 0 ≤ f ∧ f ≤ 1000000) (hfit : 1 + needs es ≤ k / 2) (hpl : ∀ p ∈ es, p.length ≤ 100000) {N' : Int} (hN' : B + 2 ≤ N' ∧ f ≤ N') :
    ∃ g, g % 2 = 1 - J.cur ∧ 0 ≤ g ∧ g ≤ B + 2 ∧ (∀ a g', J.fi ≤ a → a < J.fi + k → gof (D.vis a).s = some g' → g' < g) ∧ (changeM D J f es).1.n = D.n ∧
      (((changeM D J f es).2.2 = 0 ∧ (changeM D J f es).2.1.gen = g ∧ (changeM D J f es).2.1.first = f ∧ (changeM D J f es).2.1.cur = 1 - J.cur ∧ (changeM D J f es).2.1.fi = J.fi ∧ (changeM D J f es).1.lim = D.lim ∧ (changeM D J f es).1.pend = [] ∧
          Strong k N' (changeM D J f es).1 (changeM D J f es).2.1 es es.length es.length ∧ (∀ b, (b < J.fi + (1 - J.cur) * ((k / 2 : Nat) : Int) ∨ J.fi + (1 - J.cur) * ((k / 2 : Nat) : Int) + ((k / 2 : Nat) : Int) ≤ b) → (changeM D J f es).1.dur b = D.vis b)) ∨
       ((changeM D J f es).2.2 = 28 ∧ (changeM D J f es).2.1 = J ∧ (changeM D J f es).1.down = true ∧ D.lim = true ∧
          ∀ b s, Cand (changeM D J f es).1 b s → Cand D b s ∨ ∃ i : Nat, (areaS g f es)[i]? = some s ∧ b = J.fi + (1 - J.cur) * ((k / 2 : Nat) : Int) + i)) := by
  have hk := hg.k
  have hse := hg.se
  have h8 := hg.k8
  have hfi := hg.fi
  have htop := hg.top
  have hst : J.se.toNat = k := by rw [hse, Int.toNat_natCast]
  have hoc : 1 - J.cur = 0 ∨ 1 - J.cur = 1 := by rcases hg.cur with e | e <;> rw [e] <;> decide
  obtain ⟨g, hg1, hg2, hg3, hg4, hg5⟩ := nextM_facts (n := 1 - J.cur) (B := B) (ss := D.seen J.fi k) hoc (by omega) (fun s hs g' h => by
    obtain ⟨i, hi, rfl⟩ := mem_seen.1 hs
    exact hv _ g' (by omega) (by omega) h)
  have hnew : ∀ a g', J.fi ≤ a → a < J.fi + k → gof (D.vis a).s = some g' → g' < g := fun a g' h1 h2 h => by
    refine hg5 (D.vis a).s (mem_seen.2 ⟨(a - J.fi).toNat, by omega, ?_⟩) g' h
    rw [show J.fi + (((a - J.fi).toNat : Nat) : Int) = a by omega]
  have hfine : Fine g es := fine_pl (by omega) hfit hk hpl
  have hob : 0 ≤ (1 - J.cur) * ((k / 2 : Nat) : Int) ∧ (1 - J.cur) * ((k / 2 : Nat) : Int) + ((k / 2 : Nat) : Int) ≤ k := by
    rcases hoc with e | e <;> rw [e] <;> omega
  obtain ⟨base, hbase⟩ : ∃ base, base = J.fi + (1 - J.cur) * ((k / 2 : Nat) : Int) := ⟨_, rfl⟩
  obtain ⟨hw, hwc, hwn⟩ := writeM_cases (D := D) (base := base) (g := g) (f := f) (es := es) hd (by omega) (by omega) (by rw [areaS_C]; exact areaC_256 hfine)
  have hg1' : (g, (0 : Int)) = nextM (1 - J.cur) (D.seen J.fi J.se.toNat) := by rw [hst, hg1]
  have hb' : base = J.fi + (1 - J.cur) * ((J.se.toNat / 2 : Nat) : Int) := by rw [hst]; exact hbase
  refine ⟨g, hg2, hg3, hg4, hnew, ?_⟩
  rw [← hbase]
  rcases hw with ⟨w1, w2, w3, w4, w5, w6, w7⟩ | ⟨w1, w2, w3⟩
  · rw [changeM_ok hg1' hb' w1]
    refine ⟨hwn, .inl ⟨rfl, rfl, rfl, rfl, rfl, w4, w5, ?_, fun b hb => w7 b (by omega)⟩⟩
    have hbj : Jn.base { J with cur := 1 - J.cur, gen := g, first := f, used := (writeM D base g f es).2.1, synced := f + es.length } k = base := by unfold Jn.base; exact hbase.symm
    have hal := areaC_length g f es.length es
    have hcd : ∀ a s, Cand (writeM D base g f es).1 a s → s = ((writeM D base g f es).1.dur a).s := fun a s h => cand_nil w5 h
    have hold : ∀ a s g', J.fi ≤ a → a < J.fi + k → (a < base ∨ base + (1 + needs es : Nat) ≤ a) → Cand (writeM D base g f es).1 a s → gof s = some g' → g' < g := fun a s g' h1 h2 h3 h4 h5 => by
      rw [hcd a s h4, w7 a h3] at h5
      exact hnew a g' h1 h2 h5
    have hin : ∀ (i : Nat), i < 1 + needs es → ∃ s, (areaS g f es)[i]? = some s ∧ ((writeM D base g f es).1.dur (base + i)).s = s := fun i hi => by
      have := areaS_length g f es
      have h2 := get_of (c := areaS g f es) (i := i) (by omega)
      exact ⟨_, h2, w6 i _ h2⟩
    refine { geo := ⟨hse, h8, hfi, by rw [hwn]; exact htop, by rw [hwn]; exact hg.n, hoc, ⟨hg3, by simp only []; omega⟩, ⟨hf.1, by simp only []; omega⟩⟩, dn := w3, fl := hfl, par := hg2, used := w2, fit := hfit, ck := ⟨Nat.le_refl _, Nat.le_refl _⟩, sy := rfl, pl := hpl, A := ?_, V := ?_, Y := ?_, B := ?_, O := ?_ }
    · intro i s hi h
      rw [hbj] at h
      by_cases hlt : i < 1 + needs es
      · obtain ⟨s', h1, h2⟩ := hin i hlt
        rw [hcd _ _ h, h2]
        exact .inl h1
      · refine .inr fun hgs => ?_
        have := hold (base + i) s g (by omega) (by omega) (by omega) h hgs
        omega
    · intro i s h
      rw [hbj, vis_nil w5]
      exact w6 i s h
    · intro i s h s' h'
      rw [List.take_of_length_le (Nat.le_refl _)] at h
      rw [hbj] at h'
      rw [hcd _ _ h']
      exact w6 i s h
    · intro a s g' h1 h2 h3 h4
      by_cases hlt : a < base ∨ base + (1 + needs es : Nat) ≤ a
      · have := hold a s g' h1 h2 hlt h3 h4
        simp only []; omega
      · obtain ⟨s', k1, k2⟩ := hin (a - base).toNat (by omega)
        rw [show base + (((a - base).toNat : Nat) : Int) = a by omega] at k2
        rw [hcd _ _ h3, k2, areaC_gof (f := f) (c0 := es.length) hfine s' (List.mem_of_getElem? k1)] at h4
        simp only [Option.some.injEq] at h4
        simp only []; omega
    · intro a s g' h1 h2 h3 h4 h5
      rw [hbj] at h3
      exact hold a s g' h1 h2 (by omega) h4 h5
  · rw [changeM_write hg1' hb' (by rw [w1]; decide)]
    exact ⟨hwn, .inr ⟨w1, rfl, w2, w3, hwc⟩⟩
end Go.Proofs.Ytkjlbedebmffgaa.Sx

/- Plain laws: operations on a journal that is whole. -/
set_option linter.unusedVariables false
set_option linter.unusedSimpArgs false
namespace Go.Proofs.Ytkjlbedebmffgaa.Sx
/-- A journal whose device may have failed: what may be in its sectors. -/
structure Weak' (k : Nat) (N : Int) (D : Dk) (J : Jn) (es : List Sec) (c0 k0 : Nat) (alt : Ara) : Prop where
  geo : Geo k N D J
  par : J.gen % 2 = J.cur
  fit : 1 + needs es ≤ k / 2
  ck : c0 ≤ k0 ∧ k0 ≤ es.length
  sy : J.synced = J.first + k0
  pl : ∀ p ∈ es, p.length ≤ 100000
  A : ∀ (i : Nat) s, i < k / 2 → Cand D (J.base k + i) s → (areaC J.gen J.first c0 es)[i]? = some s ∨ ¬ gof s = some J.gen
  Y : ∀ (i : Nat) s, (areaC J.gen J.first c0 (es.take k0))[i]? = some s → ∀ s', Cand D (J.base k + i) s' → s' = s
  B : ∀ a s g', J.fi ≤ a → a < J.fi + k → Cand D a s → gof s = some g' → g' ≤ N + 2
  O : ∀ a s g', J.fi ≤ a → a < J.fi + k → ¬ (J.base k ≤ a ∧ a < J.base k + ((k / 2 : Nat) : Int)) → Cand D a s → gof s = some g' → g' < J.gen ∨
    ∃ g2 f2 es2, ∃ i : Nat, alt = some (g2, f2, es2) ∧ (areaS g2 f2 es2)[i]? = some s ∧ a = J.fi + (1 - J.cur) * ((k / 2 : Nat) : Int) + i
  al : ∀ g2 f2 es2, alt = some (g2, f2, es2) → g2 % 2 = 1 - J.cur ∧ J.gen < g2 ∧ g2 ≤ N + 2 ∧ (0 ≤ f2 ∧ f2 ≤ N + 1000) ∧ 1 + needs es2 ≤ k / 2 ∧ ∀ p ∈ es2, p.length ≤ 100000
theorem Geo.mono {k : Nat} {N N' : Int} {D D' : Dk} {J : Jn} (h : Geo k N D J) (hN : N ≤ N') (hn : D'.n = D.n) : Geo k N' D' J :=
  ⟨h.se, h.k8, h.fi, by rw [hn]; exact h.top, by rw [hn]; exact h.n, h.cur, ⟨h.gb.1, Int.le_trans h.gb.2 hN⟩, ⟨h.fb.1, Int.le_trans h.fb.2 hN⟩⟩
theorem Weak'.mono {k : Nat} {N : Int} {D D' : Dk} {J : Jn} {es : List Sec} {c0 k0 : Nat} {alt : Ara} (h : Weak' k N D J es c0 k0 alt) (hn : D'.n = D.n) (hc : ∀ a s, Cand D' a s → Cand D a s) : Weak' k N D' J es c0 k0 alt :=
  { h with geo := h.geo.mono (Int.le_refl _) hn, A := fun i s hi hs => h.A i s hi (hc _ _ hs), Y := fun i s hs s' h' => h.Y i s hs s' (hc _ _ h'), B := fun a s g' h1 h2 h3 => h.B a s g' h1 h2 (hc _ _ h3), O := fun a s g' h1 h2 h3 h4 => h.O a s g' h1 h2 h3 (hc _ _ h4) }
theorem Strong.weak {k : Nat} {N : Int} {D : Dk} {J : Jn} {es : List Sec} {c0 k0 : Nat} (h : Strong k N D J es c0 k0) : Weak' k N D J es c0 k0 none :=
  { geo := h.geo, par := h.par, fit := h.fit, ck := h.ck, sy := h.sy, pl := h.pl, A := h.A, Y := h.Y, B := fun a s g' h1 h2 h3 h4 => by have := h.B a s g' h1 h2 h3 h4; have := h.geo.gb; omega, O := fun a s g' h1 h2 h3 h4 h5 => .inl (h.O a s g' h1 h2 h3 h4 h5), al := fun g2 f2 es2 h => by cases h }
theorem Strong.up {k : Nat} {N N' : Int} {D : Dk} {J : Jn} {es : List Sec} {c0 k0 : Nat} (h : Strong k N D J es c0 k0) (hN : N ≤ N') : Strong k N' D J es c0 k0 := { h with geo := h.geo.mono hN rfl }
/-- Outside a range all is as it was. -/
def Out (D D' : Dk) (lo hi : Int) : Prop := ∀ b, (b < lo ∨ hi ≤ b) → D'.vis b = D.vis b ∧ ∀ s, Cand D' b s → Cand D b s
theorem Out.refl (D : Dk) (lo hi : Int) : Out D D lo hi := fun _ _ => ⟨rfl, fun _ h => h⟩
theorem Out.trans {D D' D'' : Dk} {lo hi : Int} (h : Out D D' lo hi) (k : Out D' D'' lo hi) : Out D D'' lo hi := fun b hb => ⟨by rw [(k b hb).1, (h b hb).1], fun s hs => (h b hb).2 s ((k b hb).2 s hs)⟩
/-- Another journal's work does not touch this one. -/
theorem Strong.out {k : Nat} {N : Int} {D D' : Dk} {J : Jn} {es : List Sec} {c0 k0 : Nat} (h : Strong k N D J es c0 k0) {lo hi : Int} (ho : Out D D' lo hi) (hr : hi ≤ J.fi ∨ J.fi + k ≤ lo) (hn : D'.n = D.n) (hd : D'.down = false) : Strong k N D' J es c0 k0 := by
  have hlo := h.geo.lo
  have hfit := h.fit
  have hin : ∀ a, J.fi ≤ a → a < J.fi + k → D'.vis a = D.vis a ∧ ∀ s, Cand D' a s → Cand D a s := fun a h1 h2 => ho a (by omega)
  refine { h with geo := h.geo.mono (Int.le_refl _) hn , dn := hd, A := fun i s hi hs => h.A i s hi ((hin _ (by omega) (by omega)).2 _ hs), V := fun i s hs => ?_, Y := fun i s hs s' h' => ?_, B := fun a s g' h1 h2 h3 => h.B a s g' h1 h2 ((hin a h1 h2).2 _ h3), O := fun a s g' h1 h2 h3 h4 => h.O a s g' h1 h2 h3 ((hin a h1 h2).2 _ h4) }
  · have hl := (List.getElem?_eq_some_iff.1 hs).1
    rw [areaC_length] at hl
    rw [(hin _ (by omega) (by omega)).1]
    exact h.V i s hs
  · have hl := (List.getElem?_eq_some_iff.1 hs).1
    rw [areaC_length] at hl
    have := needs_append (es.take k0) (es.drop k0)
    rw [List.take_append_drop] at this
    exact h.Y i s hs s' ((hin _ (by omega) (by omega)).2 _ h')
theorem base_eq (J : Jn) {k : Nat} (h : J.se = k) (u : Int) : J.fi + (J.cur * (J.se / 2) + u) = J.base k + u := by
  unfold Jn.base
  rw [h, show (k : Int) / 2 = ((k / 2 : Nat) : Int) by omega]
  omega
theorem areaC_snoc (g f : Int) (c0 : Nat) (es : List Sec) (p : Sec) : areaC g f c0 (es ++ [p]) = areaC g f c0 es ++ sects 2 g ((es.length : Int) + 1) p := by
  rw [areaC_append, Int.add_comm]
  simp [recs]
/-- An entry is written, or it is too much, or the power fails. -/
theorem append_cases {k : Nat} {N : Int} {D : Dk} {J : Jn} {es : List Sec} {c0 k0 : Nat} (h : Strong k N D J es c0 k0) (hN : N ≤ 1000000) {p : Sec} (hp : p.length ≤ 100000) :
    (k / 2 < 1 + needs es + need p.length ∧ appendM D J es p = (D, J, es, 0, 9)) ∨
    (1 + needs es + need p.length ≤ k / 2 ∧ (appendM D J es p).1.n = D.n ∧ (appendM D J es p).1.pend.length ≤ D.pend.length + 500 ∧
      ((Out D (appendM D J es p).1 J.fi (J.fi + ((2 * (k / 2) : Nat) : Int)) ∧ (appendM D J es p).2 = ({ J with used := J.used + (need p.length : Nat) }, es ++ [p], J.first + es.length, 0) ∧ (appendM D J es p).1.lim = D.lim ∧ Strong k N (appendM D J es p).1 (appendM D J es p).2.1 (es ++ [p]) c0 k0) ∨
       ((appendM D J es p).2 = ({ J with failed := 28 }, es, 0, 28) ∧ (appendM D J es p).1.down = true ∧ D.lim = true ∧ Weak' k N (appendM D J es p).1 (appendM D J es p).2.1 (es ++ [p]) c0 k0 none))) := by
  have hf := h.fine hN
  have hfit := h.fit
  have hu := h.used
  have hse := h.geo.se
  have hk := h.geo.k
  have hlo := h.geo.lo
  have hfi := h.geo.fi
  have htop := h.geo.top
  have hnl := need_le (show p.length ≤ 131072 by omega)
  have hfree : J.se / 2 = ((k / 2 : Nat) : Int) := by rw [hse]; omega
  by_cases hfits : k / 2 < 1 + needs es + need p.length
  · left
    refine ⟨hfits, ?_⟩
    unfold appendM
    rw [if_neg (fun k => k h.fl), if_neg (by omega), if_pos (by rw [hfree, hu]; omega)]
  · right
    have hle := needs_le es
    have hfineP : fineP 2 J.gen ((es.length : Int) + 1) := by have := hf.g; simp only [fineP]; omega
    have hsl : (sects 2 J.gen ((es.length : Int) + 1) p).length = need p.length := sects_length ..
    obtain ⟨h1, h2⟩ := putM_cases (D := D) (a := J.base k + ((1 + needs es : Nat) : Int)) (ss := sects 2 J.gen ((es.length : Int) + 1) p) h.dn (by omega) (by rw [hsl]; omega) (sects_256 hfineP (by omega))
    have hpk := putM_keep (ss := sects 2 J.gen ((es.length : Int) + 1) p) D (J.base k + ((1 + needs es : Nat) : Int))
    have hplen := putM_len (ss := sects 2 J.gen ((es.length : Int) + 1) p) D (J.base k + ((1 + needs es : Nat) : Int))
    have hbe : J.fi + (J.cur * (J.se / 2) + J.used) = J.base k + ((1 + needs es : Nat) : Int) := by rw [base_eq J hse, hu]
    have hn2 : needs (es ++ [p]) = needs es + need p.length := by rw [needs_append]; rfl
    have hac := areaC_snoc J.gen J.first c0 es p
    have hal := areaC_length J.gen J.first c0 es
    have hgs := sects_gof hfineP (show p.length ≤ 131072 by omega)
    -- what may be there
    have hA : ∀ (i : Nat) s, i < k / 2 → Cand (putM D (J.base k + ((1 + needs es : Nat) : Int)) (sects 2 J.gen ((es.length : Int) + 1) p)).1 (J.base k + i) s → (areaC J.gen J.first c0 (es ++ [p]))[i]? = some s ∨ ¬ gof s = some J.gen := fun i s hi hs => by
      rcases h2 _ s hs with hs | ⟨j, hj, hb⟩
      · rcases h.A i s hi hs with h3 | h3
        · left
          rw [hac, List.getElem?_append_left (List.getElem?_eq_some_iff.1 h3).1]
          exact h3
        · exact .inr h3
      · left
        rw [hac, List.getElem?_append_right (by rw [hal]; omega), hal, show i - (1 + needs es) = j by omega]
        exact hj
    have hY : ∀ (i : Nat) s, (areaC J.gen J.first c0 ((es ++ [p]).take k0))[i]? = some s → ∀ s', Cand (putM D (J.base k + ((1 + needs es : Nat) : Int)) (sects 2 J.gen ((es.length : Int) + 1) p)).1 (J.base k + i) s' → s' = s := fun i s hs s' h' => by
      rw [List.take_append_of_le_length h.ck.2] at hs
      have hl := (List.getElem?_eq_some_iff.1 hs).1
      rw [areaC_length] at hl
      have := needs_append (es.take k0) (es.drop k0)
      rw [List.take_append_drop] at this
      rcases h2 _ s' h' with h' | ⟨j, hj, hb⟩
      · exact h.Y i s hs s' h'
      · omega
    have hB : ∀ a s g', J.fi ≤ a → a < J.fi + k → Cand (putM D (J.base k + ((1 + needs es : Nat) : Int)) (sects 2 J.gen ((es.length : Int) + 1) p)).1 a s → gof s = some g' → g' ≤ J.gen := fun a s g' h3 h4 h5 h6 => by
      rcases h2 _ s h5 with h5 | ⟨j, hj, hb⟩
      · exact h.B a s g' h3 h4 h5 h6
      · rw [hgs s (List.mem_of_getElem? hj)] at h6
        simp only [Option.some.injEq] at h6
        omega
    have hO : ∀ a s g', J.fi ≤ a → a < J.fi + k → ¬ (J.base k ≤ a ∧ a < J.base k + ((k / 2 : Nat) : Int)) → Cand (putM D (J.base k + ((1 + needs es : Nat) : Int)) (sects 2 J.gen ((es.length : Int) + 1) p)).1 a s → gof s = some g' → g' < J.gen := fun a s g' h3 h4 h5 h6 h7 => by
      rcases h2 _ s h6 with h6 | ⟨j, hj, hb⟩
      · exact h.O a s g' h3 h4 h5 h6 h7
      · have := (List.getElem?_eq_some_iff.1 hj).1
        rw [hsl] at this
        omega
    have hpl : ∀ q ∈ es ++ [p], q.length ≤ 100000 := fun q hq => by
      rcases List.mem_append.1 hq with hq | hq
      · exact h.pl q hq
      · rw [List.mem_singleton.1 hq]; exact hp
    have hck : c0 ≤ k0 ∧ k0 ≤ (es ++ [p]).length := ⟨h.ck.1, by rw [List.length_append]; have := h.ck.2; omega⟩
    rcases h1 with ⟨g1, g2, g3, g4, g5⟩ | ⟨g1, g2, g3⟩
    · have he : appendM D J es p = ((putM D (J.base k + ((1 + needs es : Nat) : Int)) (sects 2 J.gen ((es.length : Int) + 1) p)).1, { J with used := J.used + (need p.length : Nat) }, es ++ [p], J.first + es.length, 0) := by
        unfold appendM
        rw [if_neg (fun k => k h.fl), if_neg (by omega), if_neg (by rw [hfree, hu]; omega), hbe, if_neg (by rw [g1]; decide)]
      rw [he]
      rw [hsl] at g5
      have ho : Out D (putM D (J.base k + ((1 + needs es : Nat) : Int)) (sects 2 J.gen ((es.length : Int) + 1) p)).1 J.fi (J.fi + ((2 * (k / 2) : Nat) : Int)) := fun b hb => ⟨g5 b (by omega), fun s hs => by
        rcases h2 _ s hs with hs | ⟨j, hj, hb2⟩
        · exact hs
        · have := (List.getElem?_eq_some_iff.1 hj).1
          rw [hsl] at this
          omega⟩
      refine ⟨by omega, hpk.1, by simp only []; omega, .inl ⟨ho, rfl, g3, ?_⟩⟩
      refine { geo := ⟨hse, h.geo.k8, hfi, by rw [hpk.1]; exact htop, by rw [hpk.1]; exact h.geo.n, h.geo.cur, h.geo.gb, h.geo.fb⟩, dn := g2, fl := h.fl, par := h.par, used := by simp only []; rw [hu, hn2]; omega, fit := by rw [hn2]; omega, ck := hck, sy := h.sy, pl := hpl, A := hA, V := ?_, Y := hY, B := hB, O := hO }
      · intro i s hs
        show ((putM D (J.base k + ((1 + needs es : Nat) : Int)) (sects 2 J.gen ((es.length : Int) + 1) p)).1.vis (J.base k + i)).s = s
        have hs2 : (areaC J.gen J.first c0 (es ++ [p]))[i]? = some s := hs
        rw [hac] at hs2
        by_cases hi : i < 1 + needs es
        · rw [List.getElem?_append_left (by rw [hal]; exact hi)] at hs2
          rw [g5 _ (by omega)]
          exact h.V i s hs2
        · rw [List.getElem?_append_right (by rw [hal]; omega), hal] at hs2
          have := g4 _ s hs2
          rw [show J.base k + ((1 + needs es : Nat) : Int) + ((i - (1 + needs es) : Nat) : Int) = J.base k + i by omega] at this
          exact this
    · have he : appendM D J es p = ((putM D (J.base k + ((1 + needs es : Nat) : Int)) (sects 2 J.gen ((es.length : Int) + 1) p)).1, { J with failed := 28 }, es, 0, 28) := by
        unfold appendM
        rw [if_neg (fun k => k h.fl), if_neg (by omega), if_neg (by rw [hfree, hu]; omega), hbe, if_pos (by rw [g1]; decide), g1]
        rfl
      rw [he]
      refine ⟨by omega, hpk.1, by simp only []; omega, .inr ⟨rfl, g2, g3, ?_⟩⟩
      · exact { geo := ⟨hse, h.geo.k8, hfi, by rw [hpk.1]; exact htop, by rw [hpk.1]; exact h.geo.n, h.geo.cur, h.geo.gb, h.geo.fb⟩, par := h.par, fit := by rw [hn2]; omega, ck := hck, sy := h.sy, pl := hpl, A := hA, Y := hY, B := fun a s g' h3 h4 h5 h6 => by have := hB a s g' h3 h4 h5 h6; have := h.geo.gb; omega, O := fun a s g' h3 h4 h5 h6 h7 => .inl (hO a s g' h3 h4 h5 h6 h7), al := fun g2 f2 es2 h => by cases h }
end Go.Proofs.Ytkjlbedebmffgaa.Sx

/- Plain laws: Sync, Truncate, a step. -/
set_option linter.unusedVariables false
set_option linter.unusedSimpArgs false
namespace Go.Proofs.Ytkjlbedebmffgaa.Sx
theorem watch28 (J : Jn) : J.watch 28 = { J with failed := 28 } := if_pos rfl
theorem Weak'.failed {k : Nat} {N : Int} {D : Dk} {J : Jn} {es : List Sec} {c0 k0 : Nat} {alt : Ara} (h : Weak' k N D J es c0 k0 alt) (e : Int) : Weak' k N D { J with failed := e } es c0 k0 alt :=
  ⟨⟨h.geo.se, h.geo.k8, h.geo.fi, h.geo.top, h.geo.n, h.geo.cur, h.geo.gb, h.geo.fb⟩, h.par, h.fit, h.ck, h.sy, h.pl, h.A, h.Y, h.B, h.O, h.al⟩
theorem sync_cases {k : Nat} {N : Int} {D : Dk} {J : Jn} {es : List Sec} {c0 k0 : Nat} (h : Strong k N D J es c0 k0) :
    (syncM D J es.length).1.n = D.n ∧ (syncM D J es.length).1.pend.length ≤ D.pend.length ∧
    (((syncM D J es.length).2 = ({ J with synced := J.first + es.length }, 0) ∧ Out D (syncM D J es.length).1 J.fi (J.fi + ((2 * (k / 2) : Nat) : Int)) ∧ (syncM D J es.length).1.lim = D.lim ∧ Strong k N (syncM D J es.length).1 (syncM D J es.length).2.1 es c0 es.length) ∨
     ((syncM D J es.length).2 = ({ J with failed := 28 }, 28) ∧ (syncM D J es.length).1.down = true ∧ D.lim = true ∧ Weak' k N (syncM D J es.length).1 (syncM D J es.length).2.1 es c0 k0 none)) := by
  have hck := h.ck
  have hlo := h.geo.lo
  rcases flush_cases h.dn with ⟨f1, f2, f3, f4, f5, f6⟩ | ⟨f1, f2, f3, f4, f5, f6⟩
  · have he : syncM D J es.length = (D.flush.1, { J with synced := J.first + es.length }, 0) := by
      unfold syncM
      rw [if_neg (fun k => k h.fl), if_neg (fun k => k f1)]
    rw [he]
    have hc : ∀ a s, Cand D.flush.1 a s → s = (D.vis a).s := fun a s hs => by rw [cand_nil f4 hs, f5]
    refine ⟨f6, by rw [f4]; exact Nat.zero_le _, .inl ⟨rfl, fun b _ => ⟨by rw [vis_nil f4, f5], fun s hs => cand_flush h.dn hs⟩, f3, ?_⟩⟩
    refine { geo := ⟨h.geo.se, h.geo.k8, h.geo.fi, by rw [f6]; exact h.geo.top, by rw [f6]; exact h.geo.n, h.geo.cur, h.geo.gb, h.geo.fb⟩, dn := f2, fl := h.fl, par := h.par, used := h.used, fit := h.fit, ck := ⟨by omega, Nat.le_refl _⟩, sy := rfl, pl := h.pl, A := fun i s hi hs => h.A i s hi (cand_flush h.dn hs), V := fun i s hs => (by rw [vis_nil f4, f5]; exact h.V i s hs), Y := fun i s hs s' h' => ?_, B := fun a s g' h1 h2 h3 => h.B a s g' h1 h2 (cand_flush h.dn h3), O := fun a s g' h1 h2 h3 h4 => h.O a s g' h1 h2 h3 (cand_flush h.dn h4) }
    rw [List.take_of_length_le (Nat.le_refl _)] at hs
    rw [hc _ _ h']
    exact h.V i s hs
  · have he : syncM D J es.length = (D.flush.1, { J with failed := 28 }, 28) := by
      unfold syncM
      rw [if_neg (fun k => k h.fl), if_pos (by rw [f1]; decide), f1, watch28]
    rw [he]
    exact ⟨f6, by rw [f4]; exact Nat.le_refl _, .inr ⟨rfl, f2, f3, (h.weak.mono f6 fun a s hs => cand_flush h.dn hs).failed 28⟩⟩
theorem Strong.gens {k : Nat} {N : Int} {D : Dk} {J : Jn} {es : List Sec} {c0 k0 : Nat} (h : Strong k N D J es c0 k0) : ∀ a g', J.fi ≤ a → a < J.fi + k → gof (D.vis a).s = some g' → g' ≤ J.gen := fun a g' h1 h2 h3 => h.B a _ g' h1 h2 (cand_vis D a) h3
/-- The head of the current area is seen. -/
theorem Strong.head {k : Nat} {N : Int} {D : Dk} {J : Jn} {es : List Sec} {c0 k0 : Nat} (h : Strong k N D J es c0 k0) (hk : k ≤ 1000) (hgb : 0 ≤ J.gen ∧ J.gen ≤ N) (hN : N ≤ 1000000 := by omega) : gof (D.vis (J.base k + ((0 : Nat) : Int))).s = some J.gen := by
  have h0 := h.V 0 (sect 1 J.gen 0 (headP J.first c0) 0) (by
    unfold areaC
    rw [List.getElem?_append_left (by rw [sects_length, headP_length]; decide), sects_at (by rw [headP_length]; decide)])
  have h00 := dec_sect (k := 1) (g := J.gen) (n := 0) (p := headP J.first c0) (i := 0) (by simp only [fineP]; omega) (by rw [headP_length]; decide) (by rw [headP_length]; decide)
  rw [h0]
  exact gof_some.2 ⟨by rw [h00], by rw [h00]; rfl⟩
theorem pl_drop {es : List Sec} {n m : Nat} (h : ∀ p ∈ es, p.length ≤ n) : ∀ p ∈ es.drop m, p.length ≤ n := fun p hp => h p (List.mem_of_mem_drop hp)
theorem writeM_pend {D : Dk} {base g f : Int} {es : List Sec} : (writeM D base g f es).1.pend.length ≤ D.pend.length + (1 + needs es) := by
  have hl := putM_len (ss := areaS g f es) D base
  rw [areaS_length] at hl
  unfold writeM
  split
  · simp only []
    have hk := op_keep (putM D base (areaS g f es)).1
    unfold Dk.flush
    split
    · exact hl
    · split
      · exact Nat.zero_le _
      · rw [hk.2.1]; exact hl
  · exact hl
theorem changeM_pend {D : Dk} {J : Jn} {f : Int} {es : List Sec} : (changeM D J f es).1.pend.length ≤ D.pend.length + (1 + needs es) := by
  unfold changeM
  split
  · simp only []; omega
  · split
    · exact writeM_pend
    · exact writeM_pend
theorem trunc_cases {k : Nat} {N : Int} {D : Dk} {J : Jn} {es : List Sec} {c0 k0 : Nat} (h : Strong k N D J es c0 k0) (hN : 0 ≤ N ∧ N ≤ 900000) (before : Int) :
    (truncM D J before es).1.n = D.n ∧ (truncM D J before es).1.pend.length ≤ D.pend.length + 500 ∧
    ((truncM D J before es = (D, J, es, 2) ∧ (before < J.first ∨ J.first + es.length < before)) ∨ (truncM D J before es = (D, J, es, 0) ∧ before = J.first) ∨
     (∃ m : Nat, 1 ≤ m ∧ m ≤ es.length ∧ before = J.first + m ∧
      (((truncM D J before es).2.2 = (es.drop m, 0) ∧ (truncM D J before es).2.1.first = before ∧ (truncM D J before es).2.1.fi = J.fi ∧ (truncM D J before es).2.1.gen = J.gen + 1 ∧ Out D (truncM D J before es).1 J.fi (J.fi + ((2 * (k / 2) : Nat) : Int)) ∧ (truncM D J before es).1.lim = D.lim ∧
          Strong k (N + 1000) (truncM D J before es).1 (truncM D J before es).2.1 (es.drop m) (es.length - m) (es.length - m)) ∨
       ((truncM D J before es).2 = ({ J with failed := 28 }, es, 28) ∧ (truncM D J before es).1.down = true ∧ D.lim = true ∧ ∃ g, Weak' k N (truncM D J before es).1 (truncM D J before es).2.1 es c0 k0 (some (g, before, es.drop m)))))) := by
  have hle := needs_le es
  have hfit := h.fit
  have hk := h.geo.k
  have hgb := h.geo.gb
  have hfb := h.geo.fb
  have hlo := h.geo.lo
  by_cases h1 : before < J.first ∨ J.first + es.length < before
  · have he : truncM D J before es = (D, J, es, 2) := by unfold truncM; rw [if_neg (fun k => k h.fl), if_pos (by omega)]
    rw [he]
    exact ⟨rfl, by simp only []; omega, .inl ⟨rfl, h1⟩⟩
  by_cases h2 : before = J.first
  · have he : truncM D J before es = (D, J, es, 0) := by unfold truncM; rw [if_neg (fun k => k h.fl), if_neg (by omega), if_pos h2]
    rw [he]
    exact ⟨rfl, by simp only []; omega, .inr (.inl ⟨rfl, h2⟩)⟩
  obtain ⟨m, hm⟩ : ∃ m : Nat, before = J.first + m := ⟨(before - J.first).toNat, by omega⟩
  have hm1 : (before - J.first).toNat = m := by omega
  have hnd := needs_drop es m
  have hdl : (es.drop m).length = es.length - m := List.length_drop
  have hcp := changeM_pend (D := D) (J := J) (f := before) (es := es.drop m)
  obtain ⟨g, g1, g2, g3, g4, gn, gc⟩ := change_cases (B := J.gen) (N := N) h.geo h.dn h.fl (by omega) (by omega) h.gens (f := before) (es := es.drop m) (by omega) (by omega) (pl_drop h.pl) (N' := N + 1000) (by omega)
  have hgg : J.gen < g := g4 _ J.gen (by omega) (by omega) (h.head hk hgb)
  have hpar := h.par
  have hg1 : g = J.gen + 1 := by rcases h.geo.cur with e | e <;> rw [e] at hpar g1 <;> omega
  rcases gc with ⟨c1, c2, c3, c4, c5, c6, c7, c8, c9⟩ | ⟨c1, c2, c3, c4, c5⟩
  · have he : truncM D J before es = ((changeM D J before (es.drop m)).1, (changeM D J before (es.drop m)).2.1, es.drop m, 0) := by
      unfold truncM
      rw [hm1, if_neg (fun k => k h.fl), if_neg (by omega), if_neg h2, if_pos c1]
    rw [he]
    rw [hdl] at c8
    refine ⟨gn, by simp only []; omega, .inr (.inr ⟨m, by omega, by omega, hm, .inl ⟨rfl, c3, c5, by simp only []; rw [c2]; exact hg1, fun b hb => ?_, c6, c8⟩⟩)⟩
    have hob : J.fi ≤ J.fi + (1 - J.cur) * ((k / 2 : Nat) : Int) ∧ J.fi + (1 - J.cur) * ((k / 2 : Nat) : Int) + ((k / 2 : Nat) : Int) ≤ J.fi + ((2 * (k / 2) : Nat) : Int) := by
      rcases h.geo.cur with e | e <;> rw [e] <;> omega
    have h9 := c9 b (by omega)
    exact ⟨by rw [vis_nil c7]; exact h9, fun s hs => by rw [cand_nil c7 hs, h9]; exact cand_vis D b⟩
  · have he : truncM D J before es = ((changeM D J before (es.drop m)).1, { J with failed := 28 }, es, 28) := by
      unfold truncM
      rw [hm1, if_neg (fun k => k h.fl), if_neg (by omega), if_neg h2, if_neg (by rw [c1]; decide), c1, c2, watch28]
    rw [he]
    have hfine : Fine g (es.drop m) := fine_pl (by omega) (by omega) hk (pl_drop h.pl)
    have hal := areaC_length g before (es.drop m).length (es.drop m)
    have hoth : ∀ (j : Nat), j < k / 2 → ¬ (J.base k ≤ J.fi + (1 - J.cur) * ((k / 2 : Nat) : Int) + j ∧ J.fi + (1 - J.cur) * ((k / 2 : Nat) : Int) + j < J.base k + ((k / 2 : Nat) : Int)) := fun j hj => by
      unfold Jn.base
      rcases h.geo.cur with e | e <;> rw [e] <;> omega
    have hjl : ∀ (j : Nat) s, (areaS g before (es.drop m))[j]? = some s → j < k / 2 := fun j s hj => by
      have := (List.getElem?_eq_some_iff.1 hj).1
      rw [areaS_length] at this
      omega
    refine ⟨gn, by simp only []; omega, .inr (.inr ⟨m, by omega, by omega, hm, .inr ⟨rfl, c3, c4, g, Weak'.failed ?_ 28⟩⟩)⟩
    refine { geo := h.geo.mono (Int.le_refl _) gn, par := h.par, fit := h.fit, ck := h.ck, sy := h.sy, pl := h.pl, A := fun i s hi hs => ?_, Y := fun i s hs s' h' => ?_, B := fun a s g' h3 h4 h5 h6 => ?_, O := fun a s g' h3 h4 h5 h6 h7 => ?_, al := fun gg ff ee hh => ?_ }
    · rcases c5 _ s hs with hs | ⟨j, hj, hb⟩
      · exact h.A i s hi hs
      · exact absurd ⟨by omega, by omega⟩ (hoth j (hjl j s hj))
    · rcases c5 _ s' h' with h' | ⟨j, hj, hb⟩
      · exact h.Y i s hs s' h'
      · have hl := (List.getElem?_eq_some_iff.1 hs).1
        rw [areaC_length] at hl
        have := needs_append (es.take k0) (es.drop k0)
        rw [List.take_append_drop] at this
        exact absurd ⟨by omega, by omega⟩ (hoth j (hjl j s' hj))
    · rcases c5 _ s h5 with h5 | ⟨j, hj, hb⟩
      · have := h.B a s g' h3 h4 h5 h6; omega
      · rw [areaC_gof (f := before) (c0 := (es.drop m).length) hfine s (List.mem_of_getElem? hj)] at h6
        simp only [Option.some.injEq] at h6
        omega
    · rcases c5 _ s h6 with h6 | ⟨j, hj, hb⟩
      · exact .inl (h.O a s g' h3 h4 h5 h6 h7)
      · exact .inr ⟨g, before, es.drop m, j, rfl, hj, hb⟩
    · simp only [Option.some.injEq, Prod.mk.injEq] at hh
      obtain ⟨rfl, rfl, rfl⟩ := hh
      exact ⟨g1, hgg, by omega, by omega, by omega, pl_drop h.pl⟩
end Go.Proofs.Ytkjlbedebmffgaa.Sx

/- Plain laws: a step; opening a journal that is whole; a new journal. -/
set_option linter.unusedVariables false
set_option linter.unusedSimpArgs false
namespace Go.Proofs.Ytkjlbedebmffgaa.Sx
/-- What a step that is done has done. -/
structure Eff (k : Nat) (J J' : Jn) (es es' : List Sec) (o : OpR) (e : Int) : Prop where
  a : o.k.toNat % 3 = 0 → (e = 0 ∧ es' = es ++ [bytesM o.n o.b] ∧ J'.first = J.first ∧ 1 + needs es + need (o.n % 1500) ≤ k / 2) ∨ (e = 9 ∧ es' = es ∧ J' = J ∧ k / 2 < 1 + needs es + need (o.n % 1500))
  s : o.k.toNat % 3 = 1 → e = 0 ∧ es' = es ∧ J'.first = J.first
  t : o.k.toNat % 3 = 2 → (e = 2 ∧ es' = es ∧ J' = J) ∨ ∃ m : Nat, e = 0 ∧ m ≤ es.length ∧ es' = es.drop m ∧ J'.first = J.first + m ∧ (m : Int) = ((o.n % 12 : Nat) : Int) - 2
theorem step_cases {k : Nat} {N : Int} {D : Dk} {J : Jn} {es : List Sec} {c0 k0 : Nat} (h : Strong k N D J es c0 k0) (hN : 0 ≤ N ∧ N ≤ 900000) (o : OpR) :
    (stepM D J es o).1.n = D.n ∧ (stepM D J es o).1.pend.length ≤ D.pend.length + 500 ∧
    (((stepM D J es o).1.lim = D.lim ∧ Out D (stepM D J es o).1 J.fi (J.fi + ((2 * (k / 2) : Nat) : Int)) ∧ (stepM D J es o).2.1.fi = J.fi ∧ (∃ c1 k1, Strong k (N + 1000) (stepM D J es o).1 (stepM D J es o).2.1 (stepM D J es o).2.2.1 c1 k1 ∧ J.first + k0 ≤ (stepM D J es o).2.1.first + k1) ∧
        Eff k J (stepM D J es o).2.1 es (stepM D J es o).2.2.1 o (stepM D J es o).2.2.2) ∨
     ((stepM D J es o).2 = ({ J with failed := 28 }, es, 28) ∧ (stepM D J es o).1.down = true ∧ D.lim = true ∧
        ∃ alt, Weak' k N (stepM D J es o).1 (stepM D J es o).2.1 (if o.k.toNat % 3 = 0 then es ++ [bytesM o.n o.b] else es) c0 k0 alt ∧
          (alt = none ∨ o.k.toNat % 3 = 2 ∧ ∃ g, ∃ m : Nat, m ≤ es.length ∧ (m : Int) = ((o.n % 12 : Nat) : Int) - 2 ∧ alt = some (g, J.first + m, es.drop m)))) := by
  have hlen := bytesM_length o.n o.b
  have hck := h.ck
  by_cases h0 : o.k.toNat % 3 = 0
  · have he : stepM D J es o = ((appendM D J es (bytesM o.n o.b)).1, (appendM D J es (bytesM o.n o.b)).2.1, (appendM D J es (bytesM o.n o.b)).2.2.1, (appendM D J es (bytesM o.n o.b)).2.2.2.2) := if_pos h0
    rw [he]
    rcases append_cases h (by omega) (p := bytesM o.n o.b) (by omega) with ⟨a1, a2⟩ | ⟨a1, a2, a3, ⟨a4, a5, a6, a7⟩ | ⟨a4, a5, a6, a7⟩⟩
    · rw [a2]
      rw [hlen] at a1
      refine ⟨rfl, by simp only []; omega, .inl ⟨rfl, Out.refl _ _ _, rfl, ⟨c0, k0, h.up (by omega), Int.le_refl _⟩, ⟨fun _ => .inr ⟨rfl, rfl, rfl, a1⟩, fun k => by omega, fun k => by omega⟩⟩⟩
    · rw [a5] at a7 ⊢
      rw [hlen] at a1
      exact ⟨a2, a3, .inl ⟨a6, a4, rfl, ⟨c0, k0, a7.up (by omega), Int.le_refl _⟩, ⟨fun _ => .inl ⟨rfl, rfl, rfl, a1⟩, fun k => by omega, fun k => by omega⟩⟩⟩
    · rw [a4] at a7 ⊢
      exact ⟨a2, a3, .inr ⟨rfl, a5, a6, none, by rw [if_pos h0]; exact a7, .inl rfl⟩⟩
  by_cases h1 : o.k.toNat % 3 = 1
  · have he : stepM D J es o = ((syncM D J es.length).1, (syncM D J es.length).2.1, es, (syncM D J es.length).2.2) := by unfold stepM; rw [if_neg h0, if_pos h1]
    rw [he]
    rcases sync_cases h with ⟨a2, a3, ⟨a4, a5, a6, a7⟩ | ⟨a4, a5, a6, a7⟩⟩
    · rw [a4] at a7 ⊢
      exact ⟨a2, by simp only []; omega, .inl ⟨a6, a5, rfl, ⟨c0, es.length, a7.up (by omega), by simp only []; omega⟩, ⟨fun k => by omega, fun _ => ⟨rfl, rfl, rfl⟩, fun k => by omega⟩⟩⟩
    · rw [a4] at a7 ⊢
      exact ⟨a2, by simp only []; omega, .inr ⟨rfl, a5, a6, none, by rw [if_neg h0]; exact a7, .inl rfl⟩⟩
  · have h2 : o.k.toNat % 3 = 2 := by omega
    have he : stepM D J es o = truncM D J (J.first + ((o.n % 12 : Nat) : Int) - 2) es := by unfold stepM; rw [if_neg h0, if_neg h1]
    rw [he]
    obtain ⟨a2, a3, a4⟩ := trunc_cases h hN (J.first + ((o.n % 12 : Nat) : Int) - 2)
    refine ⟨a2, a3, ?_⟩
    rcases a4 with ⟨b1, b2⟩ | ⟨b1, b2⟩ | ⟨m, m1, m2, m3, ⟨b1, b2, b3, b4, b5, b6, b7⟩ | ⟨b1, b2, b3, g, b4⟩⟩
    · rw [b1]
      exact .inl ⟨rfl, Out.refl _ _ _, rfl, ⟨c0, k0, h.up (by omega), Int.le_refl _⟩, ⟨fun k => by omega, fun k => by omega, fun _ => .inl ⟨rfl, rfl, rfl⟩⟩⟩
    · rw [b1]
      exact .inl ⟨rfl, Out.refl _ _ _, rfl, ⟨c0, k0, h.up (by omega), Int.le_refl _⟩, ⟨fun k => by omega, fun k => by omega, fun _ => .inr ⟨0, rfl, Nat.zero_le _, rfl, by simp only []; omega, by omega⟩⟩⟩
    · left
      have e1 : (truncM D J (J.first + ((o.n % 12 : Nat) : Int) - 2) es).2.2.1 = es.drop m := by rw [b1]
      have e2 : (truncM D J (J.first + ((o.n % 12 : Nat) : Int) - 2) es).2.2.2 = 0 := by rw [b1]
      rw [e1, e2]
      exact ⟨b6, b5, b3, ⟨_, _, b7, by rw [b2]; omega⟩, ⟨fun k => by omega, fun k => by omega, fun _ => .inr ⟨m, rfl, m2, rfl, by rw [b2]; exact m3, by omega⟩⟩⟩
    · right
      rw [b1] at b4 ⊢
      refine ⟨rfl, b2, b3, _, by rw [if_neg h0]; exact b4, .inr ⟨h2, g, m, m2, by omega, by rw [m3]⟩⟩
/-! ### Opening -/
theorem jn0_geo {k : Nat} {N : Int} {D : Dk} {fi g f : Int} (h8 : 8 ≤ k) (hfi : 0 ≤ fi) (htop : fi + k ≤ D.n) (hn : D.n ≤ 1000) (hN : 0 ≤ N) (hf : 0 ≤ f ∧ f ≤ N) : Geo k N D (jn0 fi (k : Int) g f) :=
  ⟨rfl, h8, hfi, htop, hn, by show g % 2 = 0 ∨ g % 2 = 1; omega, ⟨Int.le_refl _, hN⟩, hf⟩
theorem check_zero {D : Dk} {fi : Int} {k : Nat} (h8 : 8 ≤ k) (hfi : 0 ≤ fi) (htop : fi + k ≤ D.n) (hd : D.down = false) : D.check fi k = 0 := by
  unfold Dk.check
  rw [if_neg (by omega), if_neg (by rw [hd]; decide)]
/-- Which area is found. -/
theorem pk_pick {D : Dk} {fi : Int} {k : Nat} {cur g f : Int} {es : List Sec} (hc : cur = 0 ∨ cur = 1) (h1 : areaM cur (D.seen (fi + cur * ((k / 2 : Nat) : Int)) (k / 2)) = some (g, f, es))
    (h2 : ∀ g' f' es', areaM (1 - cur) (D.seen (fi + (1 - cur) * ((k / 2 : Nat) : Int)) (k / 2)) = some (g', f', es') → g' < g) : pkM D fi k 2 = some (g, f, es) := by
  rcases hc with rfl | rfl
  · have e0 : arM D fi k 0 = some (g, f, es) := h1
    simp only [pkM, pickM, e0]
    cases e1 : arM D fi k 1 with
    | none => rfl
    | some y =>
      have := h2 y.1 y.2.1 y.2.2 e1
      simp only []
      rw [if_neg (by omega)]
  · have e1 : arM D fi k 1 = some (g, f, es) := h1
    simp only [pkM, pickM, e1]
    cases e0 : arM D fi k 0 with
    | none => rfl
    | some y =>
      have := h2 y.1 y.2.1 y.2.2 e0
      simp only []
      rw [if_pos (by omega)]
theorem seen_split {D : Dk} {a : Int} {m : Nat} {S : List Sec} (hm : S.length ≤ m) (h : ∀ (i : Nat) s, S[i]? = some s → (D.vis (a + i)).s = s) : D.seen a m = S ++ (D.seen a m).drop S.length := by
  conv => lhs; rw [← List.take_append_drop S.length (D.seen a m)]
  congr 1
  apply List.ext_getElem?
  intro i
  by_cases hi : i < S.length
  · rw [List.getElem?_take, if_pos hi, seen_at (by omega), get_of hi, h i _ (get_of hi)]
  · rw [List.getElem?_take, if_neg hi, List.getElem?_eq_none (by omega)]
theorem Alike.refl (g : Int) (c : List Sec) : Alike g c c := ⟨rfl, fun _ _ h _ => h⟩
theorem other_low {D : Dk} {a : Int} {m : Nat} {n g : Int} (hm : 0 < m) (h : ∀ g', gof (D.vis (a + ((0 : Nat) : Int))).s = some g' → g' < g) : ∀ g' f' es', areaM n (D.seen a m) = some (g', f', es') → g' < g := fun g' f' es' h1 => by
  have h2 := (areaM_gen h1).1
  rw [getD_of (seen_at hm)] at h2
  exact h g' h2
/-- A journal that is whole is found as it is. -/
theorem Strong.found {k : Nat} {N : Int} {D : Dk} {J : Jn} {es : List Sec} {c0 k0 : Nat} (h : Strong k N D J es c0 k0) (hN : 0 ≤ N ∧ N ≤ 900000) : D.check J.fi k = 0 ∧ pkM D J.fi k 2 = some (J.gen, J.first, es) := by
  have hk := h.geo.k
  have h8 := h.geo.k8
  have hgb := h.geo.gb
  have hfb := h.geo.fb
  have hlo := h.geo.lo
  have hfit := h.fit
  have hck := h.ck
  have hf := h.fine (by omega)
  have hle := needs_le es
  have hal := areaC_length J.gen J.first c0 es
  refine ⟨check_zero h8 h.geo.fi h.geo.top h.dn, pk_pick h.geo.cur ?_ (other_low (by omega) fun g' hg => ?_)⟩
  · have hs := seen_split (D := D) (a := J.base k) (m := k / 2) (S := areaC J.gen J.first c0 es) (by omega) h.V
    obtain ⟨kk, k1, k2, k3⟩ := areaM_meant_ge (n := J.cur) (g := J.gen) (f := J.first) (c0 := c0) (k0 := es.length) (es := es) hf (by omega) h.par (by rw [← hs]; exact Alike.refl _ _) (tail := (D.seen (J.base k) (k / 2)).drop (areaC J.gen J.first c0 es).length) (fun s hs2 => by
      rw [List.getElem?_drop, hal, Nat.add_zero] at hs2
      have hlt := (List.getElem?_eq_some_iff.1 hs2).1
      rw [seen_length] at hlt
      rw [seen_at hlt] at hs2
      simp only [Option.some.injEq] at hs2
      rcases h.A (1 + needs es) s hlt (by rw [← hs2]; exact cand_vis D _) with h3 | h3
      · have := (List.getElem?_eq_some_iff.1 h3).1
        omega
      · exact h3) ⟨by omega, Nat.le_refl _⟩ (by rw [List.take_of_length_le (Nat.le_refl _)]; exact hs)
    rw [List.take_of_length_le (by omega)] at k3
    exact k3
  · refine h.O _ _ g' ?_ ?_ ?_ (cand_vis D _) hg
    · rcases h.geo.cur with e | e <;> rw [e] <;> omega
    · rcases h.geo.cur with e | e <;> rw [e] <;> omega
    · unfold Jn.base
      rcases h.geo.cur with e | e <;> rw [e] <;> omega
/-- It is opened, or the power fails. -/
theorem Strong.open' {k : Nat} {N : Int} {D : Dk} {J : Jn} {es : List Sec} {c0 k0 : Nat} (h : Strong k N D J es c0 k0) (hN : 0 ≤ N ∧ N ≤ 900000) (hl : D.lim = false) :
    (changeM D (jn0 J.fi (k : Int) J.gen J.first) J.first es).2.2 = 0 ∧ (changeM D (jn0 J.fi (k : Int) J.gen J.first) J.first es).1.n = D.n ∧ (changeM D (jn0 J.fi (k : Int) J.gen J.first) J.first es).1.lim = false ∧ (changeM D (jn0 J.fi (k : Int) J.gen J.first) J.first es).1.pend = [] ∧
    (changeM D (jn0 J.fi (k : Int) J.gen J.first) J.first es).2.1.first = J.first ∧ (changeM D (jn0 J.fi (k : Int) J.gen J.first) J.first es).2.1.fi = J.fi ∧ (changeM D (jn0 J.fi (k : Int) J.gen J.first) J.first es).2.1.gen = J.gen + 1 ∧
    Out D (changeM D (jn0 J.fi (k : Int) J.gen J.first) J.first es).1 J.fi (J.fi + ((2 * (k / 2) : Nat) : Int)) ∧
    Strong k (N + 1000) (changeM D (jn0 J.fi (k : Int) J.gen J.first) J.first es).1 (changeM D (jn0 J.fi (k : Int) J.gen J.first) J.first es).2.1 es es.length es.length := by
  have hgb := h.geo.gb
  have hfb := h.geo.fb
  have hlo := h.geo.lo
  have hpar := h.par
  have hk := h.geo.k
  have h8 := h.geo.k8
  have hcj : (jn0 J.fi (k : Int) J.gen J.first).cur = J.cur := h.par
  obtain ⟨g, g1, g2, g3, g4, gn, gc⟩ := change_cases (k := k) (N := N) (B := J.gen) (J := jn0 J.fi (k : Int) J.gen J.first) (jn0_geo h.geo.k8 h.geo.fi h.geo.top h.geo.n hN.1 hfb) h.dn rfl (by omega) (by omega) h.gens (f := J.first) (es := es) (by omega) h.fit h.pl (N' := N + 1000) (by omega)
  have hgg : J.gen < g := g4 _ J.gen (by show J.fi ≤ _; omega) (by show _ < J.fi + (k : Int); omega) (h.head hk hgb)
  rw [hcj] at g1 gc
  have hg1 : g = J.gen + 1 := by rcases h.geo.cur with e | e <;> rw [e] at hpar g1 <;> omega
  rcases gc with ⟨c1, c2, c3, c4, c5, c6, c7, c8, c9⟩ | ⟨c1, c2, c3, c4, c5⟩
  · refine ⟨c1, gn, by rw [c6, hl], c7, c3, c5, by rw [c2]; exact hg1, fun b hb => ?_, c8⟩
    have hob : J.fi ≤ J.fi + (1 - J.cur) * ((k / 2 : Nat) : Int) ∧ J.fi + (1 - J.cur) * ((k / 2 : Nat) : Int) + ((k / 2 : Nat) : Int) ≤ J.fi + ((2 * (k / 2) : Nat) : Int) := by
      rcases h.geo.cur with e | e <;> rw [e] <;> omega
    have h9 := c9 b (by show b < J.fi + _ ∨ J.fi + _ + _ ≤ b; omega)
    exact ⟨by rw [vis_nil c7]; exact h9, fun s hs => by rw [cand_nil c7 hs, h9]; exact cand_vis D b⟩
  · rw [hl] at c4; cases c4
/-- A new journal in sectors that hold nothing. -/
theorem format_new {D : Dk} {fi : Int} {k : Nat} (h8 : 8 ≤ k) (hfi : 0 ≤ fi) (htop : fi + k ≤ D.n) (hn : D.n ≤ 1000) (hd : D.down = false) (hl : D.lim = false) (hv : ∀ a, fi ≤ a → a < fi + k → gof (D.vis a).s = none) :
    (formatM D fi (k : Int)).2 = 0 ∧ (formatM D fi (k : Int)).1.n = D.n ∧ (formatM D fi (k : Int)).1.lim = false ∧ (formatM D fi (k : Int)).1.pend = [] ∧ Out D (formatM D fi (k : Int)).1 fi (fi + ((2 * (k / 2) : Nat) : Int)) ∧
    ∃ J, J.fi = fi ∧ J.first = 0 ∧ J.gen = 0 ∧ Strong k 10 (formatM D fi (k : Int)).1 J [] 0 0 := by
  have hgeo : Geo k 10 D ⟨fi, (k : Int), 1, 0, 0, 0, 0, 0⟩ := ⟨rfl, h8, hfi, htop, hn, .inr rfl, ⟨Int.le_refl _, show (0 : Int) ≤ 10 by decide⟩, ⟨Int.le_refl _, show (0 : Int) ≤ 10 by decide⟩⟩
  obtain ⟨g, g1, g2, g3, g4, gn, gc⟩ := change_cases (k := k) (N := 10) (B := -1) hgeo hd rfl (by omega) (by omega) (fun a g' h1 h2 h3 => by rw [hv a h1 h2] at h3; cases h3) (f := 0) (es := []) (by omega) (by simp only [needs]; omega) (fun p hp => by cases hp) (N' := 10) (by omega)
  have hc : D.check fi k = 0 := check_zero h8 hfi htop hd
  have hg0 : g = 0 := by simp only [] at g1; omega
  have hst : ((k : Int)).toNat = k := Int.toNat_natCast k
  have hfm : formatM D fi (k : Int) = ((changeM D ⟨fi, (k : Int), 1, 0, 0, 0, 0, 0⟩ 0 []).1, (changeM D ⟨fi, (k : Int), 1, 0, 0, 0, 0, 0⟩ 0 []).2.2) := by
    unfold formatM changeM
    simp only [show (1 : Int) - 1 = 0 from rfl, Int.zero_mul, Int.add_zero]
    rw [if_neg (fun k => k hc)]
    split
    · rfl
    · split
      · rfl
      · rename_i h1 h2
        rw [Decidable.not_not.1 h2]
  rw [hfm]
  rcases gc with ⟨c1, c2, c3, c4, c5, c6, c7, c8, c9⟩ | ⟨c1, c2, c3, c4, c5⟩
  · refine ⟨c1, gn, by rw [c6, hl], c7, fun b hb => ?_, _, c5, c3, by rw [c2]; exact hg0, c8⟩
    have h9 := c9 b (by simp only []; omega)
    exact ⟨by rw [vis_nil c7]; exact h9, fun s hs => by rw [cand_nil c7 hs, h9]; exact cand_vis D b⟩
  · rw [hl] at c4; cases c4
end Go.Proofs.Ytkjlbedebmffgaa.Sx

set_option linter.unusedVariables false
set_option linter.unusedSimpArgs false
namespace Go.Proofs.Ytkjlbedebmffgaa.Sx
open Go.RowKit Go.Proofs.Ytkjlbedebmffgaa.Ty
attribute [local irreducible] blk own rd rx frameC

/-- A journal on a device, with its places. -/
structure JP where
  D : Dk
  A : Option Addr
  c : Nat
  J : Jn
  Aj : Option Addr
  cj : Nat
  rs : List Bs
theorem Strong.jok {k : Nat} {N : Int} {D : Dk} {J : Jn} {es : List Sec} {c0 k0 : Nat} (h : Strong k N D J es c0 k0) (hN : 0 ≤ N ∧ N ≤ 900000) (hpd : D.pend.length ≤ 800000) : Jok D J es := by
  have hk := h.geo.k
  have h8 := h.geo.k8
  have hgb := h.geo.gb
  have hfb := h.geo.fb
  have hfit := h.fit
  have hle := needs_le es
  have hse := h.geo.se
  have hu := h.used
  have htop := h.geo.top
  have hn := h.geo.n
  exact ⟨⟨h.geo.fi, by omega, by omega⟩, by omega, by rcases h.geo.cur with e | e <;> omega, by omega, by omega, by omega, fun _ => h.dn, by omega, fun p hp => Nat.le_trans (h.pl p hp) (by decide), by omega⟩
theorem weak4 {c1 c2 c3 c4 : Ch} : Weak [c1, c2, c3, c4] [c1, c2, c3, c4] := .keep (.refl _) (.keep (.refl _) (.keep (.refl _) (.keep (.refl _) (.nil _))))
theorem weak_refl : ∀ (H : List Ch), Weak H H
  | [] => .nil _
  | _ :: H => .keep (.refl _) (weak_refl H)
theorem sha_zeros : ¬ (sha ((List.replicate 256 (0 : UInt8)).drop 16)).take 16 = (List.replicate 256 (0 : UInt8)).take 16 := by decide +kernel
set_option maxRecDepth 20000 in
theorem gof_zero : gof Sct.z.s = none := by
  have h : dec (List.replicate 256 0) = (pt0, 22) := dec_sum (List.length_replicate ..) sha_zeros
  show gof (List.replicate 256 0) = none
  unfold gof
  rw [h]
  rfl
/-- Format on sectors that hold nothing. -/
theorem f12_new (bd bm : Nat) (A : Option Addr) (c : Nat) (D : Dk) (fi : Int) (k : Nat) (h8 : 8 ≤ k) (hfi : 0 ≤ fi) (htop : fi + k ≤ D.n) (hn : D.n ≤ 1000) (hd : D.down = false) (hl : D.lim = false) (hv : ∀ a, fi ≤ a → a < fi + k → gof (D.vis a).s = none) (hpd : D.pend.length ≤ 800000) :
    Spec Try.prog 12 [.pointer (some ⟨bd, 0, none⟩), .int .i64 fi, .int .i64 (k : Int)] [blk bd (dcells D bm A c) 66, mapC bm (dmap D.dur), own (.slice A D.pend.length c) 84 257 D.pend.length (D.pend.flatMap wcs)] [] (R := Dk × Option Addr × Nat)
      (fun q => q.1.n = D.n ∧ q.1.lim = false ∧ q.1.pend = [] ∧ Out D q.1 fi (fi + ((2 * (k / 2) : Nat) : Int)) ∧ ∃ J, J.fi = fi ∧ J.first = 0 ∧ J.gen = 0 ∧ Strong k 10 q.1 J [] 0 0) (fun _ => .int .i64 0) (fun q => [blk bd (dcells q.1 bm q.2.1 q.2.2) 66, mapC bm (dmap q.1.dur), own (.slice q.2.1 q.1.pend.length q.2.2) 84 257 q.1.pend.length (q.1.pend.flatMap wcs)]) := by
  obtain ⟨h1, h2, h3, h4, h5, h6⟩ := format_new h8 hfi htop hn hd hl hv
  refine (f12_spec bd bm A c D fi k (by omega) (by omega) (by omega)).conseq ?_
  rintro ⟨A9, c9⟩ _
  exact ⟨((formatM D fi k).1, A9, c9), ⟨h2, h3, h4, h5, h6⟩, by rw [h1], weak_refl _⟩
/-- A journal that is whole is opened. -/
theorem f14_live (bd bm : Nat) (A : Option Addr) (c : Nat) (D : Dk) (J : Jn) {k : Nat} {N : Int} {es : List Sec} {c0 k0 : Nat} (h : Strong k N D J es c0 k0) (hN : 0 ≤ N ∧ N ≤ 900000) (hpd : D.pend.length ≤ 800000) (hl : D.lim = false) (fi : Int) (hfi : J.fi = fi) :
    Spec Try.prog 14 [.pointer (some ⟨bd, 0, none⟩), .int .i64 fi, .int .i64 (k : Int)] [blk bd (dcells D bm A c) 66, mapC bm (dmap D.dur), own (.slice A D.pend.length c) 84 257 D.pend.length (D.pend.flatMap wcs)] [] (R := JP × Nat × (Option Addr × Nat) × List Bs)
      (fun r => r.1.rs.map Bs.s = es ∧ r.2.2.2.map Bs.s = es ∧ r.1.D.n = D.n ∧ r.1.D.lim = false ∧ r.1.D.pend = [] ∧ r.1.J.first = J.first ∧ r.1.J.fi = J.fi ∧ r.1.J.gen = J.gen + 1 ∧ Out D r.1.D J.fi (J.fi + ((2 * (k / 2) : Nat) : Int)) ∧ Strong k (N + 1000) r.1.D r.1.J es es.length es.length)
      (fun r => .tuple #[.pointer (some ⟨r.2.1, 0, none⟩), .slice r.2.2.1.1 r.2.2.2.length r.2.2.1.2, .int .i64 0])
      (fun r => [blk bd (dcells r.1.D bm r.1.A r.1.c) 66, mapC bm (dmap r.1.D.dur), own (.slice r.1.A r.1.D.pend.length r.1.c) 84 257 r.1.D.pend.length (r.1.D.pend.flatMap wcs), blk r.2.1 (jcells r.1.J bd r.1.Aj r.1.rs.length r.1.cj) 76, own (.slice r.1.Aj r.1.rs.length r.1.cj) 23 1 r.1.rs.length (r.1.rs.map Bs.v), rowsC true r.1.rs, own (.slice r.2.2.1.1 r.2.2.2.length r.2.2.1.2) 49 2 r.2.2.2.length (entC J.first r.2.2.2), rowsC true r.2.2.2]) := by
  subst hfi
  have hgb := h.geo.gb
  have hfb := h.geo.fb
  have hk := h.geo.k
  have hfit := h.fit
  have hnn := h.geo.n
  obtain ⟨h1, h2⟩ := h.found hN
  obtain ⟨g1, g2, g3, g4, g5, g6, g7, g8, g9⟩ := h.open' hN hl
  refine (f14_ok bd bm A c D J.fi k J.gen J.first es h1 h2 (by omega) (by omega) (fun p hp => Nat.le_trans (h.pl p hp) (by decide)) (by omega) (by omega) g1).conseq ?_
  rintro ⟨⟨A9, c9⟩, bj, ⟨Ae, ce⟩, rs, ⟨Ax, cx⟩, xs⟩ ⟨hq1, hq2⟩
  exact ⟨(⟨(changeM D (jn0 J.fi k J.gen J.first) J.first es).1, A9, c9, (changeM D (jn0 J.fi k J.gen J.first) J.first es).2.1, Ae, ce, rs⟩, bj, (Ax, cx), xs), ⟨hq1, hq2, g2, g3, g4, g5, g6, g7, g8, g9⟩, rfl, weak_refl _⟩
/-- An entry that has room. -/
theorem f27_live (bd bm bj : Nat) (A : Option Addr) (c : Nat) (D : Dk) (J : Jn) (Aj : Option Addr) (cj : Nat) (rs : List Bs) {k : Nat} {N : Int} {es : List Sec} {c0 k0 : Nat} (h : Strong k N D J es c0 k0) (hrs : rs.map Bs.s = es) (hN : 0 ≤ N ∧ N ≤ 900000) (hpd : D.pend.length ≤ 800000) (hl : D.lim = false) (Ab : Option Addr) (mb cb : Nat) (p : List UInt8) (hp : p.length = mb) (hp2 : mb ≤ 100000) (hfit : 1 + needs es + need mb ≤ k / 2) :
    Spec Try.prog 27 [.pointer (some ⟨bj, 0, none⟩), .slice Ab mb cb] [blk bd (dcells D bm A c) 66, mapC bm (dmap D.dur), own (.slice A D.pend.length c) 84 257 D.pend.length (D.pend.flatMap wcs), blk bj (jcells J bd Aj rs.length cj) 76, own (.slice Aj rs.length cj) 23 1 rs.length (rs.map Bs.v), rowsC true rs] [rd (.slice Ab mb cb) 1 mb (bvs p)] (R := JP)
      (fun q => q.rs.map Bs.s = es ++ [p] ∧ q.D.n = D.n ∧ q.D.lim = false ∧ q.D.pend.length ≤ D.pend.length + 500 ∧ q.J.first = J.first ∧ q.J.fi = J.fi ∧ q.J.gen = J.gen ∧ Out D q.D J.fi (J.fi + ((2 * (k / 2) : Nat) : Int)) ∧ Strong k N q.D q.J (es ++ [p]) c0 k0) (fun _ => .tuple #[.int .i64 (J.first + (es.length : Nat)), .int .i64 0])
      (fun q => [blk bd (dcells q.D bm q.A q.c) 66, mapC bm (dmap q.D.dur), own (.slice q.A q.D.pend.length q.c) 84 257 q.D.pend.length (q.D.pend.flatMap wcs), blk bj (jcells q.J bd q.Aj q.rs.length q.cj) 76, own (.slice q.Aj q.rs.length q.cj) 23 1 q.rs.length (q.rs.map Bs.v), rowsC true q.rs]) := by
  have hj := h.jok hN hpd
  have h1 := hj.fs
  have h2 := hj.n
  have h3 := hj.first
  have h4 := hj.len
  have h5 := hj.mx
  subst hrs
  rw [List.length_map] at h4
  subst hp
  rcases append_cases h (by omega) (p := p) (by omega) with ⟨a1, a2⟩ | ⟨a1, a2, a3, ⟨a4, a5, a6, a7⟩ | ⟨a4, a5, a6, a7⟩⟩
  · omega
  · refine (f27_spec bd bm A c D bj J Aj cj rs Ab p.length cb p rfl (by omega) hj.cur hj.gen hj.used (by omega) h4 (by omega)).conseq ?_
    rintro ⟨⟨A9, c9⟩, ⟨Aj9, cj9⟩, rs9⟩ hq
    dsimp only at hq
    rw [a5] at hq
    exact ⟨⟨(appendM D J (rs.map Bs.s) p).1, A9, c9, (appendM D J (rs.map Bs.s) p).2.1, Aj9, cj9, rs9⟩, ⟨hq, a2, by rw [a6, hl], a3, by rw [a5], by rw [a5], by rw [a5], a4, a7⟩, by rw [a5], weak_refl _⟩
  · rw [hl] at a6; cases a6
/-- An entry that has no room. -/
theorem f27_full (bd bm bj : Nat) (A : Option Addr) (c : Nat) (D : Dk) (J : Jn) (Aj : Option Addr) (cj : Nat) (rs : List Bs) {k : Nat} {N : Int} {es : List Sec} {c0 k0 : Nat} (h : Strong k N D J es c0 k0) (hrs : rs.map Bs.s = es) (hN : 0 ≤ N ∧ N ≤ 900000) (hpd : D.pend.length ≤ 800000) (Ab : Option Addr) (mb cb : Nat) (p : List UInt8) (hp : p.length = mb) (hp2 : mb ≤ 100000) (hfit : k / 2 < 1 + needs es + need mb) :
    Spec Try.prog 27 [.pointer (some ⟨bj, 0, none⟩), .slice Ab mb cb] [blk bd (dcells D bm A c) 66, mapC bm (dmap D.dur), own (.slice A D.pend.length c) 84 257 D.pend.length (D.pend.flatMap wcs), blk bj (jcells J bd Aj rs.length cj) 76, own (.slice Aj rs.length cj) 23 1 rs.length (rs.map Bs.v), rowsC true rs] [rd (.slice Ab mb cb) 1 mb (bvs p)] (R := JP)
      (fun q => q.rs.map Bs.s = es ∧ q.D = D ∧ q.J = J) (fun _ => .tuple #[.int .i64 0, .int .i64 9])
      (fun q => [blk bd (dcells q.D bm q.A q.c) 66, mapC bm (dmap q.D.dur), own (.slice q.A q.D.pend.length q.c) 84 257 q.D.pend.length (q.D.pend.flatMap wcs), blk bj (jcells q.J bd q.Aj q.rs.length q.cj) 76, own (.slice q.Aj q.rs.length q.cj) 23 1 q.rs.length (q.rs.map Bs.v), rowsC true q.rs]) := by
  have hj := h.jok hN hpd
  have h1 := hj.fs
  have h2 := hj.n
  have h3 := hj.first
  have h4 := hj.len
  have h5 := hj.mx
  subst hrs
  rw [List.length_map] at h4
  subst hp
  rcases append_cases h (by omega) (p := p) (by omega) with ⟨a1, a2⟩ | ⟨a1, a2, a3, ⟨a4, a5, a6, a7⟩ | ⟨a4, a5, a6, a7⟩⟩
  · refine (f27_spec bd bm A c D bj J Aj cj rs Ab p.length cb p rfl (by omega) hj.cur hj.gen hj.used (by omega) h4 (by omega)).conseq ?_
    rintro ⟨⟨A9, c9⟩, ⟨Aj9, cj9⟩, rs9⟩ hq
    dsimp only at hq
    rw [a2] at hq
    exact ⟨⟨D, A9, c9, J, Aj9, cj9, rs9⟩, ⟨hq, rfl, rfl⟩, by rw [a2], by rw [a2]; exact weak_refl _⟩
  · omega
  · omega
/-- Entries are removed. -/
theorem f28_live (bd bm bj : Nat) (A : Option Addr) (c : Nat) (D : Dk) (J : Jn) (Aj : Option Addr) (cj : Nat) (rs : List Bs) {k : Nat} {N : Int} {es : List Sec} {c0 k0 : Nat} (h : Strong k N D J es c0 k0) (hrs : rs.map Bs.s = es) (hN : 0 ≤ N ∧ N ≤ 900000) (hpd : D.pend.length ≤ 800000) (hl : D.lim = false) (m : Nat) (hm : m ≤ es.length) (before : Int) (hb : before = J.first + m) :
    Spec Try.prog 28 [.pointer (some ⟨bj, 0, none⟩), .int .i64 before] [blk bd (dcells D bm A c) 66, mapC bm (dmap D.dur), own (.slice A D.pend.length c) 84 257 D.pend.length (D.pend.flatMap wcs), blk bj (jcells J bd Aj rs.length cj) 76, own (.slice Aj rs.length cj) 23 1 rs.length (rs.map Bs.v), rowsC true rs] [] (R := JP)
      (fun q => q.rs.map Bs.s = es.drop m ∧ q.D.n = D.n ∧ q.D.lim = false ∧ q.D.pend.length ≤ D.pend.length + 500 ∧ q.J.first = before ∧ q.J.fi = J.fi ∧ q.J.gen = (if m = 0 then J.gen else J.gen + 1) ∧ Out D q.D J.fi (J.fi + ((2 * (k / 2) : Nat) : Int)) ∧ ∃ c1 k1, Strong k (N + 1000) q.D q.J (es.drop m) c1 k1) (fun _ => .int .i64 0)
      (fun q => [blk bd (dcells q.D bm q.A q.c) 66, mapC bm (dmap q.D.dur), own (.slice q.A q.D.pend.length q.c) 84 257 q.D.pend.length (q.D.pend.flatMap wcs), blk bj (jcells q.J bd q.Aj q.rs.length q.cj) 76, own (.slice q.Aj q.rs.length q.cj) 23 1 q.rs.length (q.rs.map Bs.v), rowsC true q.rs]) := by
  have hj := h.jok hN hpd
  have h1 := hj.fs
  have h2 := hj.n
  have h3 := hj.first
  have h4 := hj.len
  have h5 := hj.mx
  subst hrs
  rw [List.length_map] at h4
  have hsp := f28_spec bd bm A c D bj J Aj cj before rs hj.dn hj.fs hj.cur (by omega) (by omega) (fun r hr => hj.pl _ (List.mem_map_of_mem hr)) (by omega) (by omega)
  obtain ⟨a2, a3, a4⟩ := trunc_cases h hN before
  refine hsp.conseq ?_
  rintro ⟨⟨A9, c9⟩, ⟨Aj9, cj9⟩, rs9⟩ hq
  dsimp only at hq
  rcases a4 with ⟨b1, b2⟩ | ⟨b1, b2⟩ | ⟨m', m1, m2, m3, ⟨b1, b2, b3, b4, b5, b6, b7⟩ | ⟨b1, b2, b3, g, b4⟩⟩
  · omega
  · obtain rfl : m = 0 := by omega
    rw [b1] at hq
    exact ⟨⟨D, A9, c9, J, Aj9, cj9, rs9⟩, ⟨hq, rfl, hl, by simp only []; omega, b2.symm, rfl, rfl, Out.refl _ _ _, c0, k0, h.up (by omega)⟩, by rw [b1], by rw [b1]; exact weak_refl _⟩
  · obtain rfl : m = m' := by omega
    rw [b1] at hq
    exact ⟨⟨(truncM D J before (rs.map Bs.s)).1, A9, c9, (truncM D J before (rs.map Bs.s)).2.1, Aj9, cj9, rs9⟩, ⟨hq, a2, by rw [b6, hl], a3, b2, b3, by rw [if_neg (by omega)]; exact b4, b5, _, _, b7⟩, by rw [b1], weak_refl _⟩
  · rw [hl] at b3; cases b3
/-- A step without failures. -/
theorem f20_live (bd bm bj : Nat) (A : Option Addr) (c : Nat) (D : Dk) (J : Jn) (Aj : Option Addr) (cj : Nat) (rs : List Bs) {k : Nat} {N : Int} {es : List Sec} {c0 k0 : Nat} (h : Strong k N D J es c0 k0) (hrs : rs.map Bs.s = es) (hN : 0 ≤ N ∧ N ≤ 900000) (hpd : D.pend.length ≤ 800000) (hl : D.lim = false) (o : OpR) (ho : o.n < 65536) :
    Spec Try.prog 20 [.pointer (some ⟨bj, 0, none⟩), .agg o.cells.toArray] [blk bd (dcells D bm A c) 66, mapC bm (dmap D.dur), own (.slice A D.pend.length c) 84 257 D.pend.length (D.pend.flatMap wcs), blk bj (jcells J bd Aj rs.length cj) 76, own (.slice Aj rs.length cj) 23 1 rs.length (rs.map Bs.v), rowsC true rs] [] (R := JP × Int)
      (fun r => ∃ es', r.1.rs.map Bs.s = es' ∧ r.1.D.n = D.n ∧ r.1.D.lim = false ∧ r.1.D.pend.length ≤ D.pend.length + 500 ∧ r.1.J.fi = J.fi ∧ Out D r.1.D J.fi (J.fi + ((2 * (k / 2) : Nat) : Int)) ∧ (∃ c1 k1, Strong k (N + 1000) r.1.D r.1.J es' c1 k1) ∧ Eff k J r.1.J es es' o r.2) (fun r => .int .i64 r.2)
      (fun r => [blk bd (dcells r.1.D bm r.1.A r.1.c) 66, mapC bm (dmap r.1.D.dur), own (.slice r.1.A r.1.D.pend.length r.1.c) 84 257 r.1.D.pend.length (r.1.D.pend.flatMap wcs), blk bj (jcells r.1.J bd r.1.Aj r.1.rs.length r.1.cj) 76, own (.slice r.1.Aj r.1.rs.length r.1.cj) 23 1 r.1.rs.length (r.1.rs.map Bs.v), rowsC true r.1.rs]) := by
  have hj := h.jok hN hpd
  subst hrs
  obtain ⟨a2, a3, a4⟩ := step_cases h hN o
  refine (f20_spec bd bm A c D bj J Aj cj rs o ho hj).conseq ?_
  rintro ⟨⟨A9, c9⟩, ⟨Aj9, cj9⟩, rs9⟩ hq
  dsimp only at hq
  rcases a4 with ⟨b1, b2, b3, ⟨c1, k1, b4, _⟩, b5⟩ | ⟨b1, b2, b3, b4⟩
  · exact ⟨(⟨(stepM D J (rs.map Bs.s) o).1, A9, c9, (stepM D J (rs.map Bs.s) o).2.1, Aj9, cj9, rs9⟩, (stepM D J (rs.map Bs.s) o).2.2.2), ⟨_, hq, a2, by rw [b1, hl], a3, b3, b2, ⟨c1, k1, b4⟩, b5⟩, rfl, weak_refl _⟩
  · rw [hl] at b3; cases b3
end Go.Proofs.Ytkjlbedebmffgaa.Sx

set_option linter.unusedVariables false
set_option linter.unusedSimpArgs false
namespace Go.Proofs.Ytkjlbedebmffgaa.Sx
open Go.RowKit Go.Proofs.Ytkjlbedebmffgaa.Ty
attribute [local irreducible] blk own rd rx frameC
set_option maxHeartbeats 400000 in
set_option maxRecDepth 10000 in
theorem f9_spec : Spec Try.prog 9 [] [] [] (R := Unit) (fun _ => True) (fun _ => .bool true) (fun _ => []) := by
  refine Spec.intro Try.func9 Try.ntmps9 rfl (by simp) (by simp) fun w0 => ?_
  refine WC.seq ?_
  refine WC.region ?_
  refine wlv (op_assign (lt_ rfl) rfl) rfl ?_
  refine WL.nil ?_
  refine WX.regs (L' := []) ?_
  refine WX.next ?_
  refine WC.seq ?_
  refine WC.region ?_
  refine wlx (op_call (f11_spec 8 (by omega)) ca11 (lt_ rfl) rfl) rfl ?_
  rintro ⟨bd, bm⟩ _
  refine wlv (op_move (lt_ rfl) rfl) rfl ?_
  refine wlv (op_extract (lt_ rfl) rfl rfl) rfl ?_
  refine wlv (op_extract (lt_ rfl) rfl rfl) rfl ?_
  refine wlv (op_assign (lt_ rfl) rfl) rfl ?_
  refine wlv (op_assign (lt_ rfl) rfl) rfl ?_
  refine WL.nil ?_
  refine WX.regs (L' := [(1, _), (2, _)]) ?_
  refine WX.next ?_
  refine WC.seq ?_
  refine WC.seq ?_
  refine WC.region ?_
  refine wlv (op_move (lt_ rfl) rfl) rfl ?_
  refine wlv (op_neq (lt_ rfl) rfl rfl) rfl ?_
  refine wlv (op_move (lt_ rfl) rfl) rfl ?_
  refine wlgv (op_move (lt_ rfl) rfl) rfl rfl rfl ?_
  refine wlgx (op_call (f12_new bd bm none 0 (Dk.new 8) 0 8 (by omega) (by omega) (by decide) (by decide) rfl rfl (fun a _ _ => gof_zero) (by decide)) ca12 (lt_ rfl) rfl) rfl rfl rfl ?_
  rintro ⟨D1, A1, c1⟩ ⟨hn1, hl1, hp1, ho1, J0, hj1, hj2, hj3, hs1⟩
  refine wlgv (op_neq (lt_ rfl) rfl rfl) rfl rfl rfl ?_
  refine wlv (op_pickF (lt_ rfl) rfl rfl) rfl ?_
  refine WL.nil ?_
  refine WX.regs (L' := [(1, _), (22, _)]) ?_
  refine WX.next ?_
  refine WC.condF rfl ?_
  refine WC.skip ?_
  refine WX.next ?_
  refine WC.seq ?_
  refine WC.region ?_
  refine wlv (op_move (lt_ rfl) rfl) rfl ?_
  refine wlx (op_call (f14_live bd bm A1 c1 D1 J0 hs1 (by omega) (by rw [hp1]; decide) hl1 0 hj1) ca14 (lt_ rfl) rfl) rfl ?_
  rintro ⟨⟨D2, A2, c2, J2, Aj2, cj2, rs2⟩, bj, ⟨Ax, cx⟩, xs⟩ ⟨hr2, hx2, hn2, hl2, hp2, hf2, hfi2, hg2, ho2, hs2⟩
  dsimp only at hr2 hx2 hn2 hl2 hp2 hf2 hfi2 hg2 ho2 hs2 ⊢
  obtain rfl : xs = [] := List.map_eq_nil_iff.1 hx2
  have hse2 := hs2.geo.se
  have hu2 := hs2.used
  simp only [needs] at hu2
  refine wlv (op_move (lt_ rfl) rfl) rfl ?_
  refine wlv (op_extract (lt_ rfl) rfl rfl) rfl ?_
  refine wlv (op_extract (lt_ rfl) rfl rfl) rfl ?_
  refine wlv (op_extract (lt_ rfl) rfl rfl) rfl ?_
  refine wlv (op_assign (lt_ rfl) rfl) rfl ?_
  refine wlv (op_assign (lt_ rfl) rfl) rfl ?_
  refine wlv (op_assign (lt_ rfl) rfl) rfl ?_
  refine WL.nil ?_
  refine WX.regs (L' := [(3, _), (4, _), (5, _)]) ?_
  refine WX.next ?_
  refine WC.seq ?_
  refine WC.seq ?_
  refine WC.region ?_
  refine wlv (op_move (lt_ rfl) rfl) rfl ?_
  refine wlv (op_neq (lt_ rfl) rfl rfl) rfl ?_
  refine wlv (op_move (lt_ rfl) rfl) rfl ?_
  refine wlgv (op_move (lt_ rfl) rfl) rfl rfl rfl ?_
  refine wlgv (op_len Try.underlying33 (lt_ rfl) rfl) rfl rfl rfl ?_
  refine wlgv (op_neq (lt_ rfl) rfl rfl) rfl rfl rfl ?_
  refine wlv (op_pickF (lt_ rfl) rfl rfl) rfl ?_
  refine wlv (op_move (lt_ rfl) rfl) rfl ?_
  refine wlgv (op_move (lt_ rfl) rfl) rfl rfl rfl ?_
  refine wlgx (op_call (f31_spec bj bd J2 Aj2 rs2.length cj2) ca31 (lt_ rfl) rfl) rfl rfl rfl ?_
  rintro _ _
  rw [hg2, hj3]
  refine wlgv (op_neq (lt_ rfl) rfl rfl) rfl rfl rfl ?_
  refine wlv (op_pickF (lt_ rfl) rfl rfl) rfl ?_
  refine wlv (op_move (lt_ rfl) rfl) rfl ?_
  refine wlgv (op_move (lt_ rfl) rfl) rfl rfl rfl ?_
  refine wlgx (op_call (f26_spec bj bd J2 Aj2 rs2.length cj2 (by omega)) ca26 (lt_ rfl) rfl) rfl rfl rfl ?_
  rintro _ _
  rw [show J2.se / 2 - J2.used = 3 by omega]
  refine wlgv (op_neq (lt_ rfl) rfl rfl) rfl rfl rfl ?_
  refine wlv (op_pickF (lt_ rfl) rfl rfl) rfl ?_
  refine WL.nil ?_
  refine WX.regs (L' := [(3, _), (45, _)]) ?_
  refine WX.next ?_
  refine WC.condF rfl ?_
  refine WC.skip ?_
  refine WX.next ?_
  refine WC.seq ?_
  refine WC.region ?_
  refine wlv (op_move (lt_ rfl) rfl) rfl ?_
  refine wl1 (op_make (z1 := (.int .u8 0)) (sz := 1) (zero := []) Try.underlying23 ti5 (lt_ rfl) rfl rfl (by omega) (by omega) (by omega) (by omega)) rfl fun b1 => ?_
  rw [show ((200 : Int)).toNat = 200 from rfl]
  refine WL.blkEq (b := b1) (bvs (List.replicate 200 0)) xK (bvs_rep0 200) ?_
  refine WL.turn (c := blk b1 (bvs (List.replicate 200 0)) 5) (d := own (.slice (some ⟨b1, 0, none⟩) 200 200) 5 1 200 (bvs (List.replicate 200 0))) xK (own_le_blk (by rw [bvs_length, List.length_replicate]) (small_len (by omega))) ?_
  refine wlx (op_call (f27_live bd bm bj A2 c2 D2 J2 Aj2 cj2 rs2 hs2 hr2 (by omega) (by rw [hp2]; decide) hl2 (some ⟨b1, 0, none⟩) 200 200 (List.replicate 200 0) (List.length_replicate ..) (by omega) (by decide)) ca27 (lt_ rfl) rfl) rfl ?_
  rintro ⟨D3, A3, c3, J3, Aj3, cj3, rs3⟩ ⟨hr3, hn3, hl3, hp3, hf3, hfi3, hg3, ho3, hs3⟩
  dsimp only at hr3 hn3 hl3 hp3 hf3 hfi3 hg3 ho3 hs3 ⊢
  rw [hp2] at hp3
  simp only [List.length_nil] at hp3
  rw [hf2, hj2]
  refine wlv (op_move (lt_ rfl) rfl) rfl ?_
  refine wlv (op_extract (lt_ rfl) rfl rfl) rfl ?_
  refine wlv (op_extract (lt_ rfl) rfl rfl) rfl ?_
  refine wlv (op_assign (lt_ rfl) rfl) rfl ?_
  refine wlv (op_assign (lt_ rfl) rfl) rfl ?_
  refine WL.nil ?_
  refine WX.regs (L' := [(3, _), (6, _), (7, _)]) ?_
  refine WX.next ?_
  refine WC.seq ?_
  refine WC.region ?_
  refine wlv (op_move (lt_ rfl) rfl) rfl ?_
  refine wl1 (op_make (z1 := (.int .u8 0)) (sz := 1) (zero := []) Try.underlying23 ti5 (lt_ rfl) rfl rfl (by omega) (by omega) (by omega) (by omega)) rfl fun b2 => ?_
  rw [show ((300 : Int)).toNat = 300 from rfl]
  refine WL.blkEq (b := b2) (bvs (List.replicate 300 0)) xK (bvs_rep0 300) ?_
  refine WL.turn (c := blk b2 (bvs (List.replicate 300 0)) 5) (d := own (.slice (some ⟨b2, 0, none⟩) 300 300) 5 1 300 (bvs (List.replicate 300 0))) xK (own_le_blk (by rw [bvs_length, List.length_replicate]) (small_len (by omega))) ?_
  refine wlx (op_call (f27_live bd bm bj A3 c3 D3 J3 Aj3 cj3 rs3 hs3 hr3 (by omega) (by omega) hl3 (some ⟨b2, 0, none⟩) 300 300 (List.replicate 300 0) (List.length_replicate ..) (by omega) (by decide)) ca27 (lt_ rfl) rfl) rfl ?_
  rintro ⟨D4, A4, c4, J4, Aj4, cj4, rs4⟩ ⟨hr4, hn4, hl4, hp4, hf4, hfi4, hg4, ho4, hs4⟩
  dsimp only at hr4 hn4 hl4 hp4 hf4 hfi4 hg4 ho4 hs4 ⊢
  rw [hf3, hf2, hj2]
  refine wlv (op_move (lt_ rfl) rfl) rfl ?_
  refine wlv (op_extract (lt_ rfl) rfl rfl) rfl ?_
  refine wlv (op_extract (lt_ rfl) rfl rfl) rfl ?_
  refine wlv (op_assign (lt_ rfl) rfl) rfl ?_
  refine wlv (op_assign (lt_ rfl) rfl) rfl ?_
  refine WL.nil ?_
  refine WX.regs (L' := [(3, _), (6, _), (7, _), (8, _), (9, _)]) ?_
  refine WX.next ?_
  refine WC.seq ?_
  refine WC.region ?_
  refine WL.nilrd 1 ?_
  refine wlv (op_move (lt_ rfl) rfl) rfl ?_
  refine wlx (op_call (f27_full bd bm bj A4 c4 D4 J4 Aj4 cj4 rs4 hs4 hr4 (by omega) (by omega) none 0 0 [] rfl (by omega) (by decide)) ca27 (lt_ rfl) rfl) rfl ?_
  rintro ⟨D5, A5, c5, J5, Aj5, cj5, rs5⟩ ⟨hr5, hD5, hJ5⟩
  dsimp only at hr5 hD5 hJ5 ⊢
  subst hD5
  subst hJ5
  refine wlv (op_move (lt_ rfl) rfl) rfl ?_
  refine wlv (op_extract (lt_ rfl) rfl rfl) rfl ?_
  refine wlv (op_extract (lt_ rfl) rfl rfl) rfl ?_
  refine wlv (op_assign (lt_ rfl) rfl) rfl ?_
  refine wlv (op_assign (lt_ rfl) rfl) rfl ?_
  refine WL.nil ?_
  refine WX.regs (L' := [(3, _), (6, _), (7, _), (8, _), (9, _), (11, _)]) ?_
  refine WX.next ?_
  refine WC.seq ?_
  refine WC.region ?_
  refine wlv (op_move (lt_ rfl) rfl) rfl ?_
  refine wlv (op_eql (lt_ rfl) rfl rfl) rfl ?_
  refine wlv (op_move (lt_ rfl) rfl) rfl ?_
  refine wlgv (op_move (lt_ rfl) rfl) rfl rfl rfl ?_
  refine wlgv (op_eql (lt_ rfl) rfl rfl) rfl rfl rfl ?_
  refine wlv (op_pickT (lt_ rfl) rfl rfl) rfl ?_
  refine wlv (op_move (lt_ rfl) rfl) rfl ?_
  refine wlgv (op_move (lt_ rfl) rfl) rfl rfl rfl ?_
  refine wlgv (op_eql (lt_ rfl) rfl rfl) rfl rfl rfl ?_
  refine wlv (op_pickT (lt_ rfl) rfl rfl) rfl ?_
  refine wlv (op_move (lt_ rfl) rfl) rfl ?_
  refine wlgv (op_move (lt_ rfl) rfl) rfl rfl rfl ?_
  refine wlgv (op_eql (lt_ rfl) rfl rfl) rfl rfl rfl ?_
  refine wlv (op_pickT (lt_ rfl) rfl rfl) rfl ?_
  refine wlv (op_move (lt_ rfl) rfl) rfl ?_
  refine wlgv (op_move (lt_ rfl) rfl) rfl rfl rfl ?_
  refine wlgv (op_eql (lt_ rfl) rfl rfl) rfl rfl rfl ?_
  refine wlv (op_pickT (lt_ rfl) rfl rfl) rfl ?_
  refine wlv (op_move (lt_ rfl) rfl) rfl ?_
  refine wlgv (op_move (lt_ rfl) rfl) rfl rfl rfl ?_
  refine wlgx (op_call (f28_live bd bm bj A5 c5 D5 J5 Aj5 cj5 rs5 hs4 hr5 (by omega) (by omega) hl4 1 (by decide) 1 (by omega)) ca28 (lt_ rfl) rfl) rfl rfl rfl ?_
  rintro ⟨D6, A6, c6, J6, Aj6, cj6, rs6⟩ ⟨hr6, hn6, hl6, hp6, hf6, hfi6, hg6, ho6, k6, k7, hs6⟩
  dsimp only at hr6 hn6 hl6 hp6 hf6 hfi6 hg6 ho6 hs6 ⊢
  have hse6 := hs6.geo.se
  have hu6 := hs6.used
  have hnd : needs (([] ++ [List.replicate 200 (0 : UInt8)] ++ [List.replicate 300 0]).drop 1) = 2 := by decide
  rw [hnd] at hu6
  rw [if_neg (by decide)] at hg6
  refine wlgv (op_eql (lt_ rfl) rfl rfl) rfl rfl rfl ?_
  refine wlv (op_pickT (lt_ rfl) rfl rfl) rfl ?_
  refine wlv (op_move (lt_ rfl) rfl) rfl ?_
  refine wlgv (op_move (lt_ rfl) rfl) rfl rfl rfl ?_
  refine wlgx (op_call (f18_spec bj bd J6 Aj6 rs6.length cj6) ca18 (lt_ rfl) rfl) rfl rfl rfl ?_
  rintro _ _
  rw [hf6]
  refine wlgv (op_eql (lt_ rfl) rfl rfl) rfl rfl rfl ?_
  refine wlv (op_pickT (lt_ rfl) rfl rfl) rfl ?_
  refine wlv (op_move (lt_ rfl) rfl) rfl ?_
  refine wlgv (op_move (lt_ rfl) rfl) rfl rfl rfl ?_
  refine wlgx (op_call (f31_spec bj bd J6 Aj6 rs6.length cj6) ca31 (lt_ rfl) rfl) rfl rfl rfl ?_
  rintro _ _
  rw [hg6, hg4, hg3, hg2, hj3]
  refine wlgv (op_eql (lt_ rfl) rfl rfl) rfl rfl rfl ?_
  refine wlv (op_pickT (lt_ rfl) rfl rfl) rfl ?_
  refine wlv (op_move (lt_ rfl) rfl) rfl ?_
  refine wlgv (op_move (lt_ rfl) rfl) rfl rfl rfl ?_
  refine wlgx (op_call (f26_spec bj bd J6 Aj6 rs6.length cj6 (by omega)) ca26 (lt_ rfl) rfl) rfl rfl rfl ?_
  rintro _ _
  rw [show J6.se / 2 - J6.used = 1 by omega]
  refine wlgv (op_eql (lt_ rfl) rfl rfl) rfl rfl rfl ?_
  refine wlv (op_pickT (lt_ rfl) rfl rfl) rfl ?_
  refine wlv (op_assign (lt_ rfl) rfl) rfl ?_
  refine WL.nil ?_
  refine WX.regs (L' := [(0, _)]) ?_
  refine WX.next ?_
  refine WC.ret ?_
  exact Fin.ret1 xI (()) (trivial) Try.results9 (.tmp rfl) xT (by simp)
end Go.Proofs.Ytkjlbedebmffgaa.Sx

/- Laws: what an argument's reading gives, and the row's last step where the old memory is as it was. -/
set_option linter.unusedVariables false
set_option linter.unusedSimpArgs false
namespace Go.Proofs.Ytkjlbedebmffgaa.Sx
open Go.ChangeShapes Go.WideShapes Go.ChangeAt Go.RowKit
section
variable {H : Type} {enc : TypeId × Value → H} {P : Program}
theorem args_stay (hl : laidOutB P = true) {W W' : World} (hb : Below W.heap.size W W') : ∀ {ts : List TypeId} {vs : List Value} {ds : List (DataW H)} {ps : List MemPlace}, (∀ t ∈ ts, P.readableRec t = true ∧ t < P.types.size) →
    DataW.TrodAll enc P W 0 (fun _ => true) true ts vs ds ps → (∀ x ∈ ps, x.block < W.heap.size) → DataW.TrodAll enc P W' 0 (fun b => decide (b < W.heap.size)) true ts vs ds ps := by
  intro ts
  induction ts with
  | nil =>
    intro vs ds ps _ h _
    obtain ⟨rfl, rfl, rfl⟩ := trodAll_nil h
    exact trodAll_mk0
  | cons t ts ih =>
    intro vs ds ps ht h hlt
    obtain ⟨v, vs', d, ds', p, q, rfl, rfl, rfl, h1, h2⟩ := trodAll_cons h
    have ht1 := ht t (List.mem_cons_self ..)
    exact trodAll_cons_mk (Below.trod hl ht1.1 ht1.2 h1 hb fun x hx => hlt x (List.mem_append_left _ hx)) (ih (fun t' ht' => ht t' (List.mem_cons_of_mem _ ht')) h2 fun x hx => hlt x (List.mem_append_right _ hx))
/-- The row's end: the law answered true, and nothing old has changed. -/
theorem law_post {f : Func} {s : ChangeSpec} {W W' : World} {args : Array Value} {tb : TypeId} {ds gs : List (DataW H)} {before : List MemPlace} (hl : laidOutB P = true)
    (hW : DataW.Whole enc P f.params.toList s.vars false W args.toList ds gs before) (hv : s.vars = []) (hr : f.resultTypes = #[tb]) (hb : P.underlying tb = some .bool)
    (hp : ∀ t ∈ f.params.toList, P.readableRec t = true ∧ t < P.types.size) (hs : s.fn H ds = { results := [.lit (.bool true)], args := ds }) (hc : Chg (fun _ => False) W W') :
    s.post enc P f false true false false W args (.bool true) W' := by
  have hlt := hW.lt
  have hW' := hW
  obtain ⟨p, q, hA, hV, hps, hfz, hnd⟩ := hW
  rw [hv] at hV
  obtain ⟨rfl, rfl⟩ := trodVars_none hV
  subst hps
  have hB := hc.below
  refine ⟨ds, [], p ++ [], [], p, [], hW', ?_, ?_, ?_, ?_, fun h => by cases h⟩
  · rw [List.append_nil, hs, hr]
    exact trodAll_cons_mk (shut_bool hb _) trodAll_mk0
  · rw [List.append_nil, hs]
    exact args_stay hl hB hp hA fun x hx => hlt x (List.mem_append_left _ hx)
  · rw [List.append_nil, hs, hv]
    exact rfl
  · exact World.keptBut_mono (fun x hx => ⟨hx, by rw [List.append_nil] at hx; exact .inr (.inl hx)⟩) (hB.frame (· ∈ p ++ []))
/-- A whole number among the cells. -/
theorem trod_num {w : World} {base : Nat} {sp : Nat → Bool} {hd : Bool} {fuel : Nat} {t : TypeId} {k : IntKind} {v : Value} {x : DataW H × List MemPlace} (ht : P.underlying t = some (.int k)) (h : DataW.trod enc P w base sp hd fuel t [v] = some x) :
    ∃ a, v = .int k a ∧ (Lit.int k a).wf = true := by
  obtain ⟨a, h1, _, h3⟩ := DataW.trod_int ht h
  simp only [List.cons.injEq, and_true] at h1
  exact ⟨a, h1, h3⟩
theorem trod_byte {w : World} {base : Nat} {sp : Nat → Bool} {hd : Bool} {fuel : Nat} {t : TypeId} {v : Value} {x : DataW H × List MemPlace} (ht : P.underlying t = some (.int .u8)) (h : DataW.trod enc P w base sp hd fuel t [v] = some x) :
    ∃ a : UInt8, v = bv a := by
  obtain ⟨a, rfl, hw⟩ := trod_num ht h
  have hx : 0 ≤ a ∧ a ≤ 255 := by simpa [Lit.wf, IntKind.min, IntKind.max, IntKind.signed, IntKind.bits] using hw
  refine ⟨UInt8.ofNat a.toNat, ?_⟩
  have e : ((UInt8.ofNat a.toNat).toNat : Int) = a := by
    have : (UInt8.ofNat a.toNat).toNat = a.toNat % 256 := by simp
    omega
  show Value.int .u8 a = .int .u8 _
  rw [e]
/-- A slice of bytes among the cells: a reading chunk. -/
theorem trod_bytes {w : World} {hd : Bool} {fuel : Nat} {t e : TypeId} {v : Value} {x : DataW H × List MemPlace} (ht : P.underlying t = some (.slice e)) (he : P.underlying e = some (.int .u8)) (hc : P.cellsOf e = 1)
    (h : DataW.trod enc P w 0 (fun _ => true) hd fuel t [v] = some x) : ∃ r : Bs, v = r.v ∧ r.ch.ok w := by
  rcases Deep.open_slice1 ht hc h with ⟨h1, _⟩ | ⟨a, len, cap, m, n, V, D, Pl, h1, _, hl, hm, hmm, _, hV⟩
  · simp only [List.cons.injEq, and_true] at h1
    exact ⟨⟨none, 0, []⟩, h1, by simp, by simp [maxLen], none, 0, rfl, Nat.le_refl _, fun hp => absurd hp (by simp)⟩
  · simp only [List.cons.injEq, and_true] at h1
    simp only [if_true] at hmm
    have hB : ∀ i, i < len → ∃ y : UInt8, w.cell? (a.add i) = some (bv y) := fun i hi => by
      obtain ⟨g1, g2⟩ := hV i (by omega)
      obtain ⟨y, hy⟩ := trod_byte he g2
      exact ⟨y, hy ▸ g1⟩
    obtain ⟨y, hy⟩ : ∃ y : Nat → UInt8, ∀ i, i < len → w.cell? (a.add i) = some (bv (y i)) := by
      refine ⟨fun i => if hi : i < len then (hB i hi).choose else 0, fun i hi => ?_⟩
      have := (hB i hi).choose_spec
      simpa [hi] using this
    refine ⟨⟨some a, cap, (List.range len).map y⟩, ?_, ?_⟩
    · rw [h1]; simp [Bs.v]
    · refine ⟨by simp, by simp; omega, some a, cap, by simp [Bs.v], by simp; omega, fun hp => ?_⟩
      have hp' : 0 < len := by simpa using hp
      have hs := World.cell?_spot (hy 0 hp')
      obtain ⟨ab, ao, zs⟩ := a
      have hs' : zs = none := by simpa [Addr.add] using hs
      subst hs'
      refine ⟨ab, ao, rfl, fun j u hu => ?_⟩
      have hj : j < len := by
        have := (List.getElem?_eq_some_iff.1 hu).1
        simpa using this
      have := hy j hj
      rw [add_at] at this
      rw [this]
      simpa [hj] using hu
/-- A struct's fields, each with its cells. -/
theorem trod_fields {r : Reach} {b0 : Nat} {w : World} {base : Nat} {sp : Nat → Bool} {hd : Bool} {t : TypeId} {fs : Array Field} {v : Value} {d : DataW H} {p : List MemPlace} (ht : P.underlying t = some (.struct fs)) (hv : Value.okWide P w r b0 t v)
    (h : DataW.Trod enc P w base sp hd t v d p) : ∃ cs : List Value, v = .agg cs.toArray ∧ cs.length = P.cellsOf t ∧ ∃ n, ∀ (i : Nat) (f : Field), fs[i]? = some f → ∃ x, DataW.trod enc P w base sp hd n f.type ((cs.drop f.offset).take (P.cellsOf f.type)) = some x := by
  obtain ⟨cs, rfl, hsz⟩ := okWide_struct ht hv
  obtain ⟨fuel, hf⟩ := h
  obtain ⟨xs, n, _, _, _, hlen, hg⟩ := DataW.trod_struct ht hf
  refine ⟨cs.toList, by simp, by simpa using hsz, n, fun i f hi => ?_⟩
  have hi' : i < xs.length := by
    rw [hlen]
    exact (Array.getElem?_eq_some_iff.1 hi).1
  exact ⟨xs[i], (hg i f hi).trans (List.getElem?_eq_getElem hi')⟩
end
end Go.Proofs.Ytkjlbedebmffgaa.Sx

/- Laws: numbers as arguments; chunks that are only read. -/
set_option linter.unusedVariables false
set_option linter.unusedSimpArgs false
namespace Go.Proofs.Ytkjlbedebmffgaa.Sx
open Go.ChangeShapes Go.WideShapes Go.ChangeAt Go.RowKit
/-- Chunks that are only read. -/
structure RO (w : World) (H : List Ch) : Prop where
  ok : ∀ c ∈ H, c.ok w
  ro : ∀ c ∈ H, c.ex = false
theorem RO.nil {w : World} : RO w [] := ⟨fun c h => (by cases h), fun c h => (by cases h)⟩
theorem RO.cons {w : World} {c : Ch} {H : List Ch} (h : c.ok w) (e : c.ex = false) (k : RO w H) : RO w (c :: H) :=
  ⟨fun d hd => by rcases List.mem_cons.1 hd with rfl | hd; exact h; exact k.ok d hd, fun d hd => by rcases List.mem_cons.1 hd with rfl | hd; exact e; exact k.ro d hd⟩
theorem RO.sat {w : World} {H : List Ch} (h : RO w H) : Sat w ([] ++ H) :=
  ⟨h.ok, List.Pairwise.imp_of_mem (R := fun _ _ => True) (fun ha hb _ hm => by rw [h.ro _ ha, h.ro _ hb] at hm; simp at hm) (List.pairwise_of_forall (fun _ _ => trivial))⟩
section
variable {H : Type} {enc : TypeId × Value → H}
theorem u8_open {P : Program} {r : Reach} {b0 t base : Nat} {sp : Nat → Bool} {hd : Bool} {w : World} {v : Value} {d : DataW H} {p : List MemPlace} (ht : P.underlying t = some (.int .u8)) (hv : Value.okWide P w r b0 t v) (h : DataW.Trod enc P w base sp hd t v d p) :
    ∃ a : UInt8, v = bv a := by
  obtain ⟨a, rfl, _, _, hw⟩ := open_int ht hv h
  have hx : 0 ≤ a ∧ a ≤ 255 := by simpa [Lit.wf, IntKind.min, IntKind.max, IntKind.signed, IntKind.bits] using hw
  refine ⟨UInt8.ofNat a.toNat, ?_⟩
  have e : ((UInt8.ofNat a.toNat).toNat : Int) = a := by
    have : (UInt8.ofNat a.toNat).toNat = a.toNat % 256 := by simp
    omega
  show Value.int .u8 a = .int .u8 _
  rw [e]
theorem i64_open {P : Program} {r : Reach} {b0 t base : Nat} {sp : Nat → Bool} {hd : Bool} {w : World} {v : Value} {d : DataW H} {p : List MemPlace} (ht : P.underlying t = some (.int .i64)) (hv : Value.okWide P w r b0 t v) (h : DataW.Trod enc P w base sp hd t v d p) :
    ∃ a : Int, v = .int .i64 a ∧ -9223372036854775808 ≤ a ∧ a < 9223372036854775808 := by
  obtain ⟨a, rfl, _, _, hw⟩ := open_int ht hv h
  have hx : -9223372036854775808 ≤ a ∧ a ≤ 9223372036854775807 := by simpa [Lit.wf, IntKind.min, IntKind.max, IntKind.signed, IntKind.bits] using hw
  exact ⟨a, rfl, hx.1, by omega⟩
theorem u16_open {P : Program} {r : Reach} {b0 t base : Nat} {sp : Nat → Bool} {hd : Bool} {w : World} {v : Value} {d : DataW H} {p : List MemPlace} (ht : P.underlying t = some (.int .u16)) (hv : Value.okWide P w r b0 t v) (h : DataW.Trod enc P w base sp hd t v d p) :
    ∃ a : Nat, v = .int .u16 (a : Int) ∧ a < 65536 := by
  obtain ⟨a, rfl, _, _, hw⟩ := open_int ht hv h
  have hx : 0 ≤ a ∧ a ≤ 65535 := by simpa [Lit.wf, IntKind.min, IntKind.max, IntKind.signed, IntKind.bits] using hw
  exact ⟨a.toNat, by rw [Int.toNat_of_nonneg hx.1], by omega⟩
end
end Go.Proofs.Ytkjlbedebmffgaa.Sx

/- Laws: lists of operations as arguments. -/
set_option linter.unusedVariables false
set_option linter.unusedSimpArgs false
namespace Go.Proofs.Ytkjlbedebmffgaa.Sx
open Go.ChangeShapes Go.WideShapes Go.ChangeAt Go.RowKit
section
variable {H : Type} {enc : TypeId × Value → H}
theorem trod_at1 {P : Program} {w : World} {base : Nat} {sp : Nat → Bool} {hd : Bool} {n t o : Nat} {f : Field} {cs : List Value} {v : Value} (h : ∃ x, DataW.trod enc P w base sp hd n f.type ((cs.drop f.offset).take (P.cellsOf f.type)) = some x) (ht : f.type = t) (hc : P.cellsOf t = 1) (ho : f.offset = o) (hv : cs[o]? = some v) :
    ∃ x, DataW.trod enc P w base sp hd n t [v] = some x := by
  subst ht
  subst ho
  rw [hc] at h
  have hlt := (List.getElem?_eq_some_iff.1 hv).1
  have e : (cs.drop f.offset).take 1 = [v] := by
    rw [List.drop_eq_getElem_cons hlt, List.take_succ_cons, List.take_zero, (List.getElem?_eq_some_iff.1 hv).2]
  rw [e] at h
  exact h
section
variable {P : Program}
/-- One cell of a struct's cells. -/
theorem struct_at1 {w : World} {base : Nat} {sp : Nat → Bool} {hd : Bool} {n t o i : Nat} {fs : Array Field} {cs : List Value} {xs : List (DataW H × List MemPlace)} {v : Value} {f : Field} (hg : ∀ (i : Nat) (f : Field), fs[i]? = some f → DataW.trod enc P w base sp hd n f.type ((cs.drop f.offset).take (P.cellsOf f.type)) = xs[i]?) (hl : xs.length = fs.size)
    (hf : fs[i]? = some f) (ht : f.type = t) (hc : P.cellsOf t = 1) (ho : f.offset = o) (hv : cs[o]? = some v) : ∃ x, DataW.trod enc P w base sp hd n t [v] = some x ∧ xs[i]? = some x := by
  have hi : i < xs.length := by rw [hl]; exact (Array.getElem?_eq_some_iff.1 hf).1
  have h := (hg i f hf).trans (List.getElem?_eq_getElem hi)
  obtain ⟨x, hx⟩ := trod_at1 ⟨_, h⟩ ht hc ho hv
  refine ⟨xs[i], ?_, List.getElem?_eq_getElem hi⟩
  subst ht
  subst ho
  rw [hc] at h
  have hlt := (List.getElem?_eq_some_iff.1 hv).1
  have e : (cs.drop f.offset).take 1 = [v] := by
    rw [List.drop_eq_getElem_cons hlt, List.take_succ_cons, List.take_zero, (List.getElem?_eq_some_iff.1 hv).2]
  rwa [e] at h
theorem slice_cells {w : World} {r : Reach} {b0 t e : Nat} {v : Value} (ht : P.underlying t = some (.slice e)) (hv : Value.okWide P w r b0 t v) : v.cells.toList = [v] := by
  cases v <;> simp [Value.okWide, Cell.okWide, Cell.ok, ht] at hv <;> rfl
end
set_option maxRecDepth 100000 in
theorem trod_op {w : World} {hd : Bool} {n : Nat} {cs : List Value} {x : DataW H × List MemPlace} (h : DataW.trod enc Try.prog w 0 (fun _ => true) hd n 42 cs = some x) : ∃ o : OpR, cs = o.cells ∧ o.n < 65536 := by
  obtain ⟨xs, m, _, _, hl, hlen, hg⟩ := DataW.trod_struct Try.underlying42 h
  have e5 : Try.prog.cellsOf 5 = 1 := by kernel_rfl
  have e40 : Try.prog.cellsOf 40 = 1 := by kernel_rfl
  have e23 : Try.prog.cellsOf 23 = 1 := by kernel_rfl
  rw [show Try.prog.cellsOf 42 = 4 by kernel_rfl] at hl
  match cs, hl with
  | [v0, v1, v2, v3], _ =>
    obtain ⟨_, h0, _⟩ := struct_at1 hg hlen (i := 0) rfl rfl e5 rfl rfl
    obtain ⟨_, h1, _⟩ := struct_at1 hg hlen (i := 1) rfl rfl e40 rfl rfl
    obtain ⟨_, h2, _⟩ := struct_at1 hg hlen (i := 2) rfl rfl e5 rfl rfl
    obtain ⟨_, h3, _⟩ := struct_at1 hg hlen (i := 3) rfl rfl e23 rfl rfl
    obtain ⟨kd, rfl⟩ := trod_byte Try.underlying5 h0
    obtain ⟨a, rfl, hw⟩ := trod_num Try.underlying40 h1
    obtain ⟨b, rfl⟩ := trod_byte Try.underlying5 h2
    obtain ⟨r, rfl, hr⟩ := trod_bytes Try.underlying23 Try.underlying5 (by kernel_rfl) h3
    have hx : 0 ≤ a ∧ a ≤ 65535 := by simpa [Lit.wf, IntKind.min, IntKind.max, IntKind.signed, IntKind.bits] using hw
    exact ⟨⟨kd, a.toNat, b, r⟩, by simp only [OpR.cells, Int.toNat_of_nonneg hx.1], by simp only []; omega⟩
set_option maxRecDepth 100000 in
/-- A list of operations. -/
theorem ops_open {w : World} {r : Reach} {b0 : Nat} {v : Value} {d : DataW H} {p : List MemPlace} (hv : Value.okWide Try.prog w r b0 22 v) (h : DataW.Trod enc Try.prog w 0 (fun _ => true) true 22 v d p) :
    ∃ (A : Option Addr) (M c : Nat) (l : List OpR), v = .slice A M c ∧ l.length = M ∧ (rd (.slice A M c) 4 M (l.flatMap OpR.cells)).ok w ∧ ∀ o ∈ l, o.n < 65536 := by
  obtain ⟨fuel, hf⟩ := h
  rw [slice_cells Try.underlying22 hv] at hf
  have e42 : Try.prog.cellsOf 42 = 4 := by kernel_rfl
  rcases Deep.open_slice Try.underlying22 hf with ⟨h1, _⟩ | ⟨a, len, cap, m, n, D, Pl, h1, _, hl, hm, hmm, hx, hV⟩
  · simp only [List.cons.injEq, and_true] at h1
    subst h1
    exact ⟨none, 0, 0, [], rfl, rfl, ⟨rfl, by simp [maxLen], none, 0, rfl, Nat.le_refl _, fun hp => absurd hp (by simp)⟩, (by intro x hx; cases hx)⟩
  · simp only [List.cons.injEq, and_true] at h1
    subst h1
    simp only [if_true] at hmm
    have hB : ∀ i, i < len → ∃ o : OpR, w.cells? 0 (a.add (i * 4)) 4 = some o.cells ∧ o.n < 65536 := fun i hi => by
      obtain ⟨cs, g1, g2⟩ := hV i (by omega)
      rw [e42] at g1
      obtain ⟨o, rfl, ho⟩ := trod_op g2
      exact ⟨o, g1, ho⟩
    obtain ⟨y, hy⟩ : ∃ y : Nat → OpR, ∀ i, i < len → w.cells? 0 (a.add (i * 4)) 4 = some (y i).cells ∧ (y i).n < 65536 := by
      refine ⟨fun i => if hi : i < len then (hB i hi).choose else ⟨0, 0, 0, ⟨none, 0, []⟩⟩, fun i hi => ?_⟩
      have := (hB i hi).choose_spec
      simpa [hi] using this
    have hfl := flat_len (f := OpR.cells) (sz := 4) (fun _ => rfl) ((List.range len).map y)
    refine ⟨some a, len, cap, (List.range len).map y, rfl, by simp, ⟨by rw [hfl]; simp, by omega, some a, cap, rfl, hl, fun hp => ?_⟩, fun s hs => ?_⟩
    · have hp' : 0 < len := by rw [hfl] at hp; simp at hp; omega
      have hc0 := (World.cells?_some (hy 0 hp').1).2.2 0 (by decide)
      have hs0 : (y 0).cells[0]? = some (bv (y 0).k) := rfl
      rw [hs0] at hc0
      have hs := World.cell?_spot hc0
      obtain ⟨ab, ao, asp⟩ := a
      have hs' : asp = none := by simpa [Addr.add] using hs
      subst hs'
      refine ⟨ab, ao, rfl, fun j u hu => ?_⟩
      have hj : j < len * 4 := by
        have := (List.getElem?_eq_some_iff.1 hu).1
        rw [hfl] at this
        simpa using this
      have hi : j / 4 < len := by omega
      have hfa := flat_at (f := OpR.cells) (sz := 4) (fun _ => rfl) ((List.range len).map y) (j / 4) (y (j / 4)) (by simp [hi])
      have hc := (World.cells?_some (hy (j / 4) hi).1).2.2 (j % 4) (by omega)
      rw [add_at, add_at, ← hfa, List.getElem?_take, if_pos (by omega), List.getElem?_drop] at hc
      have e1 : j / 4 * 4 + j % 4 = j := by omega
      rw [e1, Nat.add_assoc, e1] at hc
      exact hc.trans hu
    · obtain ⟨i, hi, rfl⟩ := List.mem_map.1 hs
      exact (hy i (List.mem_range.1 hi)).2
end
end Go.Proofs.Ytkjlbedebmffgaa.Sx

/- Laws: a list of bytes as an argument. -/
set_option linter.unusedVariables false
set_option linter.unusedSimpArgs false
namespace Go.Proofs.Ytkjlbedebmffgaa.Sx
open Go.ChangeShapes Go.WideShapes Go.ChangeAt Go.RowKit
section
variable {H : Type} {enc : TypeId × Value → H}
set_option maxRecDepth 100000 in
/-- A list of bytes. -/
theorem bytes_open {w : World} {r : Reach} {b0 : Nat} {v : Value} {d : DataW H} {p : List MemPlace} (hv : Value.okWide Try.prog w r b0 23 v) (h : DataW.Trod enc Try.prog w 0 (fun _ => true) true 23 v d p) :
    ∃ (A : Option Addr) (M c : Nat) (s : List UInt8), v = .slice A M c ∧ s.length = M ∧ (rd (.slice A M c) 1 M (bvs s)).ok w := by
  obtain ⟨fuel, hf⟩ := h
  rw [slice_cells Try.underlying23 hv] at hf
  obtain ⟨r, rfl, hr⟩ := trod_bytes Try.underlying23 Try.underlying5 (by kernel_rfl) hf
  exact ⟨r.A, r.s.length, r.c, r.s, rfl, rfl, hr⟩
end
end Go.Proofs.Ytkjlbedebmffgaa.Sx

