import Derived.Test.YtkjlbedebmffgaaGreatNg
set_option linter.unusedVariables false
set_option linter.unusedSimpArgs false
namespace Go.Proofs.YtkjlbedebmffgaaGreat.Sx
open Go.RowKit
set_option maxRecDepth 100000 in
theorem zf73 : (Tryz.prog.info? 73).map (·.zero) = some (some Sct.z.v) := by kernel_rfl
theorem blk_whole_rx {b m : Nat} {e : TypeId} {cs : List Value} (hl : cs.length = m) (hm : m ≤ maxLen) : (rx (.slice (some ⟨b, 0, none⟩) m m) 1 m cs).Le (blk b cs e) :=
 ⟨fun _ => rfl, (blk_whole_rd hl hm).foot, (blk_whole_rd hl hm).ok⟩
section
variable {P : Program} {Q : Exit → Act → World → Prop} {n : Fr} {L : List (Nat × Value)} {H : List Ch}
theorem WX.nilrx {e : Exit} (sz : Nat) (h : WX Q e n L (rx (.slice none 0 0) sz 0 [] :: H)) : WX Q e n L H := fun a w hs =>
 h a w ⟨hs.regs, hs.sat.free ⟨by simp, by simp [maxLen], none, 0, rfl, Nat.le_refl _, fun hp => absurd hp (by simp)⟩ (fun b hb => absurd hb.1 (by simp))⟩
end
theorem fill_put (post : List Value) (off : Nat) : ∀ (vs zs pre : List Value) (k : Nat), vs.length = zs.length → off + k = pre.length →
  (vs.zipIdx k).foldl (fun (cs : Array Value) p => cs.setIfInBounds (off + p.2) p.1) (pre ++ (zs ++ post)).toArray = (pre ++ (vs ++ post)).toArray := by
 intro vs
 induction vs with
 | nil =>
  intro zs pre k hl _
  have : zs = [] := List.eq_nil_of_length_eq_zero (by simpa using hl.symm)
  subst this
  rfl
 | cons v vs ih =>
  intro zs pre k hl hk
  obtain ⟨z, zs', rfl⟩ : ∃ z zs', zs = z :: zs' := by cases zs with | nil => simp at hl | cons z zs' => exact ⟨z, zs', rfl⟩
  have h2 := ih zs' (pre ++ [v]) (k + 1) (by simpa using hl) (by simp; omega)
  simp only [List.zipIdx_cons, List.foldl_cons]
  have e1 : (pre ++ (z :: zs' ++ post)).toArray.setIfInBounds (off + k) v = (pre ++ [v] ++ (zs' ++ post)).toArray := by
   apply Array.ext'
   rw [hk]
   simp [List.set_append]
  rw [e1, h2]
  simp
theorem fill_cons {place : Nat → Option (Nat × Nat)} {cells : List Value} {i off size : Nat} {v : Value} {rest : List (Nat × Value)} (hp : place i = some (off, size)) (hl : v.cells.toList.length = size) (hb : off + size ≤ cells.length) :
  Instr.fill place cells.toArray ((i, v) :: rest) = Instr.fill place (pset cells off v.cells.toList).toArray rest := by
 have hl' : v.cells.size = size := by simpa using hl
 have h1 : ¬ (v.cells.size ≠ size ∨ off + v.cells.size > cells.toArray.size) := by simp [hl']; omega
 have hc : cells = cells.take off ++ ((cells.drop off).take size ++ cells.drop (off + size)) := by
  rw [← List.drop_drop, List.take_append_drop, List.take_append_drop]
 have h2 := fill_put (cells.drop (off + size)) off v.cells.toList ((cells.drop off).take size) (cells.take off) 0 (by simp [hl']; omega) (by simp; omega)
 rw [← hc] at h2
 conv => lhs; unfold Instr.fill
 rw [hp]
 dsimp only
 rw [if_neg (by simpa using h1)]
 congr 1
 have e3 : pset cells off v.cells.toList = cells.take off ++ (v.cells.toList ++ cells.drop (off + size)) := by simp [pset, hl']
 rw [e3, ← h2, ← Array.foldl_toList]
 simp
def bplaces (P : Program) (t : TypeId) : Option (List Value × List (Nat × Nat)) :=
 match P.info? t, P.underlying t with
 | some it, some (.struct fields) =>
  match it.zero, fields.toList.mapM (fun f => (P.info? f.type).map fun i => (f.offset, i.size)) with
  | some z, some pl => some (z.cells.toList, pl)
  | _, _ => none
 | _, _ => none
theorem built_eq {P : Program} {t : TypeId} {zs : List Value} {pl : List (Nat × Nat)} {parts : List (Nat × Value)} (h : bplaces P t = some (zs, pl)) : P.built t parts = Instr.fill (pl.toArray[·]?) zs.toArray parts := by
 unfold bplaces at h
 unfold Program.built
 split at h
 ·rename_i it fs h1 h2
  split at h
  ·rename_i z pl' h3 h4
   cases h
   simp only [h1, h2, h3, h4]
  ·cases h
 ·cases h
set_option maxRecDepth 100000 in
theorem bp84 : bplaces Tryz.prog 80 = some (.int .i64 0 :: bvs Sct.z.s, [(0, 1), (1, 256)]) := by kernel_rfl
theorem built84 (i : Int) (x : Sct) : Tryz.prog.built 80 [(0, .int .i64 i), (1, .agg (bvs x.s).toArray)] = some (wcs (i, x)).toArray := by
 have hz : (bvs Sct.z.s).length = 256 := by rw [bvs_length, Sct.z.h]
 have hx : (bvs x.s).length = 256 := by rw [bvs_length, x.h]
 rw [built_eq bp84, fill_cons (off := 0) (size := 1) rfl rfl (by simp), fill_cons (off := 1) (size := 256) (v := .agg (bvs x.s).toArray) rfl hx (by simp [pset, Value.cells, hz])]
 have e1 : pset (.int .i64 0 :: bvs Sct.z.s) 0 (Value.cells (.int .i64 i)).toList = .int .i64 i :: bvs Sct.z.s := rfl
 have e2 : pset (.int .i64 i :: bvs Sct.z.s) 1 (Value.cells (.agg (bvs x.s).toArray)).toList = wcs (i, x) := by
  show pset _ 1 (bvs x.s) = _
  simp [pset, wcs, hx, List.drop_eq_nil_of_le, hz]
 rw [e1, e2]
 rfl
section
variable {P : Program} {Q : Exit → Act → World → Prop} {n : Fr} {L L' : List (Nat × Value)} {H H' F : List Ch} {d : Nat} {ty : TypeId} {pos : String} {af : Array Edge} {g : Option (Nat × Bool)} {x y z : Operand} {v u : Value} {t e yt : TypeId}
theorem op_neqnil {a0 : Addr} (hu : P.underlying t = some (.pointer e)) (hn : d < n.n) (hx : evr L x = some (.pointer (some a0))) (hy : evr L y = some (.pointer none)) :
  Val P ⟨some d, .binOp .neq t x y yt, ty, pos, af, g⟩ n L H d (.bool true) :=
 binop_val hn hx hy (fun _ _ => rfl) fun w => by
  have h : ∀ k, (Op.equalIn (k + 1) t (.pointer (some a0)) (.pointer none)).run P w = .ok false w := fun k => by
   simp [Op.equalIn, Sem.run_bind, run_underlying hu]
  have h2 : (Op.equal t (.pointer (some a0)) (.pointer none)).run P w = .ok false w := h 9999
  simp only [binOp, Sem.run_bind, h2, Result.andThen]
  rfl
theorem op_makeFunc {f : Fn} (hn : d < n.n) (hx : evr L x = some v) (hg : g = g) : Val P ⟨some d, .makeFunc f #[] #[x], ty, pos, af, g⟩ n L H d (.func f #[] #[v]) :=
 Val.mk rfl hn fun a w hs => by simp [execOp, Instr.makeFunc, hs.eval hx]
section
variable {src dst xt : TypeId}
theorem op_shl8u {a : Nat} (hn : d < n.n) (hx : evr L x = some (.int .u64 (a : Int))) (hy : evr L y = some (.int .u64 8)) (hs : a < 72057594037927936) :
  Val P ⟨some d, .binOp .shl xt x y yt, ty, pos, af, g⟩ n L H d (.int .u64 ((a * 256 : Nat) : Int)) :=
 binop_val hn hx hy (fun _ _ => rfl) fun w => by
  have e : IntKind.u64.wrap ((a : Int) * 256) = ((a * 256 : Nat) : Int) := by simp [IntKind.wrap, IntKind.bits, IntKind.signed]; omega
  simp [binOp_shl, Op.shift, IntKind.bits, e]
theorem op_or8u {a b : Nat} (hn : d < n.n) (hx : evr L x = some (.int .u64 (a : Int))) (hy : evr L y = some (.int .u64 (b : Int))) (hs : b < 256 ∧ a < 18446744073709551616 ∧ a % 256 = 0) :
  Val P ⟨some d, .binOp .or xt x y yt, ty, pos, af, g⟩ n L H d (.int .u64 ((a + b : Nat) : Int)) :=
 binop_val hn hx hy (fun _ _ => rfl) fun w => by
  obtain ⟨q, rfl⟩ : ∃ q, a = q <<< 8 := ⟨a / 256, by rw [Nat.shiftLeft_eq]; omega⟩
  have hk : q <<< 8 < 2 ^ 64 := by omega
  have hm : b < 2 ^ 8 := by omega
  have hor : (q <<< 8) ||| b = q <<< 8 + b := (Nat.shiftLeft_add_eq_or_of_lt hm q).symm
  have e : IntKind.u64.wrap ((BitVec.ofInt 64 ((q <<< 8 : Nat) : Int) ||| BitVec.ofInt 64 (b : Int)).toNat : Int) = ((q <<< 8 + b : Nat) : Int) := by
   rw [BitVec.toNat_or, BitVec.ofInt_natCast, BitVec.ofInt_natCast, BitVec.toNat_ofNat, BitVec.toNat_ofNat, Nat.mod_eq_of_lt hk, Nat.mod_eq_of_lt (by omega : b < 2 ^ 64), hor]
   generalize q <<< 8 = A at *
   simp [IntKind.wrap, IntKind.bits, IntKind.signed]; omega
  rw [binOp_or]
  exact congrArg (fun z : Int => (Result.ok (Value.int .u64 z) w : Result Value)) e
theorem op_conv8u {c : UInt8} (hs : (P.underlying src).isSome = true) (hd : P.underlying dst = some (.int .u64)) (hn : d < n.n) (hx : evr L x = some (bv c)) :
  Val P ⟨some d, .convert src dst x, ty, pos, af, g⟩ n L H d (.int .u64 ((c.toNat : Nat) : Int)) := by
 have h := op_conv (P := P) (H := H) (ty := ty) (pos := pos) (af := af) (g := g) (k := .u8) hs hd hn hx
 have hc := c.toNat_lt
 have e : IntKind.u64.wrap (c.toNat : Int) = (c.toNat : Int) := by simp [IntKind.wrap, IntKind.bits, IntKind.signed]; omega
 rw [e] at h
 exact h
theorem op_convu64i {a : Int} (hs : (P.underlying src).isSome = true) (hd : P.underlying dst = some (.int .i64)) (hn : d < n.n) (hx : evr L x = some (.int .u64 a)) (ha : -9223372036854775808 ≤ a ∧ a < 9223372036854775808) :
  Val P ⟨some d, .convert src dst x, ty, pos, af, g⟩ n L H d (.int .i64 a) := by
 have h := op_conv (P := P) (H := H) (ty := ty) (pos := pos) (af := af) (g := g) (k := .u64) hs hd hn hx
 have e : IntKind.i64.wrap a = a := by rw [IntKind.wrap_i64]; omega
 rw [e] at h
 exact h
theorem op_conv16i {a : Int} (hs : (P.underlying src).isSome = true) (hd : P.underlying dst = some (.int .i64)) (hn : d < n.n) (hx : evr L x = some (.int .u16 a)) (h0 : 0 ≤ a ∧ a < 65536) :
  Val P ⟨some d, .convert src dst x, ty, pos, af, g⟩ n L H d (.int .i64 a) := by
 have h := op_conv (P := P) (H := H) (ty := ty) (pos := pos) (af := af) (g := g) (k := .u16) hs hd hn hx
 have e : IntKind.i64.wrap a = a := by rw [IntKind.wrap_i64]; omega
 rw [e] at h
 exact h
end
theorem op_clip {A : Option Addr} {m c sz : Nat} {xh xm : Operand} (hu : P.underlying t = some (.slice e)) (hsz : (P.info? e).map (·.size) = some sz) (hn : d < n.n) (hx : evr L x = some (.slice A m c)) (hh : evr L xh = some (.int .i64 (m : Int))) (hm : evr L xm = some (.int .i64 (m : Int))) (hc : m ≤ c) :
  Val P ⟨some d, .slice t x none (some xh) (some xm), ty, pos, af, g⟩ n L H d (.slice A m m) :=
 Val.mk rfl hn fun a w hs => by
  have e1 : (if m = 0 then A else A.map (·.add (0 * sz))) = A := by
   cases A <;> simp [Addr.add]
  have h1 : ((m : Int)) ≤ (c : Int) := by omega
  simp [execOp, hs.eval hx, hs.eval hh, hs.eval hm, Instr.sliceAt, Instr.slice, Sem.run_bind, run_underlying hu, Instr.sliceBounds, run_sliceBound, run_sizeOf hsz, hc]
  cases A <;> simp [Addr.add]
theorem own_le_rdc {A : Option Addr} {e : TypeId} {sz m c : Nat} {xs : List Value} : (rd (.slice A m m) sz m xs).Le (own (.slice A m c) e sz m xs) := by
 refine ⟨fun h => (by cases h), fun b h => ?_, fun w h => ?_⟩
 ·have := h.2
  cases A with
  | none => simp [Value.ownBlock] at this
  | some a => simpa [own, Value.ownBlock] using this
 ·obtain ⟨h1, h2, A', c', he, hc, h3⟩ := own_le_rd.ok w h
  cases he
  exact ⟨h1, h2, A, m, rfl, Nat.le_refl _, h3⟩
theorem op_appendFull {A B : Option Addr} {m k cB sz by' : Nat} {zero xs ys : List Value} (hu : P.underlying t = some (.slice e)) (he : TInf P e sz by' zero) (hzl : zero.length = sz) (hpos : 0 < sz) (hn : d < n.n)
  (hx : evr L x = some (.slice A m m)) (hy : evr L y = some (.slice B k cB)) (hsx : Src H (.slice A m m) sz m xs) (hsrc : Src H (.slice B k cB) sz k ys) (hk : 0 < k) (hb : (m + k) * by' ≤ 140737488355328) (h63 : m + k ≤ 1000000000) :
  Opn P Q ⟨some d, .call { callee := .builtin .append, args := #[x, y], argTypes := #[t, t] }, ty, pos, af, g⟩ n L H
   (fun a w => ∃ A' c', St n (upd L d (.slice A' (m + k) c')) (own (.slice A' (m + k) c') e sz (m + k) (xs ++ ys) :: H) a w) := by
 obtain ⟨i, z, hi, hs1, hs2, hz, hzz⟩ := he.open
 intro a w hs K hK
 have hzc : z.cells.size = sz := by rw [← hzl, ← hzz]; simp
 obtain ⟨x1, x2, A', c', x3, x4, x5⟩ := hsx.ok hs.sat
 cases x3
 obtain ⟨y1, y2, B', cB', y3, y4, y5⟩ := hsrc.ok hs.sat
 cases y3
 have hyp : 0 < ys.length := by rw [y1]; exact Nat.mul_pos hk hpos
 obtain ⟨b, o, rfl, y6⟩ := y5 hyp
 have hlen : (xs ++ ys).length = (m + k) * sz := by rw [List.length_append, x1, y1, Nat.add_mul]
 have h63' : m + k ≤ maxLen := Nat.le_trans h63 (by decide)
 have grown : ∀ old, (w.drew.alloc (.cells (xs.toArray ++ ys.toArray ++ Builtin.zeroCells z.cells (grownCap w (m + k) old e - (m + k))) e)).ownsRow 0 e sz (.slice (some ⟨w.heap.size, 0, none⟩) (m + k) (grownCap w (m + k) old e)) (m + k) (xs ++ ys) := by
  intro old
  have hge := grownCap_ge w (m + k) old e
  have hcm := grownCap_le_maxLen w (m + k) old e h63'
  refine ⟨hlen, .inr ⟨w.heap.size, _, _, rfl, Nat.zero_le _, heap_alloc_new w.drew _, hge, hcm, ?_, ?_⟩⟩
  ·simp only [Array.size_append, List.size_toArray, size_zeroCells, hzc, x1, y1, ← Nat.add_mul]
   congr 1
   omega
  ·simp only [Array.toList_append, List.append_assoc]
   rw [← List.append_assoc, ← hlen]
   exact List.take_left
 have hmain : ∃ old, (Builtin.append_ #[t, t] ty #[.slice A m m, .slice (some ⟨b, o, none⟩) k cB]).run P w = .ok (.slice (some ⟨w.heap.size, 0, none⟩) (m + k) (grownCap w (m + k) old e)) (w.drew.alloc (.cells (xs.toArray ++ ys.toArray ++ Builtin.zeroCells z.cells (grownCap w (m + k) old e - (m + k))) e)) := by
  subst hs1
  subst hs2
  by_cases hm0 : A = none
  ·subst hm0
   have hm : m = 0 := by
    by_cases h : m = 0
    ·exact h
    ·obtain ⟨_, _, h2, _⟩ := x5 (by rw [x1]; exact Nat.mul_pos (Nat.pos_of_ne_zero h) hpos)
     cases h2
   subst hm
   have hx0 : xs = [] := List.eq_nil_of_length_eq_zero (by simpa using x1)
   subst hx0
   have hr := run_append_nil (P := P) w t ty e i z hu hi hz ⟨b, o, none⟩ k cB ys y1 (fun j u hu => by rw [add_at]; exact y6 j u hu) hk (by omega) (by have h := hb; simp only [Nat.zero_add] at h; omega)
   exact ⟨0, by simpa using hr⟩
  ·obtain ⟨p, rfl⟩ := Option.ne_none_iff_exists'.1 hm0
   by_cases hmz : xs.length = 0
   ·have hxe : xs = [] := List.eq_nil_of_length_eq_zero hmz
    have hm : m = 0 := by
     rw [hmz] at x1
     rcases Nat.mul_eq_zero.1 x1.symm with h | h
     ·exact h
     ·omega
    subst hxe
    subst hm
    have hr := run_append_grow (P := P) w t ty e i z hu hi hz p 0 0 [] (by simp) (fun j u hj => by simp at hj) ⟨b, o, none⟩ k cB ys y1 (fun j u hu => by rw [add_at]; exact y6 j u hu) (by omega) (by omega) (growslice_fits (by omega) hb)
    exact ⟨0, hr⟩
   ·obtain ⟨b2, o2, hp2, x6⟩ := x5 (by omega)
    cases hp2
    have hr := run_append_grow (P := P) w t ty e i z hu hi hz ⟨b2, o2, none⟩ m m xs x1 (fun j u hj => by rw [add_at]; exact x6 j u hj) ⟨b, o, none⟩ k cB ys y1 (fun j u hu => by rw [add_at]; exact y6 j u hu) (by omega) (by omega) (growslice_fits (by omega) hb)
    exact ⟨m, hr⟩
 obtain ⟨old, hr⟩ := hmain
 unfold Oper.wp
 have hrun : (execOp a.eval ⟨some d, .call { callee := .builtin .append, args := #[x, y], argTypes := #[t, t] }, ty, pos, af, g⟩).run P w = .ok (.value (.slice (some ⟨w.heap.size, 0, none⟩) (m + k) (grownCap w (m + k) old e))) (w.drew.alloc (.cells (xs.toArray ++ ys.toArray ++ Builtin.zeroCells z.cells (grownCap w (m + k) old e - (m + k))) e)) := by
  simp only [execOp, resolve, invoke, builtin, Sem.run_bind, Sem.run_pure, Result.andThen_ok, List.map_toArray, List.map_cons, List.map_nil, hs.eval hx, hs.eval hy, hr]
 rw [hrun, Oper.upon_value]
 refine hK _ _ ⟨_, _, hs.regs.put hn _, hs.sat.grow (grown old) ⟨rfl, rfl, rfl, by simp, fun j hj _ => heap_alloc_old w.drew _ hj⟩ (fun b hb => ?_)⟩
 simp only [own, Value.ownBlock, Option.some.injEq] at hb
 omega
theorem op_callv {f : FuncId} {fx : Operand} {xs : List Operand} {vs : List Value} {ats : Array TypeId} {T D : List Ch} {R : Type} {φ : R → Prop} {ret : R → Value} {B : R → List Ch} (hsp : Spec P f vs T D φ ret B) (hc : Callable P f) (hn : d < n.n)
  (hf : evr L fx = some (.func (.func f) #[] #[])) (hargs : xs.map (evr L) = vs.map some) (hG : Give H T D F) :
  Opn P Q ⟨some d, .call { callee := .value fx, args := xs.toArray, argTypes := ats }, ty, pos, af, g⟩ n L H (fun a w => ∃ r, φ r ∧ St n (upd L d (ret r)) (B r ++ F) a w) := by
 intro a w hs K hK
 have e1 : xs.toArray.map a.eval = vs.toArray := by rw [List.map_toArray, evals hs xs vs hargs]
 have hrun : (execOp a.eval ⟨some d, .call { callee := .value fx, args := xs.toArray, argTypes := ats }, ty, pos, af, g⟩).run P w = .ok (.enter f vs.toArray) w := by
  simp only [execOp, resolve, Deferred.ofValue, invoke, e1, hs.eval hf, Sem.run_bind, Sem.run_pure, Result.andThen_ok]
  simp [hc.run]
 unfold Oper.wp
 rw [hrun, Oper.upon_enter]
 have h1 := hs.sat.takes hG.t
 refine (hsp w (h1.ros hG.d.all)).mono ?_
 rintro e w' ⟨r, rfl, hφ, hB, hchg, hnew⟩
 exact hK _ _ ⟨r, hφ, hs.regs.put hn _, h1.frame hB hchg hnew⟩
section
variable {a b : Int} {xt : TypeId}
theorem op_addW (hn : d < n.n) (hx : evr L x = some (.int .i64 a)) (hy : evr L y = some (.int .i64 b)) : Val P ⟨some d, .binOp .add xt x y yt, ty, pos, af, g⟩ n L H d ((.int .i64 (IntKind.i64.wrap (a + b)))) :=
 binop_val hn hx hy (fun _ _ => rfl) fun w => by simp [binOp, Op.intArith]
theorem op_subW (hn : d < n.n) (hx : evr L x = some (.int .i64 a)) (hy : evr L y = some (.int .i64 b)) : Val P ⟨some d, .binOp .sub xt x y yt, ty, pos, af, g⟩ n L H d ((.int .i64 (IntKind.i64.wrap (a - b)))) :=
 binop_val hn hx hy (fun _ _ => rfl) fun w => by simp [binOp, Op.intArith]
end
theorem WX.chEq {e : Exit} {c : Ch} (c' : Ch) (hc : Take H c F) (he : c = c') (h : WX Q e n L (c' :: F)) : WX Q e n L H := fun a w hs => h a w ⟨hs.regs, he ▸ hs.sat.perm hc.perm⟩
theorem zip2_get {tmps : Array Value} {x y : Value} {i j m : Nat} {L : List (Nat × Value)} (hsz : tmps.size = m) (hi : i < m) (hj : j < m) (hij : ¬ i = j) (h : ∀ d v, get L d = some v → tmps[d]? = some v) :
  ∀ d v, get ((i, x) :: (j, y) :: L) d = some v → ((#[i, j].zip #[x, y]).foldl (fun (t : Array Value) (p : Nat × Value) => t.setIfInBounds p.1 p.2) tmps)[d]? = some v := by
 intro d v hv
 have e1 := get_upd (L := (j, y) :: L) (d := i) (e := d) (v := x)
 have e2 := get_upd (L := L) (d := j) (e := d) (v := y)
 simp only [upd] at e1 e2
 rw [e1] at hv
 have hf : (#[i, j].zip #[x, y]).foldl (fun (t : Array Value) (p : Nat × Value) => t.setIfInBounds p.1 p.2) tmps = (tmps.setIfInBounds i x).setIfInBounds j y := by simp
 rw [hf, Array.getElem?_setIfInBounds, Array.getElem?_setIfInBounds]
 by_cases h1 : i = d
 ·subst h1
  rw [if_pos rfl] at hv
  cases hv
  simp [hsz, hi, Ne.symm hij, fun e : j = i => hij e.symm]
 ·rw [if_neg h1, e2] at hv
  by_cases h2 : j = d
  ·subst h2
   rw [if_pos rfl] at hv
   cases hv
   simp [hsz, hj]
  ·rw [if_neg h2] at hv
   rw [if_neg h2, if_neg h1]
   exact h d v hv
theorem op_sl2arrS {len m c sz : Nat} {A : Option Addr} {xs : List Value} (hu : P.underlying t = some (.array len e)) (hn : d < n.n) (hx : evr L x = some (.slice A m c)) (hm : len ≤ m) (hsrc : Src H (.slice A m c) sz m xs) (hp : 0 < xs.length) :
  Val P ⟨some d, .sliceToArrayPointer t x, ty, pos, af, g⟩ n L H d (cellAddr A 0) :=
 Val.mk rfl hn fun a w hs => by
  obtain ⟨b, o, rfl, _⟩ := hsrc.at_ hs.sat hp
  have : ¬ m < len := by omega
  simp [execOp, hs.eval hx, Instr.arrayAt, Sem.run_bind, run_underlying hu, this, cellAddr]
end
end Go.Proofs.YtkjlbedebmffgaaGreat.Sx
namespace Go.Proofs.YtkjlbedebmffgaaGreat.Sx
open Go.RowKit Go.Proofs.YtkjlbedebmffgaaGreat.Ty
attribute [local irreducible] blk own rd rx frameC
set_option maxHeartbeats 400000 in
set_option maxRecDepth 10000 in
theorem f31_spec (bd bm : Nat) (A : Option Addr) (c : Nat) (D : Dk) (i : Int) :
  Spec Tryz.prog 31 [.pointer (some ⟨bd, 0, none⟩), .int .i64 i] [blk bd (dcells D bm A c) 77] [] (R := Unit) (fun _ => True) (fun _ => .bool (decide (0 ≤ i ∧ i < D.n))) (fun _ => [blk bd (dcells D bm A c) 77]) := by
 refine Spec.intro Tryz.func31 Tryz.ntmps31 rfl (by simp) (by simp) fun w0 => ?_
 refine W283 ?_
 refine W76 ?_
 refine W261 ?_
 refine W66 ?_
 refine W4 ?_
 refine WL.split (t := 7) rfl (fun g7 => ?_) (fun g7 => ?_)
 ·
  refine W345 ?_
  refine wlgv (op_nilCheck (lt_ rfl) rfl) rfl rfl rfl ?_
  refine wlgv (op_fieldAddr fo77_0 (lt_ rfl) rfl) rfl rfl rfl ?_
  refine W28 ?_
  refine W98 ?_
  refine W17 ?_
  refine W241 ?_
  refine W322 ?_
  exact Fin.ret1 xI (()) (trivial) Tryz.results31 (.tmp (by first | (refine congrArg (fun z => some (Value.bool z)) ?_; simp_all; done) | (refine congrArg (fun z => some (Value.bool z)) ?_; rw [decide_eq_decide]; omega) | (refine congrArg (fun z => some (Value.bool z)) ?_; exact (decide_eq_false (by omega)).symm))) xT (by simp)
 ·
  refine W255 ?_
  refine W267 ?_
  refine W241 ?_
  refine W322 ?_
  exact Fin.ret1 xI (()) (trivial) Tryz.results31 (.tmp (by first | (refine congrArg (fun z => some (Value.bool z)) ?_; simp_all; done) | (refine congrArg (fun z => some (Value.bool z)) ?_; rw [decide_eq_decide]; omega) | (refine congrArg (fun z => some (Value.bool z)) ?_; exact (decide_eq_false (by omega)).symm))) xT (by simp)
set_option maxHeartbeats 400000 in
set_option maxRecDepth 10000 in
theorem f81_spec (bd bm : Nat) (A : Option Addr) (c : Nat) (D : Dk) :
  Spec Tryz.prog 81 [.pointer (some ⟨bd, 0, none⟩)] [blk bd (dcells D bm A c) 77] [] (R := Unit) (fun _ => True) (fun _ => .int .i64 D.operate.2) (fun _ => [blk bd (dcells D.operate.1 bm A c) 77]) := by
 refine Spec.intro Tryz.func81 Tryz.ntmps81 rfl (by simp) (by simp) fun w0 => ?_
 refine W300 ?_
 refine W282 ?_
 refine W27 ?_
 refine wlv (op_fieldAddr fo77_4 (lt_ rfl) rfl) rfl ?_
 refine W72 ?_
 refine W4 ?_
 refine WL.splitb (t := 7) rfl (fun g7 => ?_) (fun g7 => ?_)
 ·
  refine W13 ?_
  refine wlgv (op_nilCheck (lt_ rfl) rfl) rfl rfl rfl ?_
  refine wlgv (op_fieldAddr fo77_5 (lt_ rfl) rfl) rfl rfl rfl ?_
  refine W28 ?_
  refine W62 ?_
  refine W313 ?_
  refine WX.regs (L' := [(0, _), (13, _)]) ?_
  refine W0 ?_
  refine WC.cond rfl (fun h1 => ?_) (fun h1 => ?_)
  ·
   refine W351 ?_
   refine W27 ?_
   refine wlv (op_fieldAddr fo77_6 (lt_ rfl) rfl) rfl ?_
   refine wl (op_store sz4 rfl rfl xK xL xO (by first | exact Nat.le_of_ble_eq_true rfl | (simp; omega))) rfl ?_
   refine W252 ?_
   have hop : D.operate = ({ D with down := true }, 28) := by unfold Dk.operate; rw [if_pos ⟨g7, h1⟩]
   rw [hop]
   refine WX.blkEq (b := bd) (dcells { D with down := true } bm A c) xK (by rfl) ?_
   refine WX.regs (L' := []) ?_
   refine W311 ?_
   refine W9 ?_
   exact Fin.ret1 xI (()) (trivial) Tryz.results81 (.tmp rfl) xT (by simp)
  ·
   refine W8 ?_
   refine W323 ?_
   refine wlv (op_fieldAddr fo77_5 (lt_ rfl) rfl) rfl ?_
   refine W21 ?_
   refine wlv (op_subW (by decide) rfl rfl) rfl ?_
   refine W27 ?_
   refine wlv (op_fieldAddr fo77_5 (lt_ rfl) rfl) rfl ?_
   refine W61 ?_
   refine W252 ?_
   refine W31 ?_
   refine W323 ?_
   refine wlv (op_fieldAddr fo77_3 (lt_ rfl) rfl) rfl ?_
   refine W21 ?_
   refine wlv (op_addW (by decide) rfl rfl) rfl ?_
   refine W27 ?_
   refine wlv (op_fieldAddr fo77_3 (lt_ rfl) rfl) rfl ?_
   refine W61 ?_
   refine W252 ?_
   have hop : D.operate = ({ D with limit := IntKind.i64.wrap (D.limit - 1), ops := IntKind.i64.wrap (D.ops + 1) }, 0) := by unfold Dk.operate; rw [if_neg (by simp_all)]
   rw [hop]
   refine WX.blkEq (b := bd) (dcells { D with limit := IntKind.i64.wrap (D.limit - 1), ops := IntKind.i64.wrap (D.ops + 1) } bm A c) xK (by rfl) ?_
   refine WX.regs (L' := []) ?_
   refine W311 ?_
   exact Fin.ret1 xI (()) (trivial) Tryz.results81 (.tmp rfl) xT (by simp)
 ·
  refine W255 ?_
  refine W6 ?_
  refine W285 ?_
  refine WX.regs (L' := [(0, _), (13, _)]) ?_
  refine W281 ?_
  refine W323 ?_
  refine wlv (op_fieldAddr fo77_5 (lt_ rfl) rfl) rfl ?_
  refine W21 ?_
  refine wlv (op_subW (by decide) rfl rfl) rfl ?_
  refine W27 ?_
  refine wlv (op_fieldAddr fo77_5 (lt_ rfl) rfl) rfl ?_
  refine W61 ?_
  refine W252 ?_
  refine W31 ?_
  refine W323 ?_
  refine wlv (op_fieldAddr fo77_3 (lt_ rfl) rfl) rfl ?_
  refine W21 ?_
  refine wlv (op_addW (by decide) rfl rfl) rfl ?_
  refine W27 ?_
  refine wlv (op_fieldAddr fo77_3 (lt_ rfl) rfl) rfl ?_
  refine W61 ?_
  refine W252 ?_
  have hop : D.operate = ({ D with limit := IntKind.i64.wrap (D.limit - 1), ops := IntKind.i64.wrap (D.ops + 1) }, 0) := by unfold Dk.operate; rw [if_neg (by simp_all)]
  rw [hop]
  refine WX.blkEq (b := bd) (dcells { D with limit := IntKind.i64.wrap (D.limit - 1), ops := IntKind.i64.wrap (D.ops + 1) } bm A c) xK (by rfl) ?_
  refine WX.regs (L' := []) ?_
  refine W311 ?_
  exact Fin.ret1 xI (()) (trivial) Tryz.results81 (.tmp rfl) xT (by simp)
set_option maxHeartbeats 400000 in
set_option maxRecDepth 10000 in
theorem f60_spec (bd bm : Nat) (A : Option Addr) (c : Nat) (D : Dk) :
  Spec Tryz.prog 60 [.pointer (some ⟨bd, 0, none⟩)] [blk bd (dcells D bm A c) 77] [] (R := Unit) (fun _ => True) (fun _ => .int .i64 (D.n : Int)) (fun _ => [blk bd (dcells D bm A c) 77]) := by
 refine Spec.intro Tryz.func60 Tryz.ntmps60 rfl (by simp) (by simp) fun w0 => ?_
 refine W300 ?_
 refine W282 ?_
 refine W142 ?_
 refine W2 ?_
 refine W79 ?_
 refine W281 ?_
 refine W323 ?_
 refine wlv (op_fieldAddr fo77_0 (lt_ rfl) rfl) rfl ?_
 refine W21 ?_
 refine W260 ?_
 exact Fin.ret1 xI (()) (trivial) Tryz.results60 (.tmp rfl) xT (by simp)
set_option maxHeartbeats 400000 in
set_option maxRecDepth 10000 in
theorem f61_spec (bd bm : Nat) (A : Option Addr) (c : Nat) (D : Dk) :
  Spec Tryz.prog 61 [.pointer (some ⟨bd, 0, none⟩)] [blk bd (dcells D bm A c) 77] [] (R := Unit) (fun _ => True) (fun _ => .bool D.down) (fun _ => [blk bd (dcells D bm A c) 77]) := by
 refine Spec.intro Tryz.func61 Tryz.ntmps61 rfl (by simp) (by simp) fun w0 => ?_
 refine W300 ?_
 refine W261 ?_
 refine wlv (op_neqnil Tryz.underlying34 (lt_ rfl) rfl rfl) rfl ?_
 refine W361 ?_
 refine wlgv (op_nilCheck (lt_ rfl) rfl) rfl rfl rfl ?_
 refine wlgv (op_fieldAddr fo77_6 (lt_ rfl) rfl) rfl rfl rfl ?_
 refine wlgv (op_load1 fl4 (lt_ rfl) rfl xM rfl) rfl rfl rfl ?_
 refine W17 ?_
 refine W260 ?_
 exact Fin.ret1 xI (()) (trivial) Tryz.results61 (.tmp rfl) xT (by simp)
end Go.Proofs.YtkjlbedebmffgaaGreat.Sx
namespace Go.Proofs.YtkjlbedebmffgaaGreat.Sx
open Go.RowKit Go.Proofs.YtkjlbedebmffgaaGreat.Ty
attribute [local irreducible] blk own rd rx frameC
set_option maxHeartbeats 400000 in
set_option maxRecDepth 10000 in
theorem f32_spec (bd bm : Nat) (A : Option Addr) (c : Nat) (D : Dk) (i : Int) (x : Sct) :
  Spec Tryz.prog 32 [.pointer (some ⟨bd, 0, none⟩), .int .i64 i, x.v] [blk bd (dcells D bm A c) 77, mapC bm (dmap D.dur)] [] (R := Unit) (fun _ => True) (fun _ => .tuple #[]) (fun _ => [blk bd (dcells { D with dur := put D.dur i x } bm A c) 77, mapC bm (dmap (put D.dur i x))]) := by
 refine Spec.intro Tryz.func32 Tryz.ntmps32 rfl (by simp) (by simp) fun w0 => ?_
 refine W240 ?_
 refine wl1 (op_box (lt_ rfl) rfl rfl) rfl fun b1 => ?_
 refine W2 ?_
 refine WX.regs (L' := [(0, _), (1, _), (5, _)]) ?_
 refine W269 ?_
 refine wlv (op_loadAll ag73 (lt_ rfl) rfl xM (by show (bvs x.s).length = 256; rw [bvs_length, x.h])) rfl ?_
 refine wlv (op_build (cs := (bvs Sct.z.s)) (pv := []) (lt_ rfl) rfl (by kernel_rfl)) rfl ?_
 refine wlv (op_eqlArr (a := x) (b := Sct.z) Tryz.underlying73 Tryz.underlying5 fl5 (by kernel_rfl) (by kernel_rfl) (by kernel_rfl) (by decide) rfl rfl) rfl ?_
 refine W2 ?_
 refine WX.regs (L' := [(0, _), (1, _), (5, _), (8, _)]) ?_
 refine W0 ?_
 refine WC.cond rfl (fun h1 => ?_) (fun h1 => ?_)
 ·
  refine W351 ?_
  refine W27 ?_
  refine wlv (op_fieldAddr fo77_1 (lt_ rfl) rfl) rfl ?_
  refine wlv (op_load1 fl74 (lt_ rfl) rfl xM rfl) rfl ?_
  refine W4 ?_
  refine wl (op_delete Tryz.underlying74 Tryz.underlying3 rfl rfl rfl xK) rfl ?_
  refine W252 ?_
  subst h1
  refine WX.chEq (c := mapC bm (fun j => if j = i then none else dmap D.dur j)) (mapC bm (dmap (put D.dur i Sct.z))) xK (congrArg _ (dmap_del _ _)) ?_
  refine WX.blkEq (b := bd) (dcells { D with dur := put D.dur i Sct.z } bm A c) xK (by rfl) ?_
  refine WX.regs (L' := []) ?_
  refine W263 ?_
  exact Fin.ret0 xI (()) (trivial) Tryz.results32 rfl  xT (by simp)
 ·
  refine W262 ?_
  refine WC.drawnH mo 6 ?_
  refine W29 ?_
  refine W69 ?_
  refine WA.take (i := 2) rfl (by kernel_rfl) (fun _ _ _ h => h) rfl (op_fieldAddr fo77_1 (lt_ rfl) rfl) xT ?_
  refine WA.take (i := 3) rfl (by kernel_rfl) (fun _ _ _ h => h) rfl (op_load1 fl74 (lt_ rfl) rfl xM rfl) xT ?_
  refine W51 ?_
  refine WA.take (i := 5) rfl (by kernel_rfl) (fun _ _ _ h => h) rfl (op_loadAll ag73 (lt_ rfl) rfl xM (by show (bvs x.s).length = 256; rw [bvs_length, x.h])) xT ?_
  refine WA.stepo (G := []) (i := 6) (by kernel_rfl) rfl rfl (op_mapUpdate Tryz.underlying74 Tryz.underlying3 rfl rfl rfl xK) (fun h => absurd rfl h) ?_
  refine W19 ?_
  refine WX.chEq (c := mapC bm (fun j => if j = i then some x.v else dmap D.dur j)) (mapC bm (dmap (put D.dur i x))) xK (congrArg _ (dmap_put _ _ _ h1)) ?_
  refine WX.blkEq (b := bd) (dcells { D with dur := put D.dur i x } bm A c) xK (by rfl) ?_
  refine WX.regs (L' := []) ?_
  exact Fin.ret0 xI (()) (trivial) Tryz.results32 rfl  xT (by simp)
set_option maxHeartbeats 400000 in
set_option maxRecDepth 10000 in
theorem f110_spec (A : Option Addr) (m c : Nat) :
  Spec Tryz.prog 110 [.slice A m c] [] [] (R := Nat) (fun _ => True) (fun r => .func (.func 112) #[] #[.pointer (some ⟨r, 0, none⟩)]) (fun r => [blk r [.slice A m c] 75]) := by
 refine Spec.intro Tryz.func110 Tryz.ntmps110 rfl (by simp) (by simp) fun w0 => ?_
 refine W240 ?_
 refine wl1 (op_box (lt_ rfl) rfl rfl) rfl fun b1 => ?_
 refine W358 ?_
 refine W249 ?_
 refine wlv (op_makeFunc (by decide) rfl rfl) rfl ?_
 refine W260 ?_
 exact Fin.ret1 xI (b1) (trivial) Tryz.results110 (.tmp rfl) xT (by simp)
set_option maxHeartbeats 400000 in
set_option maxRecDepth 10000 in
theorem f112_spec (yl dl fn : Nat) (tmps : Array Value) (ps : Array Tmp) (assign body : Code) (hps : ps.size = 2) (A : Option Addr) (m c b3 b4 bb : Nat) (a : Int) (zs : Sct) (l : List (Int × Sct)) (hm : l.length = m) (hmx : m ≤ 1000000)
  (hR : ∀ (i : Nat) (p : Int × Sct), l[i]? = some p → Round Tryz.prog yl fn ((ps.zip #[.int .i64 (i : Int), .agg (wcs p).toArray]).foldl (fun (t : Array Value) (q : Nat × Value) => t.setIfInBounds q.1 q.2) tmps) assign body [objC yl (.loop ⟨.ready, none, fn, tmps, ps, assign, body, dl⟩), blk b3 [.int .i64 a] 3, blk b4 (bvs zs.s) 73] (decide (¬ p.1 = a)) [objC yl (.loop ⟨if p.1 = a then .done else .ready, if p.1 = a then some .ret else none, fn, tmps, ps, assign, body, dl⟩), blk b3 [.int .i64 a] 3, blk b4 (bvs (if p.1 = a then p.2 else zs).s) 73]) :
  Spec Tryz.prog 112 [.func (.yield yl) #[] #[], .pointer (some ⟨bb, 0, none⟩)] [objC yl (.loop ⟨.ready, none, fn, tmps, ps, assign, body, dl⟩), blk b3 [.int .i64 a] 3, blk b4 (bvs zs.s) 73, blk bb [.slice A m c] 75] [rd (.slice A m c) 257 m (l.flatMap wcs)] (R := Option Sct) (fun r => ∀ f, applyW f l a = r.getD (f a)) (fun _ => .tuple #[])
   (fun r => [objC yl (.loop ⟨if r.isSome then .done else .ready, if r.isSome then some .ret else none, fn, tmps, ps, assign, body, dl⟩), blk b3 [.int .i64 a] 3, blk b4 (bvs (r.getD zs).s) 73, blk bb [.slice A m c] 75]) := by
 refine Spec.intro Tryz.func112 Tryz.ntmps112 rfl (by simp) (by simp) fun w0 => ?_
 refine W240 ?_
 refine wlv (op_load1 fl75 (lt_ rfl) rfl xM rfl) rfl ?_
 refine wlv (op_len Tryz.underlying75 (lt_ rfl) rfl) rfl ?_
 refine W94 ?_
 refine W241 ?_
 refine WX.regs (L' := [(0, _), (1, _), (3, _)]) ?_
 refine W294 ?_
 refine WC.loop (X := Nat) (fun j => j) (fun j => j ≤ m ∧ ∀ k q, j ≤ k → l[k]? = some q → ¬ q.1 = a) (fun j => [(0, .func (.yield yl) #[] #[]), (1, .pointer (some ⟨bb, 0, none⟩)), (3, .int .i64 ((j : Int) - 1))]) (fun j => [objC yl (.loop ⟨.ready, none, fn, tmps, ps, assign, body, dl⟩), blk b3 [.int .i64 a] 3, blk b4 (bvs zs.s) 73, blk bb [.slice A m c] 75, rd (.slice A m c) 257 m (l.flatMap wcs), frameC w0 (MutF [objC yl (.loop ⟨.ready, none, fn, tmps, ps, assign, body, dl⟩), blk b3 [.int .i64 a] 3, blk b4 (bvs zs.s) 73, blk bb [.slice A m c] 75])]) (m) (⟨Nat.le_refl _, fun k q h1 h2 => by have := (List.getElem?_eq_some_iff.1 h2).1; omega⟩) (fun a w hs => hs.sub xY xT) ?_
 rintro j ⟨hj, hk⟩
 try dsimp only
 refine W328 ?_
 refine W66 ?_
 refine W2 ?_
 refine WX.regs (L' := [(0, _), (1, _), (3, _), (8, _)]) ?_
 refine W0 ?_
 refine WC.cond rfl (fun h1 => ?_) (fun h1 => ?_)
 ·
  refine W270 ?_
  refine W1 ?_
  obtain ⟨p, hp⟩ : ∃ p, l[j - 1]? = some p := ⟨l[j - 1]'(by omega), List.getElem?_eq_getElem _⟩
  have hx : ∀ k, k = (j - 1) * 257 → ((l.flatMap wcs).drop k).take 257 = wcs p := fun k hk => by rw [hk]; exact flat_at wcs_length l (j - 1) p hp
  refine WC.wide (WI.region ?_)
  show WLI _ _ _ _ [0, 1, 2, 3, 4, 5, 6, 7] _ _ _
  refine WLI.v free_wide rfl rfl rfl (op_move (by decide) rfl) ?_
  refine WLI.v free_wide rfl rfl rfl (op_move (by decide) rfl) ?_
  refine WLI.v free_wide rfl rfl rfl (op_load1 fl75 (by decide) rfl xM rfl) ?_
  refine WLI.v free_wide rfl rfl rfl (op_move (by decide) rfl) ?_
  refine WLI.v free_wide rfl rfl rfl (op_index Tryz.underlying75 sz80 (by decide) rfl rfl (by omega) (by omega) (by decide) xS) ?_
  refine WLI.v free_wide rfl rfl rfl (op_loadSN ag80 (by decide) rfl xS (by rw [hx _ (by omega)]; exact wcs_length p) (by decide)) ?_
  rw [hx _ (by omega), show ((j : Nat) : Int) - 1 = ((j - 1 : Nat) : Int) by omega]
  refine WLI.yield rfl (by decide) (vs := [.int .i64 ((j - 1 : Nat) : Int), .agg (wcs p).toArray]) rfl rfl hps xT (hR (j - 1) p hp) ?_
  refine WLI.v free_wide rfl rfl rfl (op_notp (by decide) rfl) ?_
  refine WLI.nil ?_
  refine W0 ?_
  refine WC.cond rfl (fun h2 => ?_) (fun h2 => ?_)
  ·
   have hpa : p.1 = a := Decidable.not_not.1 h2
   simp only [if_pos hpa]
   refine W7 ?_
   refine W246 ?_
   refine W9 ?_
   refine W22 ?_
   exact Fin.ret0 xI (some p.2) (fun f => applyW_at f hp hpa (fun k q h1 h2 => hk k q (by omega) h2)) Tryz.results112 rfl  xT (by simp)
  ·
   have hpa : ¬ p.1 = a := fun k => h2 (fun k2 => k2 k)
   simp only [if_neg hpa]
   refine W291 ?_
   refine W0 ?_
   refine W309 ?_
   refine W94 ?_
   refine W241 ?_
   refine WX.regs (L' := [(0, _), (1, _), (3, _)]) ?_
   refine WX.meet (j - 1) ⟨⟨by omega, fun k q h1 h2 => by by_cases hkj : k = j - 1; (subst hkj; rw [hp] at h2; cases h2; exact hpa); exact hk k q (by omega) h2⟩, by omega⟩ (fun a w hs => hs.sub xY xT)
 ·
  refine W264 ?_
  exact Fin.ret0 xI (none) (fun f => applyW_none f (fun q hq => by obtain ⟨k, hk2⟩ := List.mem_iff_getElem?.1 hq; exact hk k q (by omega) hk2)) Tryz.results112 rfl  xT (by simp)
theorem wcs_one (p : Int × Sct) : (wcs p).all (·.oneCell') = true := by
 simp only [wcs, List.all_cons, Bool.and_eq_true]
 exact ⟨rfl, bvs_one _⟩
theorem RSget {L L' : List (Nat × Value)} (h : RS L L') : ∀ d v, get L' d = some v → get L d = some v := fun d v hv => h.mem _ (get_mem hv)
set_option maxHeartbeats 400000 in
set_option maxRecDepth 10000 in
theorem f101_spec (bd bm : Nat) (A : Option Addr) (c : Nat) (D : Dk) (a : Int) (hmx : D.pend.length ≤ 1000000) :
  Spec Tryz.prog 101 [.pointer (some ⟨bd, 0, none⟩), .int .i64 a] [blk bd (dcells D bm A c) 77, mapC bm (dmap D.dur), own (.slice A D.pend.length c) 80 257 D.pend.length (D.pend.flatMap wcs)] [] (R := Unit) (fun _ => True) (fun _ => (D.vis a).v) (fun _ => [blk bd (dcells D bm A c) 77, mapC bm (dmap D.dur), own (.slice A D.pend.length c) 80 257 D.pend.length (D.pend.flatMap wcs)]) := by
 refine Spec.introM Tryz.func101 Tryz.ntmps101 rfl (by simp) (by simp) fun w0 => ?_
 refine W240 ?_
 refine wl1 (op_box (lt_ rfl) rfl rfl) rfl fun b1 => ?_
 refine wl1 (op_alloc ti73 (lt_ rfl)) rfl fun b2 => ?_
 refine W2 ?_
 refine W97 ?_
 refine W282 ?_
 refine W27 ?_
 refine wlv (op_fieldAddr fo77_2 (lt_ rfl) rfl) rfl ?_
 refine wlv (op_load1 fl75 (lt_ rfl) rfl xM rfl) rfl ?_
 refine wlx (op_call (f110_spec A D.pend.length c) ca110 (lt_ rfl) rfl) rfl ?_
 rintro r1 _
 refine W2 ?_
 refine WX.regs (L' := [(0, _), (3, _), (4, _), (11, _)]) ?_
 refine W294 ?_
 refine WC.range (m := 26) (f := 112) (R := Option Sct) (φ := fun r => ∀ f, applyW f D.pend a = r.getD (f a)) (stop := Option.isSome) (ret := fun _ => .tuple #[]) (B := fun r => [blk b1 [.int .i64 a] 3, blk b2 (bvs (r.getD Sct.z).s) 73, blk r1 [.slice A D.pend.length c] 75]) (T := [blk b1 [.int .i64 a] 3, blk b2 (bvs Sct.z.s) 73, blk r1 [.slice A D.pend.length c] 75]) (D := [rd (.slice A D.pend.length c) 257 D.pend.length (D.pend.flatMap wcs)]) rfl (by unfold Callable; kernel_rfl) xG ?_ (fun r dl hr hst => ?_) (fun r dl hr hst => ?_)
 ·intro yl dl fn tmps hsz hget
  refine f112_spec yl dl fn tmps _ _ _ rfl A D.pend.length c b1 b2 r1 a Sct.z D.pend rfl hmx (fun i p hp => ?_)
  have hget2 : ∀ d v, get [(3, .pointer (some ⟨b1, 0, none⟩)), (4, .pointer (some ⟨b2, 0, none⟩))] d = some v → tmps[d]? = some v := fun d v hv => hget d v (RSget (L := _) (by exact RS.cons rfl (RS.cons rfl RS.nil)) d v hv)
  refine Round.intro (m := 26) (L0 := [(12, .int .i64 (i : Int)), (13, .agg (wcs p).toArray), (3, .pointer (some ⟨b1, 0, none⟩)), (4, .pointer (some ⟨b2, 0, none⟩))]) rfl (by simp [hsz]) (zip2_get hsz (by decide) (by decide) (by decide) hget2) (fun w0 => ?_)
  refine WI.region ?_
  show WLI _ _ _ _ [0, 1] _ _ _
  refine WLI.alloc free_round rfl ti80 (by decide) (fun b6 => ?_)
  refine WLI.storeAll free_round rfl sz80 rfl rfl xK (wcs_length p) (wcs_one p) (by simp) ?_
  refine WLI.nil ?_
  intro aa ww hss
  refine ⟨_ :: [blk b6 (wcs p) 80, blk b1 [.int .i64 a] 3, blk b2 (bvs Sct.z.s) 73, frameC w0 _], Take.here, _, ⟨hss.regs, hss.sat.only xT⟩, ?_⟩
  refine WI.block (WI.seq (WI.region ?_))
  show WLI _ _ _ _ [0, 1, 2, 3] _ _ _
  refine WLI.v free_round rfl rfl rfl (op_fieldAddr fo80_0 (by decide) rfl) ?_
  refine WLI.v free_round rfl rfl rfl (op_load1 fl3 (by decide) rfl (bt := 80) (cs := wcs p) xM rfl) ?_
  refine WLI.v free_round rfl rfl rfl (op_load1 fl3 (by decide) rfl (bt := 3) (cs := [.int .i64 a]) xM rfl) ?_
  refine WLI.v free_round rfl rfl rfl (op_eql (by decide) rfl rfl) ?_
  refine WLI.nil (WXI.next ?_)
  refine WI.cond rfl (fun hpa => ?_) (fun hpa => ?_)
  ·refine WI.seq (WI.region ?_)
   show WLI _ _ _ _ [0, 1, 2] _ _ _
   refine WLI.v free_round rfl rfl rfl (op_fieldAddr fo80_1 (by decide) rfl) ?_
   refine WLI.v free_round rfl rfl rfl (op_loadN ag73 (by decide) rfl (bt := 80) (cs := wcs p) xM (by simp [wcs, p.2.h])) ?_
   rw [show (List.drop (0 + 1) (wcs p)).take 256 = bvs p.2.s by simp only [wcs]; exact List.take_of_length_le (by simp [p.2.h])]
   refine WLI.storeAll free_round rfl sz73 rfl rfl (b := b2) (cs := bvs Sct.z.s) xK (by show (bvs p.2.s).length = 256; rw [bvs_length, p.2.h]) (bvs_one _) (by rw [bvs_length, Sct.z.h]) ?_
   refine WLI.nil (WXI.next (WI.ret (WX.in_ret ?_)))
   intro a3 w3 hs3
   refine ⟨some .ret, .inr ⟨rfl, by simp [hpa], rfl⟩, _, [blk b1 [.int .i64 a] 3, blk b2 (bvs p.2.s) 73], ⟨hs3.regs, hs3.sat.only xT⟩, by simp [hpa], by simp⟩
  ·refine WI.skip (WX.in_normal ?_)
   intro a3 w3 hs3
   refine ⟨none, .inl ⟨rfl, by simp [hpa], rfl⟩, _, [blk b1 [.int .i64 a] 3, blk b2 (bvs Sct.z.s) 73], ⟨hs3.regs, hs3.sat.only xT⟩, by simp [hpa], by simp⟩
 ·skip
  obtain rfl : r = none := by cases r; rfl; cases hst
  have hv : D.vis a = D.dur a := hr D.dur
  refine W308 ?_
  refine W1 ?_
  refine WC.drawnH mo 6 ?_
  refine W29 ?_
  refine W69 ?_
  refine WA.take (i := 2) rfl (by kernel_rfl) (fun _ _ _ h => h) rfl (op_fieldAddr fo77_1 (lt_ rfl) rfl) xT ?_
  refine WA.take (i := 3) rfl (by kernel_rfl) (fun _ _ _ h => h) rfl (op_load1 fl74 (lt_ rfl) rfl xM rfl) xT ?_
  refine W129 ?_
  refine WA.take (i := 5) rfl (by kernel_rfl) (fun _ _ _ h => h) rfl (op_lookup Tryz.underlying74 Tryz.underlying3 zf73 (lt_ rfl) rfl rfl xM) xT ?_
  rw [dmap_get]
  refine WA.stepo (G := []) (i := 6) (by kernel_rfl) rfl rfl (op_storeAll sz73 rfl rfl xK (by show (bvs (D.dur a).s).length = 256; rw [bvs_length, (D.dur a).h]) (bvs_one _) (by rfl)) (fun h => absurd rfl h) ?_
  refine W19 ?_
  refine WX.chEq (c := blk b2 _ 73) (blk b2 (bvs (D.vis a).s) 73) xK (by rw [hv]; rfl) ?_
  refine W322 ?_
  exact FinM.ret1 xI () trivial xK Tryz.results101 (.cellN rfl ag73 (cs := bvs (D.vis a).s) (by first | (simp only [hv]; repeat (first | exact List.Mem.head _ | apply List.Mem.tail)) | repeat (first | exact List.Mem.head _ | apply List.Mem.tail)) (by rw [bvs_length, (D.vis a).h])) (by first | (simp only [hv]; repeat (first | exact Takes.nil | exact Take.here | apply Takes.cons | apply Take.there)) | repeat (first | exact Takes.nil | exact Take.here | apply Takes.cons | apply Take.there)) (by simp)
 ·skip
  obtain ⟨x, rfl⟩ : ∃ x, r = some x := by cases r; cases hst; exact ⟨_, rfl⟩
  have hv : D.vis a = x := hr D.dur
  refine W246 ?_
  exact FinM.ret1 xI () trivial xK Tryz.results101 (.cellN rfl ag73 (cs := bvs (D.vis a).s) (by first | (simp only [hv]; repeat (first | exact List.Mem.head _ | apply List.Mem.tail)) | repeat (first | exact List.Mem.head _ | apply List.Mem.tail)) (by rw [bvs_length, (D.vis a).h])) (by first | (simp only [hv]; repeat (first | exact Takes.nil | exact Take.here | apply Takes.cons | apply Take.there)) | repeat (first | exact Takes.nil | exact Take.here | apply Takes.cons | apply Take.there)) (by simp)
end Go.Proofs.YtkjlbedebmffgaaGreat.Sx
namespace Go.Proofs.YtkjlbedebmffgaaGreat.Sx
open Go.RowKit Go.Proofs.YtkjlbedebmffgaaGreat.Ty
attribute [local irreducible] blk own rd rx frameC
theorem write_down {D : Dk} {i : Int} {x : List UInt8} (h : D.down = true) : D.write i x = (D, 28) := by simp [Dk.write, h]
theorem write_has {D : Dk} {i : Int} {x : List UInt8} (h : D.down = false) (h2 : ¬ (0 ≤ i ∧ i < D.n)) : D.write i x = (D, 8) := by simp [Dk.write, h, h2]
theorem write_len {D : Dk} {i : Int} {x : List UInt8} (h : D.down = false) (h2 : 0 ≤ i ∧ i < D.n) (h3 : ¬ x.length = 256) : D.write i x = (D, 2) := by simp [Dk.write, h, h2, h3]
theorem write_op {D : Dk} {i : Int} {x : List UInt8} (h : D.down = false) (h2 : 0 ≤ i ∧ i < D.n) (h3 : x.length = 256) (h4 : ¬ D.operate.2 = 0) : D.write i x = D.operate := by simp [Dk.write, h, h2, h3, h4]
theorem write_ok {D : Dk} {i : Int} {x : List UInt8} (h : D.down = false) (h2 : 0 ≤ i ∧ i < D.n) (h3 : x.length = 256) (h4 : D.operate.2 = 0) : D.write i x = ({ D.operate.1 with pend := D.pend ++ [(i, ⟨x, h3⟩)] }, 0) := by simp [Dk.write, h, h2, h3, h4]
theorem op_keep (D : Dk) : D.operate.1.dur = D.dur ∧ D.operate.1.pend = D.pend ∧ D.operate.1.n = D.n := by unfold Dk.operate; split <;> exact ⟨rfl, rfl, rfl⟩
theorem read_ok {D : Dk} {i : Int} (h : D.down = false) (h2 : 0 ≤ i ∧ i < D.n) : D.read i = ((D.vis i).s, 0) := by simp [Dk.read, h, h2]
theorem read_down {D : Dk} {i : Int} (h : D.down = true) : D.read i = ([], 28) := by simp [Dk.read, h]
theorem read_has {D : Dk} {i : Int} (h : D.down = false) (h2 : ¬ (0 ≤ i ∧ i < D.n)) : D.read i = ([], 8) := by simp [Dk.read, h, h2]
set_option maxHeartbeats 400000 in
set_option maxRecDepth 10000 in
theorem f86_spec (bd bm : Nat) (A : Option Addr) (c : Nat) (D : Dk) (i : Int) (hmx : D.pend.length ≤ 1000000) :
  Spec Tryz.prog 86 [.pointer (some ⟨bd, 0, none⟩), .int .i64 i] [blk bd (dcells D bm A c) 77, mapC bm (dmap D.dur), own (.slice A D.pend.length c) 80 257 D.pend.length (D.pend.flatMap wcs)] [] (R := Option Addr × Nat × List UInt8 × Int) (fun q => (q.2.2.1, q.2.2.2) = D.read i) (fun q => .tuple #[.slice q.1 q.2.2.1.length q.2.1, .int .i64 q.2.2.2])
   (fun q => [blk bd (dcells D bm A c) 77, mapC bm (dmap D.dur), own (.slice A D.pend.length c) 80 257 D.pend.length (D.pend.flatMap wcs), rx (.slice q.1 q.2.2.1.length q.2.1) 1 q.2.2.1.length (bvs q.2.2.1)]) := by
 refine Spec.intro Tryz.func86 Tryz.ntmps86 rfl (by simp) (by simp) fun w0 => ?_
 refine W240 ?_
 refine W251 ?_
 refine W76 ?_
 refine W0 ?_
 refine W254 ?_
 refine W351 ?_
 refine W142 ?_
 refine W241 ?_
 refine WX.regs (L' := [(0, _), (1, _), (7, _)]) ?_
 refine W0 ?_
 refine W23 ?_
 refine W351 ?_
 refine W27 ?_
 refine wlv (op_fieldAddr fo77_6 (lt_ rfl) rfl) rfl ?_
 refine W72 ?_
 refine W241 ?_
 refine WX.regs (L' := [(0, _), (1, _), (10, _)]) ?_
 refine W0 ?_
 refine WC.condb rfl (fun h2 => ?_) (fun h2 => ?_)
 ·
  refine W240 ?_
  refine W251 ?_
  refine WX.nilrx 1 ?_
  refine W48 ?_
  refine W275 ?_
  exact Fin.ret2 xI ((none, 0, [], 28)) ((read_down h2).symm) Tryz.results86 rfl (.tmp rfl) (.tmp rfl) xT (by simp)
 ·
  refine W240 ?_
  refine W244 ?_
  refine wlx (op_call (f31_spec bd bm A c D i) ca31 (lt_ rfl) rfl) rfl ?_
  rintro _ _
  refine W86 ?_
  refine W241 ?_
  refine WX.regs (L' := [(0, _), (1, _), (15, _)]) ?_
  refine W0 ?_
  refine WC.cond rfl (fun h3 => ?_) (fun h3 => ?_)
  ·
   refine W240 ?_
   refine W251 ?_
   refine WX.nilrx 1 ?_
   refine W48 ?_
   refine W275 ?_
   exact Fin.ret2 xI ((none, 0, [], 8)) ((read_has h2 (by simpa using h3)).symm) Tryz.results86 rfl (.tmp rfl) (.tmp rfl) xT (by simp)
  ·
   refine W291 ?_
   refine W299 ?_
   refine wlx (op_call (f101_spec bd bm A c D i hmx) ca101 (lt_ rfl) rfl) rfl ?_
   rintro _ _
   refine wl1 (op_alloc ti73 (lt_ rfl)) rfl fun b1 => ?_
   refine wl (op_storeAll sz73 rfl rfl xK (by show (bvs (D.vis i).s).length = 256; rw [bvs_length, (D.vis i).h]) (bvs_one _) (by rfl)) rfl ?_
   refine W252 ?_
   refine W46 ?_
   refine W249 ?_
   refine wlv (op_sliceArr Tryz.underlying73 sz5 (lt_ rfl) rfl) rfl ?_
   refine W251 ?_
   refine WX.turn (c := blk b1 (bvs (D.vis i).s) 73) (d := rx (.slice (some ⟨b1, 0, none⟩) 256 256) 1 256 (bvs (D.vis i).s)) xK (blk_whole_rx (by rw [bvs_length, (D.vis i).h]) (by decide)) ?_
   refine W48 ?_
   refine W242 ?_
   have hl := (D.vis i).h
   have hl2 : 256 = (D.vis i).s.length := hl.symm
   exact Fin.ret2 xI ((some ⟨b1, 0, none⟩, 256, (D.vis i).s, 0)) ((read_ok h2 (by simpa using h3)).symm) Tryz.results86 rfl (.tmp (by show _ = some (Value.slice _ (D.vis i).s.length _); rw [hl]; rfl)) (.tmp rfl) (by simp only [hl]; repeat (first | exact Takes.nil | exact Take.here | apply Takes.cons | apply Take.there)) (by simp)
end Go.Proofs.YtkjlbedebmffgaaGreat.Sx
namespace Go.Proofs.YtkjlbedebmffgaaGreat.Sx
open Go.RowKit Go.Proofs.YtkjlbedebmffgaaGreat.Ty
attribute [local irreducible] blk own rd rx frameC
set_option maxHeartbeats 400000 in
set_option maxRecDepth 10000 in
theorem f73_spec (bd bm : Nat) (A : Option Addr) (c : Nat) (D : Dk) (i : Int) (AX : Option Addr) (m cX : Nat) (x : List UInt8) (hm : x.length = m) (hmx : D.pend.length ≤ 1000000) :
  Spec Tryz.prog 73 [.pointer (some ⟨bd, 0, none⟩), .int .i64 i, .slice AX m cX] [blk bd (dcells D bm A c) 77, mapC bm (dmap D.dur), own (.slice A D.pend.length c) 80 257 D.pend.length (D.pend.flatMap wcs)] [rd (.slice AX m cX) 1 m (bvs x)] (R := Option Addr × Nat) (fun _ => True) (fun _ => .int .i64 (D.write i x).2)
   (fun q => [blk bd (dcells (D.write i x).1 bm q.1 q.2) 77, mapC bm (dmap (D.write i x).1.dur), own (.slice q.1 (D.write i x).1.pend.length q.2) 80 257 (D.write i x).1.pend.length ((D.write i x).1.pend.flatMap wcs)]) := by
 refine Spec.intro Tryz.func73 Tryz.ntmps73 rfl (by simp) (by simp) fun w0 => ?_
 refine W283 ?_
 refine W111 ?_
 refine W0 ?_
 refine W254 ?_
 refine W351 ?_
 refine W142 ?_
 refine W241 ?_
 refine WX.regs (L' := [(0, _), (1, _), (2, _), (8, _)]) ?_
 refine W0 ?_
 refine W23 ?_
 refine W351 ?_
 refine W27 ?_
 refine wlv (op_fieldAddr fo77_6 (lt_ rfl) rfl) rfl ?_
 refine W72 ?_
 refine W241 ?_
 refine WX.regs (L' := [(0, _), (1, _), (2, _), (11, _)]) ?_
 refine W0 ?_
 refine WC.condb rfl (fun h2 => ?_) (fun h2 => ?_)
 ·
  refine W283 ?_
  refine W46 ?_
  refine W275 ?_
  rw [write_down h2]
  exact Fin.ret1 xI ((A, c)) (trivial) Tryz.results73 (.tmp rfl) xT (by simp)
 ·
  refine W240 ?_
  refine W244 ?_
  refine wlx (op_call (f31_spec bd bm A c D i) ca31 (lt_ rfl) rfl) rfl ?_
  rintro _ _
  refine W86 ?_
  refine W241 ?_
  refine WX.regs (L' := [(0, _), (1, _), (2, _), (16, _)]) ?_
  refine W0 ?_
  refine WC.cond rfl (fun h3 => ?_) (fun h3 => ?_)
  ·
   refine W283 ?_
   refine W46 ?_
   refine W275 ?_
   rw [write_has h2 (by simpa using h3)]
   exact Fin.ret1 xI ((A, c)) (trivial) Tryz.results73 (.tmp rfl) xT (by simp)
  ·
   refine W351 ?_
   refine W38 ?_
   refine W24 ?_
   refine W241 ?_
   refine WX.regs (L' := [(0, _), (1, _), (2, _), (21, _)]) ?_
   refine W0 ?_
   refine WC.cond rfl (fun h4 => ?_) (fun h4 => ?_)
   ·
    refine W283 ?_
    refine W46 ?_
    refine W275 ?_
    rw [write_len h2 (by simpa using h3) (by omega)]
    exact Fin.ret1 xI ((A, c)) (trivial) Tryz.results73 (.tmp rfl) xT (by simp)
   ·
    obtain rfl : m = 256 := by omega
    have hx : x.length = 256 := hm
    refine W291 ?_
    refine W282 ?_
    refine wlx (op_call (f81_spec bd bm A c D) ca81 (lt_ rfl) rfl) rfl ?_
    rintro _ _
    refine W241 ?_
    refine WX.regs (L' := [(0, _), (1, _), (2, _), (7, _)]) ?_
    refine W359 ?_
    refine WX.regs (L' := [(0, _), (1, _), (2, _), (7, _), (28, _)]) ?_
    refine W0 ?_
    refine WC.cond rfl (fun h5 => ?_) (fun h5 => ?_)
    ·
     refine W351 ?_
     refine W333 ?_
     refine W263 ?_
     have hk := op_keep D
     rw [write_op h2 (by simpa using h3) hx (by omega)]
     rw [hk.1, hk.2.1]
     exact Fin.ret1 xI ((A, c)) (trivial) Tryz.results73 (.tmp rfl) xT (by simp)
    ·
     have hop : D.operate.2 = 0 := by omega
     have hk := op_keep D
     refine W262 ?_
     refine W1 ?_
     refine WC.drawn (Hs := [blk bd (dcells D.operate.1 bm A c) 77, rd (.slice AX 256 cX) 1 256 (bvs x)]) mo 14 ?_
     refine W344 ?_
     refine WA.take (i := 2) rfl (by kernel_rfl) (fun _ _ _ h => h) rfl (op_nilCheck (lt_ rfl) rfl) xT ?_
     refine WA.take (i := 3) rfl (by kernel_rfl) (fun _ _ _ h => h) rfl (op_fieldAddr fo77_2 (lt_ rfl) rfl) xT ?_
     refine WA.take (i := 4) rfl (by kernel_rfl) (fun _ _ _ h => h) rfl (op_load1 fl75 (lt_ rfl) rfl xM rfl) xT ?_
     rw [hk.2.1]
     refine W67 ?_
     refine W107 ?_
     refine WA.take (i := 7) rfl (by kernel_rfl) (fun _ _ _ h => h) rfl (op_sl2arrS Tryz.underlying73 (lt_ rfl) rfl (by decide) (Src.rd (xs := bvs x) xM) (by rw [bvs_length, hx]; decide)) xT ?_
     refine WA.take (i := 8) rfl (by kernel_rfl) (fun _ _ _ h => h) rfl (op_loadSN ag73 (lt_ rfl) rfl (Src.rd (xs := bvs x) xM) (by simp [bvs, hx]) (by decide)) xT ?_
     rw [show ((bvs x).drop 0).take 256 = bvs x from List.take_of_length_le (by rw [List.drop_zero, bvs_length, hx]; exact Nat.le_refl _)]
     refine WA.take (i := 9) rfl (by kernel_rfl) (fun _ _ _ h => h) rfl (op_build (cs := wcs (i, (⟨x, hx⟩ : Sct))) (pv := [(0, _), (1, _)]) (lt_ rfl) rfl (built84 i ⟨x, hx⟩)) xT ?_
     refine WA.step1 (i := 10) (by kernel_rfl) rfl rfl (op_lit1 Tryz.underlying75 ti80 rfl (by decide) (lt_ rfl) rfl (by show (wcs (i, (⟨x, hx⟩ : Sct))).toArray.size = 257; rw [List.size_toArray, wcs_length])) (fun _ b => xT) fun b1 => ?_
     refine WA.step2 (i := 11) (by kernel_rfl) rfl rfl (op_append Tryz.underlying75 ti80 rfl (by decide) (lt_ rfl) rfl rfl xK xS (wcs_one _) (by omega) (by omega)) (fun _ A c => xT) fun A1 c1 => ?_
     refine W170 ?_
     refine WA.take (i := 13) rfl (by kernel_rfl) (fun _ _ _ h => h) rfl (op_fieldAddr fo77_2 (lt_ rfl) rfl) xT ?_
     refine WA.stepo (G := []) (i := 14) (by kernel_rfl) rfl rfl (op_store sz75 rfl rfl xK xL xO (by first | exact Nat.le_of_ble_eq_true rfl | (simp; omega))) (fun h => absurd rfl h) ?_
     refine W19 ?_
     refine WX.blkEq (b := bd) (dcells { D.operate.1 with pend := D.pend ++ [(i, (⟨x, hx⟩ : Sct))] } bm A1 c1) xK (by simp [dcells, pset, Value.cells]) ?_
     refine WX.ownEq (v := .slice A1 (D.pend.length + 1) c1) ((D.pend ++ [(i, (⟨x, hx⟩ : Sct))]).flatMap wcs) xK (by rw [List.flatMap_append]; simp) ?_
     rw [show D.pend.length + 1 = (D.pend ++ [(i, (⟨x, hx⟩ : Sct))]).length by simp]
     rw [write_ok h2 (by simpa using h3) hx hop]
     dsimp only
     rw [hk.1]
     refine WX.regs (L' := []) ?_
     refine W249 ?_
     refine W333 ?_
     refine W242 ?_
     exact Fin.ret1 xI ((A1, c1)) (trivial) Tryz.results73 (.tmp rfl) xT (by simp)
end Go.Proofs.YtkjlbedebmffgaaGreat.Sx
namespace Go.Proofs.YtkjlbedebmffgaaGreat.Sx
open Go.RowKit Go.Proofs.YtkjlbedebmffgaaGreat.Ty
attribute [local irreducible] blk own rd rx frameC
theorem flush_down {D : Dk} (h : D.down = true) : D.flush = (D, 28) := by simp [Dk.flush, h]
theorem flush_op {D : Dk} (h : D.down = false) (h4 : ¬ D.operate.2 = 0) : D.flush = D.operate := by simp [Dk.flush, h, h4]
theorem flush_ok {D : Dk} (h : D.down = false) (h4 : D.operate.2 = 0) : D.flush = ({ D.operate.1 with dur := applyW D.dur D.pend, pend := [] }, 0) := by simp [Dk.flush, h, h4]
theorem applyW_take {f : Int → Sct} {l : List (Int × Sct)} {i : Nat} {p : Int × Sct} (h : l[i]? = some p) : applyW f (l.take (i + 1)) = put (applyW f (l.take i)) p.1 p.2 := by
 have hlt := (List.getElem?_eq_some_iff.1 h).1
 rw [List.take_succ_eq_append_getElem hlt, (List.getElem?_eq_some_iff.1 h).2, applyW_append]
 rfl
set_option maxHeartbeats 400000 in
set_option maxRecDepth 10000 in
theorem f56_spec (bd bm : Nat) (A : Option Addr) (c : Nat) (D : Dk) (hmx : D.pend.length ≤ 1000000) :
  Spec Tryz.prog 56 [.pointer (some ⟨bd, 0, none⟩)] [blk bd (dcells D bm A c) 77, mapC bm (dmap D.dur), own (.slice A D.pend.length c) 80 257 D.pend.length (D.pend.flatMap wcs)] [] (R := Option Addr × Nat) (fun _ => True) (fun _ => .int .i64 D.flush.2) (fun q => [blk bd (dcells D.flush.1 bm q.1 q.2) 77, mapC bm (dmap D.flush.1.dur), own (.slice q.1 D.flush.1.pend.length q.2) 80 257 D.flush.1.pend.length (D.flush.1.pend.flatMap wcs)]) := by
 refine Spec.intro Tryz.func56 Tryz.ntmps56 rfl (by simp) (by simp) fun w0 => ?_
 refine W300 ?_
 refine W282 ?_
 refine W142 ?_
 refine W2 ?_
 refine WX.regs (L' := [(0, _), (7, _)]) ?_
 refine W281 ?_
 refine W282 ?_
 refine W27 ?_
 refine wlv (op_fieldAddr fo77_6 (lt_ rfl) rfl) rfl ?_
 refine W72 ?_
 refine W2 ?_
 refine WX.regs (L' := [(0, _), (11, _)]) ?_
 refine W0 ?_
 refine WC.condb rfl (fun h2 => ?_) (fun h2 => ?_)
 ·
  refine W336 ?_
  rw [flush_down h2]
  exact Fin.ret1 xI ((A, c)) (trivial) Tryz.results56 (.tmp rfl) xT (by simp)
 ·
  refine W262 ?_
  refine W328 ?_
  refine wlx (op_call (f81_spec bd bm A c D) ca81 (lt_ rfl) rfl) rfl ?_
  rintro _ _
  refine W241 ?_
  refine W84 ?_
  refine W359 ?_
  refine WX.regs (L' := [(0, _), (3, _), (15, _)]) ?_
  refine W0 ?_
  refine WC.cond rfl (fun h3 => ?_) (fun h3 => ?_)
  ·
   refine W351 ?_
   refine W260 ?_
   refine W9 ?_
   have hk := op_keep D
   rw [flush_op h2 (by omega)]
   rw [hk.1, hk.2.1]
   exact Fin.ret1 xI ((A, c)) (trivial) Tryz.results56 (.tmp rfl) xT (by simp)
  ·
   have hop : D.operate.2 = 0 := by omega
   have hk := op_keep D
   refine W262 ?_
   refine W328 ?_
   refine W27 ?_
   refine wlv (op_fieldAddr fo77_2 (lt_ rfl) rfl) rfl ?_
   refine wlv (op_load1 fl75 (lt_ rfl) rfl xM rfl) rfl ?_
   rw [hk.2.1]
   refine wlv (op_len Tryz.underlying75 (lt_ rfl) rfl) rfl ?_
   refine W272 ?_
   refine WX.blkEq (b := bd) (dcells ({ D.operate.1 with dur := applyW D.dur (D.pend.take 0) }) bm A c) xK (by show dcells D.operate.1 bm A c = _; simp only [dcells, List.take_zero]) ?_
   refine WX.regs (L' := [(0, _), (20, _), (21, _), (22, _)]) ?_
   refine W294 ?_
   refine WC.loop (X := Nat) (fun q => D.pend.length - q) (fun q => q ≤ D.pend.length) (fun q => [(0, .pointer (some ⟨bd, 0, none⟩)), (20, .slice A D.pend.length c), (21, .int .i64 (D.pend.length : Int)), (22, .int .i64 (q : Int))]) (fun q => [blk bd (dcells ({ D.operate.1 with dur := applyW D.dur (D.pend.take q) }) bm A c) 77, mapC bm (dmap (applyW D.dur (D.pend.take q))), own (.slice A D.pend.length c) 80 257 D.pend.length (D.pend.flatMap wcs), frameC w0 (MutF [blk bd (dcells D bm A c) 77, mapC bm (dmap D.dur), own (.slice A D.pend.length c) 80 257 D.pend.length (D.pend.flatMap wcs)])]) (0) (Nat.zero_le _) (fun a w hs => hs.sub xY xT) ?_
   rintro i hi
   try dsimp only
   refine W312 ?_
   refine WX.regs (L' := [(0, _), (20, _), (21, _), (22, _), (23, _)]) ?_
   refine W327 ?_
   refine WC.cond rfl (fun h4 => ?_) (fun h4 => ?_)
   ·
    refine W298 ?_
    obtain ⟨p, hp⟩ : ∃ p, D.pend[i]? = some p := ⟨D.pend[i]'(by omega), List.getElem?_eq_getElem _⟩
    have hx : ∀ k, k = i * 257 → ((D.pend.flatMap wcs).drop k).take 257 = wcs p := fun k hk => by rw [hk]; exact flat_at wcs_length D.pend i p hp
    refine wlv (op_index Tryz.underlying75 sz80 (lt_ rfl) rfl rfl (by omega) (by omega) (by decide) xS) rfl ?_
    refine wlv (op_loadSN ag80 (lt_ rfl) rfl xS (by rw [hx _ (by omega)]; exact wcs_length p) (by decide)) rfl ?_
    rw [hx _ (by omega)]
    refine wl1 (op_alloc ti80 (lt_ rfl)) rfl fun b1 => ?_
    refine wl (op_storeAll sz80 rfl rfl xK (wcs_length p) (wcs_one p) (by rfl)) rfl ?_
    refine W252 ?_
    refine WX.blkEq (b := b1) (wcs p) xK (by rfl) ?_
    refine WX.regs (L' := [(0, _), (5, _), (20, _), (21, _), (22, _)]) ?_
    refine W0 ?_
    refine W309 ?_
    refine wlv (op_fieldAddr fo80_0 (lt_ rfl) rfl) rfl ?_
    refine W21 ?_
    refine wlv (op_fieldAddr fo80_1 (lt_ rfl) rfl) rfl ?_
    refine wlv (op_loadN ag73 (lt_ rfl) rfl xM (by simp [wcs, p.2.h])) rfl ?_
    rw [show (List.drop (0 + 1) (wcs p)).take 256 = bvs p.2.s by simp only [wcs]; exact List.take_of_length_le (by simp [p.2.h])]
    refine wlx (op_call (f32_spec bd bm A c ({ D.operate.1 with dur := applyW D.dur (D.pend.take i) }) p.1 p.2) ca32 (lt_ rfl) rfl) rfl ?_
    rintro _ _
    refine W2 ?_
    dsimp only
    rw [← applyW_take hp]
    refine WX.regs (L' := [(0, _), (20, _), (21, _), (22, _)]) ?_
    refine W330 ?_
    refine WX.regs (L' := [(0, _), (20, _), (21, _), (22, _)]) ?_
    refine WX.meet (i + 1) ⟨by omega, by omega⟩ (fun a w hs => hs.sub xY xT)
   ·
    refine W264 ?_
    refine W323 ?_
    refine wlv (op_fieldAddr fo77_2 (lt_ rfl) rfl) rfl ?_
    refine wl (op_store sz75 rfl rfl xK xL xO (by first | exact Nat.le_of_ble_eq_true rfl | (simp; omega))) rfl ?_
    refine W252 ?_
    obtain rfl : i = D.pend.length := by omega
    refine WX.nilown 80 257 ?_
    refine WX.blkEq (b := bd) (dcells { D.operate.1 with dur := applyW D.dur D.pend, pend := [] } bm none 0) xK (by simp [dcells, pset, Value.cells]) ?_
    rw [List.take_length]
    rw [flush_ok h2 hop]
    dsimp only
    refine WX.regs (L' := []) ?_
    refine W311 ?_
    exact Fin.ret1 xI ((none, 0)) (trivial) Tryz.results56 (.tmp rfl) xT (by simp)
end Go.Proofs.YtkjlbedebmffgaaGreat.Sx
namespace Go.Proofs.YtkjlbedebmffgaaGreat.Sx
open Go.RowKit Go.Proofs.YtkjlbedebmffgaaGreat.Ty
attribute [local irreducible] blk own rd rx frameC
def Dk.new (n : Nat) : Dk := ⟨n, fun _ => Sct.z, [], 0, false, 0, false⟩
theorem dmap_new : (fun _ => none) = dmap (fun _ => Sct.z) := by funext i; simp [dmap]
set_option maxHeartbeats 400000 in
set_option maxRecDepth 10000 in
theorem f12_spec (n : Nat) (hn : 1 ≤ n ∧ n ≤ 4096) :
  Spec Tryz.prog 12 [.int .i64 (n : Int)] [] [] (R := Nat × Nat) (fun _ => True) (fun q => .tuple #[.pointer (some ⟨q.1, 0, none⟩), .int .i64 0]) (fun q => [blk q.1 (dcells (Dk.new n) q.2 none 0) 77, mapC q.2 (dmap (Dk.new n).dur), own (.slice none (Dk.new n).pend.length 0) 80 257 (Dk.new n).pend.length ((Dk.new n).pend.flatMap wcs)]) := by
 refine Spec.intro Tryz.func12 Tryz.ntmps12 rfl (by simp) (by simp) fun w0 => ?_
 refine W240 ?_
 refine W251 ?_
 refine W31 ?_
 refine W282 ?_
 refine W25 ?_
 refine W4 ?_
 refine WL.split (t := 6) rfl (fun g6 => ?_) (fun g6 => ?_)
 ·
  omega
 ·
  refine W13 ?_
  refine W36 ?_
  refine W285 ?_
  refine WX.regs (L' := [(0, _), (9, _)]) ?_
  refine W0 ?_
  refine WC.cond rfl (fun h1 => ?_) (fun h1 => ?_)
  ·
   omega
  ·
   refine W8 ?_
   refine W261 ?_
   refine wl1 (op_makeMap (lt_ rfl)) rfl fun b1 => ?_
   refine wlv (op_build (cs := [.int .i64 (n : Int), .map (some b1), .slice none 0 0, .int .i64 0, .bool false, .int .i64 0, .bool false]) (pv := [(0, _), (1, _)]) (lt_ rfl) rfl (by kernel_rfl)) rfl ?_
   refine wl1 (op_box (lt_ rfl) rfl rfl) rfl fun b2 => ?_
   refine W251 ?_
   refine WX.nilown 80 257 ?_
   refine WX.chEq (c := mapC b1 (fun _ => none)) (mapC b1 (dmap (fun _ => Sct.z))) xK (congrArg _ dmap_new) ?_
   refine W33 ?_
   refine W242 ?_
   exact Fin.ret2 xI ((b2, b1)) (trivial) Tryz.results12 rfl (.tmp rfl) (.tmp rfl) xT (by simp)
end Go.Proofs.YtkjlbedebmffgaaGreat.Sx
namespace Go.Proofs.YtkjlbedebmffgaaGreat.Sx
open Go.RowKit Go.Proofs.YtkjlbedebmffgaaGreat.Ty
attribute [local irreducible] blk own rd rx frameC
def Dk.check (D : Dk) (fi se : Int) : Int := if fi < 0 ∨ se < 8 ∨ se > D.n ∨ fi > D.n - se then 2 else if D.down then 28 else 0
def Dk.seen (D : Dk) (a : Int) (k : Nat) : List (List UInt8) := (List.range k).map fun i : Nat => (D.vis (a + i)).s
theorem seen_succ (D : Dk) (a : Int) (k : Nat) : D.seen a (k + 1) = D.seen a k ++ [(D.vis (a + k)).s] := by simp [Dk.seen, List.range_succ]
def putM : Dk → Int → List (List UInt8) → Dk × Int
 | D, _, [] => (D, 0)
 | D, a, s :: ss => if (D.write a s).2 = 0 then putM (D.write a s).1 (a + 1) ss else D.write a s
theorem putM_app {D : Dk} {a : Int} {ss ts : List (List UInt8)} : putM D a (ss ++ ts) = if (putM D a ss).2 = 0 then putM (putM D a ss).1 (a + ss.length) ts else putM D a ss := by
 induction ss generalizing D a with
 | nil => simp [putM]
 | cons s ss ih =>
  simp only [List.cons_append, putM]
  split
  ·rw [ih, show a + ((s :: ss).length : Nat) = a + 1 + (ss.length : Nat) by simp; omega]
  ·rfl
theorem write_keep (D : Dk) (a : Int) (s : List UInt8) : (D.write a s).1.n = D.n ∧ (D.write a s).1.dur = D.dur ∧ (D.write a s).1.pend.length ≤ D.pend.length + 1 := by
 have hk := op_keep D
 unfold Dk.write
 split
 ·exact ⟨rfl, rfl, by simp only []; omega⟩
 ·split
  ·exact ⟨rfl, rfl, by simp only []; omega⟩
  ·split
   ·split
    ·exact ⟨hk.2.2, hk.1, by simp⟩
    ·exact ⟨hk.2.2, hk.1, by rw [hk.2.1]; omega⟩
   ·exact ⟨rfl, rfl, by simp only []; omega⟩
theorem putM_len {ss : List (List UInt8)} : ∀ (D : Dk) (a : Int), (putM D a ss).1.pend.length ≤ D.pend.length + ss.length := by
 induction ss with
 | nil => intro D a; exact Nat.le_refl _
 | cons s ss ih =>
  intro D a
  have h := (write_keep D a s).2.2
  simp only [putM, List.length_cons]
  split
  ·have := ih (D.write a s).1 (a + 1); omega
  ·omega
theorem putM_keep {ss : List (List UInt8)} : ∀ (D : Dk) (a : Int), (putM D a ss).1.n = D.n ∧ (putM D a ss).1.dur = D.dur := by
 induction ss with
 | nil => intro D a; exact ⟨rfl, rfl⟩
 | cons s ss ih =>
  intro D a
  have h := write_keep D a s
  simp only [putM]
  split
  ·exact ⟨(ih _ _).1.trans h.1, (ih _ _).2.trans h.2.1⟩
  ·exact ⟨h.1, h.2.1⟩
set_option maxHeartbeats 400000 in
set_option maxRecDepth 10000 in
theorem f43_spec (bd : Nat) (fi se : Int) (h0 : 0 ≤ se) (h1 : se < 9223372036854775808) :
  Spec Tryz.prog 43 [.agg #[.pointer (some ⟨bd, 0, none⟩), .int .i64 fi, .int .i64 se]] [] [] (R := Unit) (fun _ => True) (fun _ => .int .i64 (se / 2)) (fun _ => []) := by
 refine Spec.intro Tryz.func43 Tryz.ntmps43 rfl (by simp) (by simp) fun w0 => ?_
 refine W240 ?_
 refine wl1 (op_box (lt_ rfl) rfl rfl) rfl fun b1 => ?_
 refine W358 ?_
 refine W249 ?_
 refine wlv (op_fieldAddr fo88_2 (lt_ rfl) rfl) rfl ?_
 refine W21 ?_
 refine W109 ?_
 refine W260 ?_
 exact Fin.ret1 xI (()) (trivial) Tryz.results43 (.tmp rfl) xT (by simp)
set_option maxHeartbeats 400000 in
set_option maxRecDepth 10000 in
theorem f37_spec (bd bm : Nat) (A : Option Addr) (c : Nat) (D : Dk) (fi se : Int) (hn : D.n ≤ 1000000) (hfs : -1000000000 ≤ fi ∧ fi ≤ 1000000000 ∧ -1000000000 ≤ se ∧ se ≤ 1000000000) :
  Spec Tryz.prog 37 [.agg #[.pointer (some ⟨bd, 0, none⟩), .int .i64 fi, .int .i64 se]] [blk bd (dcells D bm A c) 77] [] (R := Unit) (fun _ => True) (fun _ => .int .i64 (D.check fi se)) (fun _ => [blk bd (dcells D bm A c) 77]) := by
 refine Spec.intro Tryz.func37 Tryz.ntmps37 rfl (by simp) (by simp) fun w0 => ?_
 refine W240 ?_
 refine wl1 (op_box (lt_ rfl) rfl rfl) rfl fun b1 => ?_
 refine W358 ?_
 refine W0 ?_
 refine W254 ?_
 refine W240 ?_
 refine W316 ?_
 refine W142 ?_
 refine W241 ?_
 refine WX.regs (L' := [(1, _), (3, _)]) ?_
 refine W0 ?_
 refine W23 ?_
 refine W1 ?_
 refine WC.drawn (Hs := [blk b1 [.pointer (some ⟨bd, 0, none⟩), .int .i64 fi, .int .i64 se] 88]) mo 999 ?_
 refine WA.take (i := 0) rfl (by kernel_rfl) (fun _ _ _ h => h) rfl (op_fieldAddr fo88_1 (lt_ rfl) rfl) xT ?_
 refine WA.take (i := 1) rfl (by kernel_rfl) (fun _ _ _ h => h) rfl (op_load1 fl3 (lt_ rfl) rfl xM rfl) xT ?_
 refine WA.take (i := 2) rfl (by kernel_rfl) (fun _ _ _ h => h) rfl (op_lss (lt_ rfl) rfl rfl) xT ?_
 refine W77 ?_
 refine WA.split (t := 11) rfl (fun g11 => ?_) (fun g11 => ?_)
 ·
  refine WA.skipG (i := 4) rfl (by kernel_rfl) (fun _ _ _ h => h) rfl rfl rfl xI rfl (by decide) xT ?_
  refine WA.skipG (i := 5) rfl (by kernel_rfl) (fun _ _ _ h => h) rfl rfl rfl xI rfl (by decide) xT ?_
  refine WA.skipG (i := 6) rfl (by kernel_rfl) (fun _ _ _ h => h) rfl rfl rfl xI rfl (by decide) xT ?_
  refine WA.take (i := 7) rfl (by kernel_rfl) (fun _ _ _ h => h) rfl (op_pickT (lt_ rfl) rfl rfl) xT ?_
  refine W71 ?_
  refine WA.skipG (i := 9) rfl (by kernel_rfl) (fun _ _ _ h => h) rfl rfl rfl xI rfl (by decide) xT ?_
  refine WA.skipG (i := 10) rfl (by kernel_rfl) (fun _ _ _ h => h) rfl rfl rfl xI rfl (by decide) xT ?_
  refine WA.skipG (i := 11) rfl (by kernel_rfl) (fun _ _ _ h => h) rfl rfl rfl xI rfl (by decide) xT ?_
  refine W193 ?_
  refine W194 ?_
  refine W195 ?_
  refine WA.take (i := 15) rfl (by kernel_rfl) (fun _ _ _ h => h) rfl (op_pickT (lt_ rfl) rfl rfl) xT ?_
  refine W165 ?_
  refine W290 ?_
  refine W289 ?_
  refine W288 ?_
  refine W287 ?_
  refine W280 ?_
  refine W196 ?_
  refine W19 ?_
  refine WX.regs (L' := [(1, _), (7, _)]) ?_
  refine W362 ?_
  refine W304 ?_
  first | (rw [show D.check fi se = 2 by unfold Dk.check; rw [if_pos (by omega)]]) | (rw [show D.check fi se = 28 by unfold Dk.check; rw [if_neg (by omega), if_pos (by assumption)]]) | (rw [show D.check fi se = 0 by unfold Dk.check; rw [if_neg (by omega), if_neg (by simp_all)]])
  exact Fin.ret1 xI (()) (trivial) Tryz.results37 (.tmp rfl) xT (by simp)
 ·
  refine WA.takeG (i := 4) rfl (by kernel_rfl) (fun _ _ _ h => h) rfl rfl rfl (op_fieldAddr fo88_2 (lt_ rfl) rfl) xT ?_
  refine WA.takeG (i := 5) rfl (by kernel_rfl) (fun _ _ _ h => h) rfl rfl rfl (op_load1 fl3 (lt_ rfl) rfl xM rfl) xT ?_
  refine WA.takeG (i := 6) rfl (by kernel_rfl) (fun _ _ _ h => h) rfl rfl rfl (op_lss (lt_ rfl) rfl rfl) xT ?_
  refine WA.take (i := 7) rfl (by kernel_rfl) (fun _ _ _ h => h) rfl (op_pickF (lt_ rfl) rfl rfl) xT ?_
  refine W71 ?_
  refine WA.split (t := 16) rfl (fun g16 => ?_) (fun g16 => ?_)
  ·
   refine WA.skipG (i := 9) rfl (by kernel_rfl) (fun _ _ _ h => h) rfl rfl rfl xI rfl (by decide) xT ?_
   refine WA.skipG (i := 10) rfl (by kernel_rfl) (fun _ _ _ h => h) rfl rfl rfl xI rfl (by decide) xT ?_
   refine WA.skipG (i := 11) rfl (by kernel_rfl) (fun _ _ _ h => h) rfl rfl rfl xI rfl (by decide) xT ?_
   refine W193 ?_
   refine W194 ?_
   refine W195 ?_
   refine WA.take (i := 15) rfl (by kernel_rfl) (fun _ _ _ h => h) rfl (op_pickT (lt_ rfl) rfl rfl) xT ?_
   refine W165 ?_
   refine W290 ?_
   refine W289 ?_
   refine W288 ?_
   refine W287 ?_
   refine W280 ?_
   refine W196 ?_
   refine W19 ?_
   refine WX.regs (L' := [(1, _), (7, _)]) ?_
   refine W362 ?_
   refine W304 ?_
   first | (rw [show D.check fi se = 2 by unfold Dk.check; rw [if_pos (by omega)]]) | (rw [show D.check fi se = 28 by unfold Dk.check; rw [if_neg (by omega), if_pos (by assumption)]]) | (rw [show D.check fi se = 0 by unfold Dk.check; rw [if_neg (by omega), if_neg (by simp_all)]])
   exact Fin.ret1 xI (()) (trivial) Tryz.results37 (.tmp rfl) xT (by simp)
  ·
   refine WA.takeG (i := 9) rfl (by kernel_rfl) (fun _ _ _ h => h) rfl rfl rfl (op_fieldAddr fo88_2 (lt_ rfl) rfl) xT ?_
   refine WA.takeG (i := 10) rfl (by kernel_rfl) (fun _ _ _ h => h) rfl rfl rfl (op_load1 fl3 (lt_ rfl) rfl xM rfl) xT ?_
   refine WA.takeG (i := 11) rfl (by kernel_rfl) (fun _ _ _ h => h) rfl rfl rfl (op_fieldAddr fo88_0 (lt_ rfl) rfl) xT ?_
   refine WA.takeG (i := 12) rfl (by kernel_rfl) (fun _ _ _ h => h) rfl rfl rfl (op_load1 fl34 (lt_ rfl) rfl xM rfl) xT ?_
   refine WA.stepGx (i := 13) (by kernel_rfl) rfl rfl rfl rfl (op_call (f60_spec bd bm A c D) ca60 (lt_ rfl) rfl) (fun _ r => xT) ?_
   rintro _ _
   refine WA.takeG (i := 14) rfl (by kernel_rfl) (fun _ _ _ h => h) rfl rfl rfl (op_gtr (lt_ rfl) rfl rfl) xT ?_
   refine WA.take (i := 15) rfl (by kernel_rfl) (fun _ _ _ h => h) rfl (op_pickF (lt_ rfl) rfl rfl) xT ?_
   refine W165 ?_
   refine WA.split (t := 24) rfl (fun g24 => ?_) (fun g24 => ?_)
   ·
    refine W290 ?_
    refine W289 ?_
    refine W288 ?_
    refine W287 ?_
    refine W280 ?_
    refine W196 ?_
    refine W19 ?_
    refine WX.regs (L' := [(1, _), (7, _)]) ?_
    refine W362 ?_
    refine W304 ?_
    first | (rw [show D.check fi se = 2 by unfold Dk.check; rw [if_pos (by omega)]]) | (rw [show D.check fi se = 28 by unfold Dk.check; rw [if_neg (by omega), if_pos (by assumption)]]) | (rw [show D.check fi se = 0 by unfold Dk.check; rw [if_neg (by omega), if_neg (by simp_all)]])
    exact Fin.ret1 xI (()) (trivial) Tryz.results37 (.tmp rfl) xT (by simp)
   ·
    refine WA.takeG (i := 17) rfl (by kernel_rfl) (fun _ _ _ h => h) rfl rfl rfl (op_fieldAddr fo88_1 (lt_ rfl) rfl) xT ?_
    refine WA.takeG (i := 18) rfl (by kernel_rfl) (fun _ _ _ h => h) rfl rfl rfl (op_load1 fl3 (lt_ rfl) rfl xM rfl) xT ?_
    refine WA.takeG (i := 19) rfl (by kernel_rfl) (fun _ _ _ h => h) rfl rfl rfl (op_fieldAddr fo88_0 (lt_ rfl) rfl) xT ?_
    refine WA.takeG (i := 20) rfl (by kernel_rfl) (fun _ _ _ h => h) rfl rfl rfl (op_load1 fl34 (lt_ rfl) rfl xM rfl) xT ?_
    refine WA.takeG (i := 22) rfl (by kernel_rfl) (fun _ _ _ h => h) rfl rfl rfl (op_fieldAddr fo88_2 (lt_ rfl) rfl) xT ?_
    refine WA.takeG (i := 23) rfl (by kernel_rfl) (fun _ _ _ h => h) rfl rfl rfl (op_load1 fl3 (lt_ rfl) rfl xM rfl) xT ?_
    refine WA.stepGx (i := 21) (by kernel_rfl) rfl rfl rfl rfl (op_call (f60_spec bd bm A c D) ca60 (lt_ rfl) rfl) (fun _ r => xT) ?_
    rintro _ _
    refine WA.takeG (i := 24) rfl (by kernel_rfl) (fun _ _ _ h => h) rfl rfl rfl (op_sub (lt_ rfl) rfl rfl (by omega)) xT ?_
    refine WA.takeG (i := 25) rfl (by kernel_rfl) (fun _ _ _ h => h) rfl rfl rfl (op_gtr (lt_ rfl) rfl rfl) xT ?_
    refine WA.take (i := 26) rfl (by kernel_rfl) (fun _ _ _ h => h) rfl (op_pickF (lt_ rfl) rfl rfl) xT ?_
    refine W196 ?_
    refine W19 ?_
    refine WX.regs (L' := [(1, _), (7, _)]) ?_
    refine W0 ?_
    refine WC.cond rfl (fun h2 => ?_) (fun h2 => ?_)
    ·
     refine W304 ?_
     first | (rw [show D.check fi se = 2 by unfold Dk.check; rw [if_pos (by omega)]]) | (rw [show D.check fi se = 28 by unfold Dk.check; rw [if_neg (by omega), if_pos (by assumption)]]) | (rw [show D.check fi se = 0 by unfold Dk.check; rw [if_neg (by omega), if_neg (by simp_all)]])
     exact Fin.ret1 xI (()) (trivial) Tryz.results37 (.tmp rfl) xT (by simp)
    ·
     refine W240 ?_
     refine W316 ?_
     refine wlx (op_call (f61_spec bd bm A c D) ca61 (lt_ rfl) rfl) rfl ?_
     rintro _ _
     refine W241 ?_
     refine WX.regs (L' := [(35, _)]) ?_
     refine W0 ?_
     refine WC.condb rfl (fun h3 => ?_) (fun h3 => ?_)
     ·
      refine W304 ?_
      first | (rw [show D.check fi se = 2 by unfold Dk.check; rw [if_pos (by omega)]]) | (rw [show D.check fi se = 28 by unfold Dk.check; rw [if_neg (by omega), if_pos (by assumption)]]) | (rw [show D.check fi se = 0 by unfold Dk.check; rw [if_neg (by omega), if_neg (by simp_all)]])
      exact Fin.ret1 xI (()) (trivial) Tryz.results37 (.tmp rfl) xT (by simp)
     ·
      refine W291 ?_
      refine W311 ?_
      first | (rw [show D.check fi se = 2 by unfold Dk.check; rw [if_pos (by omega)]]) | (rw [show D.check fi se = 28 by unfold Dk.check; rw [if_neg (by omega), if_pos (by assumption)]]) | (rw [show D.check fi se = 0 by unfold Dk.check; rw [if_neg (by omega), if_neg (by simp_all)]])
      exact Fin.ret1 xI (()) (trivial) Tryz.results37 (.tmp rfl) xT (by simp)
set_option maxHeartbeats 400000 in
set_option maxRecDepth 10000 in
theorem f62_spec (bd bm : Nat) (A : Option Addr) (c : Nat) (D : Dk) (fi se fr : Int) (k : Nat) (hk : k ≤ 1000000) (hdn : D.down = false) (hfr : 0 ≤ fi ∧ 0 ≤ fr ∧ fi + fr + k ≤ D.n) (hn : D.n ≤ 1000000) (hmx : D.pend.length ≤ 1000000) :
  Spec Tryz.prog 62 [.agg #[.pointer (some ⟨bd, 0, none⟩), .int .i64 fi, .int .i64 se], .int .i64 fr, .int .i64 (k : Int)] [blk bd (dcells D bm A c) 77, mapC bm (dmap D.dur), own (.slice A D.pend.length c) 80 257 D.pend.length (D.pend.flatMap wcs)] [] (R := Option Addr × Nat × List Bs) (fun q => q.2.2.map Bs.s = D.seen (fi + fr) k) (fun q => .tuple #[.slice q.1 q.2.2.length q.2.1, .int .i64 0])
   (fun q => [blk bd (dcells D bm A c) 77, mapC bm (dmap D.dur), own (.slice A D.pend.length c) 80 257 D.pend.length (D.pend.flatMap wcs), own (.slice q.1 q.2.2.length q.2.1) 30 1 q.2.2.length (q.2.2.map Bs.v), rowsC true q.2.2]) := by
 refine Spec.intro Tryz.func62 Tryz.ntmps62 rfl (by simp) (by simp) fun w0 => ?_
 refine W240 ?_
 refine wl1 (op_box (lt_ rfl) rfl rfl) rfl fun b1 => ?_
 refine W251 ?_
 refine WX.regs (L' := [(1, _), (2, _), (3, _)]) ?_
 refine W249 ?_
 refine W241 ?_
 refine WX.regs (L' := [(1, _), (2, _), (3, _), (8, _)]) ?_
 refine W269 ?_
 refine W244 ?_
 refine W2 ?_
 refine WX.regs (L' := [(1, _), (3, _), (8, _), (12, _), (13, _)]) ?_
 refine W294 ?_
 refine W293 ?_
 refine WC.loop (X := Nat × List Bs × Option Addr × Nat) (fun q => k - q.1) (fun q => q.1 ≤ k ∧ q.2.1.map Bs.s = D.seen (fi + fr) q.1) (fun q => [(1, .int .i64 fr), (3, .pointer (some ⟨b1, 0, none⟩)), (8, .slice q.2.2.1 q.2.1.length q.2.2.2), (12, .int .i64 (k : Int)), (13, .int .i64 (q.1 : Int))]) (fun q => [own (.slice q.2.2.1 q.2.1.length q.2.2.2) 30 1 q.2.1.length (q.2.1.map Bs.v), rowsC true q.2.1, blk b1 [.pointer (some ⟨bd, 0, none⟩), .int .i64 fi, .int .i64 se] 88, blk bd (dcells D bm A c) 77, mapC bm (dmap D.dur), own (.slice A D.pend.length c) 80 257 D.pend.length (D.pend.flatMap wcs), frameC w0 (MutF [blk bd (dcells D bm A c) 77, mapC bm (dmap D.dur), own (.slice A D.pend.length c) 80 257 D.pend.length (D.pend.flatMap wcs)])]) ((0, [], none, 0)) (⟨Nat.zero_le _, rfl⟩) (fun a w hs => hs.sub xY xT) ?_
 rintro ⟨i, rs, Ao, co⟩ ⟨hi, hrs⟩
 try dsimp only at hi hrs ⊢
 have hlen : rs.length = i := by have := congrArg List.length hrs; simpa [Dk.seen] using this
 refine W312 ?_
 refine WX.regs (L' := [(1, _), (3, _), (8, _), (12, _), (13, _), (14, _)]) ?_
 refine W327 ?_
 refine WC.cond rfl (fun h1 => ?_) (fun h1 => ?_)
 ·
  refine W298 ?_
  refine W4 ?_
  refine W241 ?_
  refine WX.regs (L' := [(1, _), (3, _), (8, _), (9, _), (12, _), (13, _)]) ?_
  refine W249 ?_
  refine W316 ?_
  refine wlv (op_fieldAddr fo88_1 (lt_ rfl) rfl) rfl ?_
  refine W21 ?_
  refine W4 ?_
  refine W16 ?_
  refine W4 ?_
  refine W16 ?_
  refine wlx (op_call (f86_spec bd bm A c D (fi + fr + i) hmx) ca86 (lt_ rfl) rfl) rfl ?_
  rintro ⟨Ab, cb, lb, eb⟩ heb
  dsimp only at heb
  rw [read_ok hdn (by omega), Prod.mk.injEq] at heb
  obtain ⟨hlb, rfl⟩ := heb
  dsimp only
  refine W341 ?_
  refine WX.regs (L' := [(1, _), (3, _), (8, _), (10, _), (11, _), (12, _), (13, _)]) ?_
  refine W332 ?_
  refine WX.regs (L' := [(1, _), (3, _), (8, _), (10, _), (11, _), (12, _), (13, _), (29, _)]) ?_
  refine W0 ?_
  refine WC.cond rfl (fun h2 => ?_) (fun h2 => ?_)
  ·
   exact absurd rfl h2
  ·
   refine W262 ?_
   refine W334 ?_
   refine wl1 (op_lit1 Tryz.underlying36 ti30 rfl (by decide) (lt_ rfl) rfl rfl) rfl fun b2 => ?_
   refine wl2 (op_append Tryz.underlying36 ti30 rfl (by decide) (lt_ rfl) rfl rfl xK xS (by rfl) (by omega) (by omega)) rfl fun A1 c1 => ?_
   refine W241 ?_
   refine WX.regs (L' := [(1, _), (3, _), (8, _), (12, _), (13, _)]) ?_
   refine W330 ?_
   refine WX.regs (L' := [(1, _), (3, _), (8, _), (12, _), (13, _)]) ?_
   refine WX.ownEq (v := .slice A1 (rs.length + 1) c1) ((rs ++ [(⟨Ab, cb, lb⟩ : Bs)]).map Bs.v) xK (map_push rs ⟨Ab, cb, lb⟩) ?_
   refine WX.merge2 (c1 := rowsC true rs) (c2 := rx (.slice Ab lb.length cb) 1 lb.length (bvs lb)) (d := rowsC true (rs ++ [⟨Ab, cb, lb⟩])) xK xK (rowsC_snoc (rx_le_bs rfl) (fun _ => by simp)) ?_
   rw [len_push rs ⟨Ab, cb, lb⟩]
   refine WX.meet ((i + 1, rs ++ [⟨Ab, cb, lb⟩], A1, c1)) ⟨⟨by simp only []; omega, by rw [seen_succ, ← hrs, List.map_append, ← hlb]; rfl⟩, by simp only []; omega⟩ (fun a w hs => hs.sub xY xT)
 ·
  refine W264 ?_
  refine W261 ?_
  refine W251 ?_
  refine WX.regs (L' := [(6, _), (7, _)]) ?_
  refine W242 ?_
  exact Fin.ret2 xI ((Ao, co, rs)) (by rw [hrs, show i = k by omega]) Tryz.results62 rfl (.tmp rfl) (.tmp rfl) xT (by simp)
set_option maxHeartbeats 400000 in
set_option maxRecDepth 10000 in
theorem f47_spec (bd bm : Nat) (A : Option Addr) (c : Nat) (D : Dk) (fi se po : Int) (AR : Option Addr) (M cR : Nat) (rs : List Bs) (hM : rs.length = M) (hfp : -1000000000 ≤ fi ∧ fi ≤ 1000000000 ∧ -1000000000 ≤ po ∧ po ≤ 1000000000) (hmx : D.pend.length + M ≤ 1000000) :
  Spec Tryz.prog 47 [.agg #[.pointer (some ⟨bd, 0, none⟩), .int .i64 fi, .int .i64 se], .int .i64 po, .slice AR M cR] [blk bd (dcells D bm A c) 77, mapC bm (dmap D.dur), own (.slice A D.pend.length c) 80 257 D.pend.length (D.pend.flatMap wcs)] [rd (.slice AR M cR) 1 M (rs.map Bs.v), rowsC false rs] (R := Option Addr × Nat) (fun _ => True) (fun _ => .int .i64 (putM D (fi + po) (rs.map Bs.s)).2)
   (fun q => [blk bd (dcells (putM D (fi + po) (rs.map Bs.s)).1 bm q.1 q.2) 77, mapC bm (dmap (putM D (fi + po) (rs.map Bs.s)).1.dur), own (.slice q.1 (putM D (fi + po) (rs.map Bs.s)).1.pend.length q.2) 80 257 (putM D (fi + po) (rs.map Bs.s)).1.pend.length ((putM D (fi + po) (rs.map Bs.s)).1.pend.flatMap wcs)]) := by
 refine Spec.intro Tryz.func47 Tryz.ntmps47 rfl (by simp) (by simp) fun w0 => ?_
 refine W240 ?_
 refine wl1 (op_box (lt_ rfl) rfl rfl) rfl fun b1 => ?_
 refine W241 ?_
 refine WX.regs (L' := [(1, _), (2, _), (3, _)]) ?_
 refine W282 ?_
 refine W40 ?_
 refine W272 ?_
 refine WX.regs (L' := [(1, _), (3, _), (10, _), (11, _), (12, _)]) ?_
 refine W294 ?_
 refine WC.loop (X := Nat × Option Addr × Nat) (fun q => M - q.1) (fun q => q.1 ≤ M ∧ (putM D (fi + po) ((rs.map Bs.s).take q.1)).2 = 0) (fun q => [(1, .int .i64 po), (3, .pointer (some ⟨b1, 0, none⟩)), (10, .slice AR M cR), (11, .int .i64 (M : Int)), (12, .int .i64 (q.1 : Int))]) (fun q => [blk bd (dcells (putM D (fi + po) ((rs.map Bs.s).take q.1)).1 bm q.2.1 q.2.2) 77, mapC bm (dmap (putM D (fi + po) ((rs.map Bs.s).take q.1)).1.dur), own (.slice q.2.1 (putM D (fi + po) ((rs.map Bs.s).take q.1)).1.pend.length q.2.2) 80 257 (putM D (fi + po) ((rs.map Bs.s).take q.1)).1.pend.length ((putM D (fi + po) ((rs.map Bs.s).take q.1)).1.pend.flatMap wcs), blk b1 [.pointer (some ⟨bd, 0, none⟩), .int .i64 fi, .int .i64 se] 88, rd (.slice AR M cR) 1 M (rs.map Bs.v), rowsC false rs, frameC w0 (MutF [blk bd (dcells D bm A c) 77, mapC bm (dmap D.dur), own (.slice A D.pend.length c) 80 257 D.pend.length (D.pend.flatMap wcs)])]) ((0, A, c)) (⟨Nat.zero_le _, rfl⟩) (fun a w hs => hs.sub xY xT) ?_
 rintro ⟨i, Ac, cc⟩ ⟨hi, hz⟩
 try dsimp only at hi hz ⊢
 refine W312 ?_
 refine WX.regs (L' := [(1, _), (3, _), (10, _), (11, _), (12, _), (13, _)]) ?_
 refine W327 ?_
 refine WC.cond rfl (fun h1 => ?_) (fun h1 => ?_)
 ·
  refine W298 ?_
  obtain ⟨ri, hri⟩ : ∃ r, rs[i]? = some r := ⟨rs[i]'(by omega), List.getElem?_eq_getElem _⟩
  have hmi : ri ∈ rs := List.mem_of_getElem? hri
  have hstep : putM D (fi + po) ((rs.map Bs.s).take (i + 1)) = (putM D (fi + po) ((rs.map Bs.s).take i)).1.write (fi + po + i) ri.s := by
   rw [List.take_succ_eq_append_getElem (by rw [List.length_map]; omega), putM_app, if_pos hz]
   have hl : ((rs.map Bs.s).take i).length = i := by rw [List.length_take, List.length_map]; omega
   have hg : (rs.map Bs.s)[i]'(by rw [List.length_map]; omega) = ri.s := by simp [(List.getElem?_eq_some_iff.1 hri).2]
   rw [hl, hg]
   simp only [putM]
   split
   ·rename_i h0
    exact Prod.ext rfl h0.symm
   ·rfl
  refine WL.dup (c := rowsC false rs) (d := rd (.slice ri.A ri.s.length ri.c) 1 ri.s.length (bvs ri.s)) xM rfl (by simp) (rowsC_get (r := ri) hmi) ?_
  refine W4 ?_
  refine wlv (op_index Tryz.underlying36 sz30 (lt_ rfl) rfl rfl (by omega) (by omega) (by decide) (Src.rd (xs := rs.map Bs.v) xM)) rfl ?_
  refine wlv (op_loadS fl30 (lt_ rfl) rfl (Src.rd (xs := rs.map Bs.v) xM) (rows_at' hri (by omega))) rfl ?_
  refine W251 ?_
  refine WX.regs (L' := [(1, _), (3, _), (7, _), (8, _), (10, _), (11, _), (12, _)]) ?_
  refine W249 ?_
  refine W316 ?_
  refine wlv (op_fieldAddr fo88_1 (lt_ rfl) rfl) rfl ?_
  refine W21 ?_
  refine W4 ?_
  refine W16 ?_
  refine W4 ?_
  refine W16 ?_
  refine W4 ?_
  refine wlx (op_call (f73_spec bd bm Ac cc (putM D (fi + po) ((rs.map Bs.s).take i)).1 (fi + po + i) ri.A ri.s.length ri.c ri.s rfl (by have := putM_len (ss := (rs.map Bs.s).take i) D (fi + po); simp only [List.length_take, List.length_map] at this; omega)) ca73 (lt_ rfl) rfl) rfl ?_
  rintro ⟨A2, c2⟩ _
  refine W241 ?_
  refine WX.regs (L' := [(1, _), (3, _), (9, _), (10, _), (11, _), (12, _)]) ?_
  refine W359 ?_
  refine WX.regs (L' := [(1, _), (3, _), (9, _), (10, _), (11, _), (12, _), (28, _)]) ?_
  refine W0 ?_
  refine WC.cond rfl (fun h2 => ?_) (fun h2 => ?_)
  ·
   refine W351 ?_
   refine W333 ?_
   refine W275 ?_
   refine W315 ?_
   have hend : putM D (fi + po) (rs.map Bs.s) = (putM D (fi + po) ((rs.map Bs.s).take i)).1.write (fi + po + i) ri.s := by
    conv => lhs; rw [← List.take_append_drop (i + 1) (rs.map Bs.s)]
    rw [putM_app, if_neg (by rw [hstep]; omega), hstep]
   rw [hend]
   exact Fin.ret1 xI ((A2, c2)) (trivial) Tryz.results47 (.tmp rfl) xT (by simp)
  ·
   refine W291 ?_
   refine W0 ?_
   refine W286 ?_
   refine WX.regs (L' := [(1, _), (3, _), (10, _), (11, _), (12, _)]) ?_
   rw [← hstep]
   refine WX.meet ((i + 1, A2, c2)) ⟨⟨by simp only []; omega, by rw [hstep]; omega⟩, by simp only []; omega⟩ (fun a w hs => hs.sub xY xT)
 ·
  refine W284 ?_
  refine W333 ?_
  refine W242 ?_
  obtain rfl : i = M := by omega
  have hall : (rs.map Bs.s).take i = rs.map Bs.s := List.take_of_length_le (by rw [List.length_map]; omega)
  rw [hall] at hz
  rw [hz, hall]
  exact Fin.ret1 xI ((Ac, cc)) (trivial) Tryz.results47 (.tmp rfl) xT (by simp)
end Go.Proofs.YtkjlbedebmffgaaGreat.Sx
namespace Go.Proofs.YtkjlbedebmffgaaGreat.Sx
open Go.RowKit Go.Proofs.YtkjlbedebmffgaaGreat.Ty
attribute [local irreducible] blk own rd rx frameC
structure Jn where
 (fi se cur gen first used synced failed : Int)
def jcells (J : Jn) (bd : Nat) (A : Option Addr) (m c : Nat) : List Value := [.pointer (some ⟨bd, 0, none⟩), .int .i64 J.fi, .int .i64 J.se, .int .i64 J.cur, .int .i64 J.gen, .int .i64 J.first, .slice A m c, .int .i64 J.used, .int .i64 J.synced, .int .i64 J.failed]
def wcur (n i : Nat) : List UInt8 := (be n 8).take i ++ List.replicate (8 - i) 0
theorem wcur_length {n i : Nat} (h : i ≤ 8) : (wcur n i).length = 8 := by simp [wcur]; omega
theorem wcur_set {n i : Nat} (h : i < 8) : (wcur n i).set i (UInt8.ofNat (n / 256 ^ (7 - i))) = wcur n (i + 1) := by
 have hl : ((be n 8).take i).length = i := by simp; omega
 unfold wcur
 rw [be_take n 8 i h, show 8 - i = (8 - (i + 1)) + 1 by omega, List.replicate_succ, List.set_append, if_neg (by omega), hl, Nat.sub_self, List.set_cons_zero, List.append_assoc]
 rfl
theorem bvs_rep0 (k : Nat) : (List.replicate k (Value.int .u8 0)) = bvs (List.replicate k 0) := by simp [bvs, bv]
theorem small_len {m : Nat} (h : m ≤ 1000000) : m ≤ maxLen := Nat.le_trans h (by decide)
theorem tw_step {ks : List Int} {i : Nat} (h : i < ks.length) (hi : i ≤ (ks.takeWhile (· == 2)).length) : (ks.takeWhile (· == 2)).length = i ∧ ¬ ks.getD i 0 = 2 ∨ ks.getD i 0 = 2 ∧ i + 1 ≤ (ks.takeWhile (· == 2)).length := by
 induction ks generalizing i with
 | nil => simp at h
 | cons k ks ih =>
  by_cases hk : k = 2
  ·subst hk
   cases i with
   | zero => right; simp
   | succ i =>
    have hi' : i ≤ (ks.takeWhile (· == 2)).length := by simpa using hi
    rcases ih (by simpa using h) hi' with ⟨h1, h2⟩ | ⟨h1, h2⟩
    ·left; refine ⟨by simp [h1], by simpa using h2⟩
    ·right; refine ⟨by simpa using h1, by simpa using h2⟩
  ·have hk' : (k == (2 : Int)) = false := by simpa using hk
   have hz : ((k :: ks).takeWhile (· == 2)) = [] := by simp [hk']
   rw [hz] at hi ⊢
   have : i = 0 := by simpa using hi
   subst this
   left
   exact ⟨rfl, by simpa using hk⟩
theorem rows_one (rs : List Bs) : (rs.map Bs.v).all (·.oneCell') = true := by
 rw [List.all_eq_true]
 intro x hx
 rw [List.mem_map] at hx
 obtain ⟨r, _, rfl⟩ := hx
 rfl
theorem tw_le (ks : List Int) : (ks.takeWhile (· == 2)).length ≤ ks.length := (List.takeWhile_sublist _).length_le
set_option maxHeartbeats 400000 in
set_option maxRecDepth 10000 in
theorem f64_spec (n : Nat) (hn : n < 9223372036854775808) :
  Spec Tryz.prog 64 [.int .i64 (n : Int)] [] [] (R := Nat) (fun _ => True) (fun r => .slice (some ⟨r, 0, none⟩) 8 8) (fun r => [own (.slice (some ⟨r, 0, none⟩) 8 8) 5 1 8 (bvs (be n 8))]) := by
 refine Spec.intro Tryz.func64 Tryz.ntmps64 rfl (by simp) (by simp) fun w0 => ?_
 refine W300 ?_
 refine W249 ?_
 refine wl1 (op_make (z1 := (.int .u8 0)) (sz := 1) (zero := []) Tryz.underlying30 ti5 (lt_ rfl) rfl rfl (by omega) (by omega) (by omega) (by omega)) rfl fun b1 => ?_
 refine WL.blkEq (b := b1) (bvs (wcur n 0)) xK (by simp only [wcur, List.take_zero, List.nil_append]; exact bvs_rep0 8) ?_
 refine WL.turn (c := blk b1 (bvs (wcur n 0)) 5) (d := own (.slice (some ⟨b1, 0, none⟩) 8 8) 5 1 8 (bvs (wcur n 0))) xK (own_le_blk (by rw [bvs_length, wcur_length (by omega)]) (small_len (by omega))) ?_
 refine W241 ?_
 refine W84 ?_
 refine W282 ?_
 refine W38 ?_
 refine W272 ?_
 refine WX.regs (L' := [(0, _), (3, _), (7, _), (8, _)]) ?_
 refine W294 ?_
 refine WC.loop (X := Nat) (fun q => 8 - q) (fun q => q ≤ 8) (fun q => [(0, .int .i64 (n : Int)), (3, .slice (some ⟨b1, 0, none⟩) 8 8), (7, .int .i64 8), (8, .int .i64 (q : Int))]) (fun q => [own (.slice (some ⟨b1, 0, none⟩) 8 8) 5 1 8 (bvs (wcur n q)), frameC w0 (MutF [])]) (0) (by omega) (fun a w hs => hs.sub xY xT) ?_
 rintro i hi
 try dsimp only
 refine W312 ?_
 refine WX.regs (L' := [(0, _), (3, _), (7, _), (8, _), (9, _)]) ?_
 refine W327 ?_
 refine WC.cond rfl (fun h1 => ?_) (fun h1 => ?_)
 ·
  refine W298 ?_
  refine W4 ?_
  refine W241 ?_
  refine WX.regs (L' := [(0, _), (3, _), (4, _), (7, _), (8, _)]) ?_
  refine W0 ?_
  refine W334 ?_
  refine W244 ?_
  refine W94 ?_
  refine W73 ?_
  refine wlv (op_shri (lt_ rfl) rfl rfl (by omega)) rfl ?_
  refine W221 ?_
  refine W110 ?_
  refine wl (op_storeS sz5 rfl rfl xK rfl rfl (by rw [bvs_length, wcur_length (by omega)]; omega) (by decide)) rfl ?_
  refine W252 ?_
  refine WX.ownEq (v := .slice (some ⟨b1, 0, none⟩) 8 8) (bvs (wcur n (i + 1))) xK (by have e2 : (2 : Nat) ^ (8 * (7 - (i : Int))).toNat = 256 ^ (7 - i) := (by rw [show (8 * (7 - (i : Int))).toNat = 8 * (7 - i) by omega, Nat.pow_mul]); rw [e2, ← Int.natCast_ediv, Int.toNat_natCast, ← wcur_set (by omega)]; exact bvs_put (by omega) (by rw [wcur_length (by omega)]; omega)) ?_
  refine WX.regs (L' := [(0, _), (3, _), (7, _), (8, _)]) ?_
  refine W330 ?_
  refine WX.regs (L' := [(0, _), (3, _), (7, _), (8, _)]) ?_
  refine WX.meet (i + 1) ⟨by omega, by omega⟩ (fun a w hs => hs.sub xY xT)
 ·
  refine W264 ?_
  refine W261 ?_
  refine W260 ?_
  obtain rfl : i = 8 := by omega
  rw [show wcur n 8 = be n 8 by simp [wcur, List.take_of_length_le]]
  exact Fin.ret1 xI (b1) (trivial) Tryz.results64 (.tmp rfl) xT (by simp)
set_option maxHeartbeats 400000 in
set_option maxRecDepth 10000 in
theorem f66_spec (A : Option Addr) (c : Nat) (bs : List UInt8) (hb : bs.length = 8) :
  Spec Tryz.prog 66 [.slice A 8 c] [] [rd (.slice A 8 c) 1 8 (bvs bs)] (R := Unit) (fun _ => True) (fun _ => .tuple #[.int .i64 ((min (vl bs) 2147483647 : Nat) : Int), .bool (decide (vl bs ≤ 2147483647))]) (fun _ => []) := by
 refine Spec.intro Tryz.func66 Tryz.ntmps66 rfl (by simp) (by simp) fun w0 => ?_
 refine W240 ?_
 refine W251 ?_
 refine W31 ?_
 refine W249 ?_
 refine W241 ?_
 refine W79 ?_
 refine W282 ?_
 refine W38 ?_
 refine W272 ?_
 refine WX.regs (L' := [(4, _), (7, _), (8, _), (9, _)]) ?_
 refine W294 ?_
 refine WC.loop (X := Nat) (fun q => 8 - q) (fun q => q ≤ 8) (fun q => [(4, .int .u64 ((vl (bs.take q) : Nat) : Int)), (7, .slice A 8 c), (8, .int .i64 8), (9, .int .i64 (q : Int))]) (fun q => [rd (.slice A 8 c) 1 8 (bvs bs), frameC w0 (MutF [])]) (0) (by omega) (fun a w hs => hs.sub xY xT) ?_
 rintro i hi
 try dsimp only
 refine W312 ?_
 refine WX.regs (L' := [(4, _), (7, _), (8, _), (9, _), (10, _)]) ?_
 refine W327 ?_
 refine WC.cond rfl (fun h1 => ?_) (fun h1 => ?_)
 ·
  refine W298 ?_
  have hvl : vl (bs.take i) < 256 ^ 7 := Nat.lt_of_lt_of_le (vl_lt _) (Nat.pow_le_pow_right (by decide) (by rw [List.length_take]; omega))
  have hc := (bs.getD i 0).toNat_lt
  refine W318 ?_
  refine W241 ?_
  refine WX.regs (L' := [(4, _), (6, _), (7, _), (8, _), (9, _)]) ?_
  refine W0 ?_
  refine W309 ?_
  refine wlv (op_shl8u (lt_ rfl) rfl rfl (by omega)) rfl ?_
  refine W4 ?_
  refine wlv (op_conv8u (by kernel_rfl) Tryz.underlying168 (lt_ rfl) rfl) rfl ?_
  refine wlv (op_or8u (lt_ rfl) rfl rfl (by omega)) rfl ?_
  refine W241 ?_
  refine WX.regs (L' := [(4, _), (7, _), (8, _), (9, _)]) ?_
  refine W330 ?_
  refine WX.regs (L' := [(4, _), (7, _), (8, _), (9, _)]) ?_
  rw [← vl_step bs i (by omega)]
  refine WX.meet (i + 1) ⟨by omega, by omega⟩ (fun a w hs => hs.sub xY xT)
 ·
  obtain rfl : i = 8 := by omega
  rw [show bs.take 8 = bs from List.take_of_length_le (by omega)]
  refine W264 ?_
  refine W261 ?_
  refine wlv (op_minN (a := vl bs) (b := 2147483647) (lt_ rfl) rfl rfl) rfl ?_
  refine wlv (op_convu64i (by kernel_rfl) Tryz.underlying3 (lt_ rfl) rfl (by omega)) rfl ?_
  refine W4 ?_
  refine wlv (op_leq (lt_ rfl) rfl rfl) rfl ?_
  refine W251 ?_
  refine W33 ?_
  refine W242 ?_
  have ed : decide (vl bs ≤ 2147483647) = decide (((vl bs : Nat) : Int) ≤ 2147483647) := decide_eq_decide.2 (by omega)
  rw [ed]
  exact Fin.ret2 xI (()) (trivial) Tryz.results66 rfl (.tmp rfl) (.tmp rfl) xT (by simp)
set_option maxHeartbeats 400000 in
set_option maxRecDepth 10000 in
theorem f42_spec (A : Option Addr) (m c : Nat) (bs : List UInt8) (hm : bs.length = m) (hmx : m ≤ 140737488355328) :
  Spec Tryz.prog 42 [.slice A m c] [] [rd (.slice A m c) 1 m (bvs bs)] (R := Option Addr × Nat) (fun _ => True) (fun r => .slice r.1 m r.2) (fun r => [own (.slice r.1 m r.2) 5 1 m (bvs bs)]) := by
 refine Spec.intro Tryz.func42 Tryz.ntmps42 rfl (by simp) (by simp) fun w0 => ?_
 refine W300 ?_
 refine W282 ?_
 refine wlv (op_eqlsnil Tryz.underlying30 (lt_ rfl) rfl rfl) rfl ?_
 refine W2 ?_
 refine W79 ?_
 refine W0 ?_
 refine WC.cond rfl (fun h1 => ?_) (fun h1 => ?_)
 ·
  subst h1
  refine WC.none0 xS (by decide) (fun hm0 => ?_)
  subst hm0
  obtain rfl : bs = [] := List.eq_nil_of_length_eq_zero hm
  refine WC.nilslice 5 1 ?_
  refine W336 ?_
  exact Fin.ret1 xI ((none, 0)) (trivial) Tryz.results42 (.tmp rfl) xT (by simp)
 ·
  refine W274 ?_
  refine wl1 (op_lit0 Tryz.underlying30 ti5 (lt_ rfl)) rfl fun b1 => ?_
  refine W4 ?_
  refine wl2 (op_append0 Tryz.underlying30 ti5 rfl (by decide) (lt_ rfl) rfl rfl xK xS xO (by omega) (by omega)) rfl fun A1 c1 => ?_
  refine W260 ?_
  exact Fin.ret1 xI ((_, _)) (trivial) Tryz.results42 (.tmp rfl) xT (by simp)
set_option maxHeartbeats 400000 in
set_option maxRecDepth 10000 in
theorem f69_spec (A : Option Addr) (m c : Nat) (rs : List Bs) (hm : rs.length = m) (hmx : m ≤ 1000000) :
  Spec Tryz.prog 69 [.slice A m c] [] [rd (.slice A m c) 1 m (rs.map Bs.v)] (R := Option Addr × Nat) (fun _ => True) (fun r => .slice r.1 m r.2) (fun r => [own (.slice r.1 m r.2) 30 1 m (rs.map Bs.v)]) := by
 refine Spec.intro Tryz.func69 Tryz.ntmps69 rfl (by simp) (by simp) fun w0 => ?_
 refine W300 ?_
 refine W282 ?_
 refine wlv (op_eqlsnil Tryz.underlying36 (lt_ rfl) rfl rfl) rfl ?_
 refine W2 ?_
 refine W79 ?_
 refine W0 ?_
 refine WC.cond rfl (fun h1 => ?_) (fun h1 => ?_)
 ·
  subst h1
  refine WC.none0 xS (by decide) (fun hm0 => ?_)
  subst hm0
  obtain rfl : rs = [] := List.eq_nil_of_length_eq_zero hm
  refine WC.nilslice 30 1 ?_
  refine W336 ?_
  exact Fin.ret1 xI ((none, 0)) (trivial) Tryz.results69 (.tmp rfl) xT (by simp)
 ·
  refine W274 ?_
  refine wl1 (op_lit0 Tryz.underlying36 ti30 (lt_ rfl)) rfl fun b1 => ?_
  refine W4 ?_
  refine wl2 (op_append0 Tryz.underlying36 ti30 rfl (by decide) (lt_ rfl) rfl rfl xK xS (rows_one _) (by omega) (by omega)) rfl fun A1 c1 => ?_
  refine W260 ?_
  exact Fin.ret1 xI ((_, _)) (trivial) Tryz.results69 (.tmp rfl) xT (by simp)
set_option maxHeartbeats 400000 in
set_option maxRecDepth 10000 in
theorem f49_spec (A : Option Addr) (m c : Nat) (hc : m ≤ c) :
  Spec Tryz.prog 49 [.slice A m c] [] [] (R := Unit) (fun _ => True) (fun _ => .slice A m m) (fun _ => []) := by
 refine Spec.intro Tryz.func49 Tryz.ntmps49 rfl (by simp) (by simp) fun w0 => ?_
 refine W300 ?_
 refine W299 ?_
 refine W40 ?_
 refine W4 ?_
 refine W40 ?_
 refine wlv (op_clip Tryz.underlying36 sz30 (lt_ rfl) rfl rfl rfl hc) rfl ?_
 refine W260 ?_
 exact Fin.ret1 xI (()) (trivial) Tryz.results49 (.tmp rfl) xT (by simp)
set_option maxHeartbeats 400000 in
set_option maxRecDepth 10000 in
theorem f68_spec (r : Rs) :
  Spec Tryz.prog 68 [.agg r.cells.toArray] [] [] (R := Unit) (fun _ => True) (fun _ => .bool (decide (¬ r.k = 2))) (fun _ => []) := by
 refine Spec.intro Tryz.func68 Tryz.ntmps68 rfl (by simp) (by simp) fun w0 => ?_
 refine W240 ?_
 refine wl1 (op_box (lt_ rfl) rfl rfl) rfl fun b1 => ?_
 refine W358 ?_
 refine W249 ?_
 refine wlv (op_fieldAddr fo104_0 (lt_ rfl) rfl) rfl ?_
 refine W21 ?_
 refine W24 ?_
 refine W260 ?_
 exact Fin.ret1 xI (()) (trivial) Tryz.results68 (.tmp rfl) xT (by simp)
set_option maxHeartbeats 400000 in
set_option maxRecDepth 10000 in
theorem f67_spec (A : Option Addr) (m c : Nat) (l : List Rs) (hm : l.length = m) (hmx : m ≤ 1000000) :
  Spec Tryz.prog 67 [.slice A m c, .func (.func 68) #[] #[]] [] [rd (.slice A m c) 4 m (l.flatMap Rs.cells)] (R := Unit) (fun _ => True) (fun _ => .int .i64 (if ((l.map Rs.k).takeWhile (· == 2)).length = m then -1 else ((((l.map Rs.k).takeWhile (· == 2)).length : Nat) : Int))) (fun _ => []) := by
 have hcl : ∀ r : Rs, r.cells.length = 4 := fun _ => rfl
 have htl := tw_le (l.map Rs.k)
 rw [List.length_map, hm] at htl
 refine Spec.intro Tryz.func67 Tryz.ntmps67 rfl (by simp) (by simp) fun w0 => ?_
 refine W283 ?_
 refine W76 ?_
 refine W282 ?_
 refine wlv (op_len Tryz.underlying127 (lt_ rfl) rfl) rfl ?_
 refine W272 ?_
 refine WX.regs (L' := [(0, _), (1, _), (7, _), (8, _)]) ?_
 refine W294 ?_
 refine WC.loop (X := Nat) (fun q => m - q) (fun q => q ≤ ((l.map Rs.k).takeWhile (· == 2)).length) (fun q => [(0, .slice A m c), (1, .func (.func 68) #[] #[]), (7, .int .i64 (m : Int)), (8, .int .i64 (q : Int))]) (fun q => [rd (.slice A m c) 4 m (l.flatMap Rs.cells), frameC w0 (MutF [])]) (0) (Nat.zero_le _) (fun a w hs => hs.sub xY xT) ?_
 rintro i hi
 try dsimp only
 refine W312 ?_
 refine WX.regs (L' := [(0, _), (1, _), (7, _), (8, _), (9, _)]) ?_
 refine W327 ?_
 refine WC.cond rfl (fun h1 => ?_) (fun h1 => ?_)
 ·
  refine W298 ?_
  obtain ⟨r, hr⟩ : ∃ r, l[i]? = some r := ⟨l[i]'(by omega), List.getElem?_eq_getElem _⟩
  have hx : ∀ j, j = i * 4 → ((l.flatMap Rs.cells).drop j).take 4 = r.cells := fun j hj => by rw [hj]; exact flat_at hcl l i r hr
  have hgd : (l.map Rs.k).getD i 0 = r.k := by simp [List.getD_eq_getElem?_getD, hr]
  have hst := tw_step (ks := l.map Rs.k) (i := i) (by rw [List.length_map]; omega) hi
  refine W4 ?_
  refine W241 ?_
  refine WX.regs (L' := [(0, _), (1, _), (5, _), (7, _), (8, _)]) ?_
  refine W299 ?_
  refine W4 ?_
  refine W143 ?_
  refine W197 ?_
  rw [hx _ (by omega)]
  refine wlx (op_callv (f68_spec r) (by unfold Callable; kernel_rfl) (lt_ rfl) rfl rfl xG) rfl ?_
  rintro _ _
  refine W2 ?_
  refine WX.regs (L' := [(0, _), (1, _), (5, _), (7, _), (8, _), (16, _)]) ?_
  refine W0 ?_
  refine WC.cond rfl (fun h2 => ?_) (fun h2 => ?_)
  ·
   refine W351 ?_
   refine W241 ?_
   refine W35 ?_
   refine W275 ?_
   refine W315 ?_
   have e : ((l.map Rs.k).takeWhile (· == 2)).length = i := by rcases hst with ⟨h1, _⟩ | ⟨h1, _⟩; exact h1; (exfalso; rw [hgd] at h1; exact h2 h1)
   rw [e, if_neg (by omega)]
   exact Fin.ret1 xI (()) (trivial) Tryz.results67 (.tmp rfl) xT (by simp)
  ·
   have h2c := h2
   refine W291 ?_
   refine W0 ?_
   refine W286 ?_
   refine WX.regs (L' := [(0, _), (1, _), (7, _), (8, _)]) ?_
   refine WX.meet (i + 1) ⟨by rcases hst with ⟨h1, h2⟩ | ⟨h1, h2⟩; (exfalso; exact h2 (by rw [hgd]; exact Decidable.not_not.1 h2c)); exact h2, by omega⟩ (fun a w hs => hs.sub xY xT)
 ·
  refine W284 ?_
  refine W241 ?_
  refine W322 ?_
  rw [if_pos (by omega)]
  exact Fin.ret1 xI (()) (trivial) Tryz.results67 (.tmp rfl) xT (by simp)
set_option maxHeartbeats 400000 in
set_option maxRecDepth 10000 in
theorem f44_spec (bj bd : Nat) (J : Jn) (Ae : Option Addr) (me ce : Nat) :
  Spec Tryz.prog 44 [.pointer (some ⟨bj, 0, none⟩)] [blk bj (jcells J bd Ae me ce) 96] [] (R := Unit) (fun _ => True) (fun _ => .int .i64 J.failed) (fun _ => [blk bj (jcells J bd Ae me ce) 96]) := by
 refine Spec.intro Tryz.func44 Tryz.ntmps44 rfl (by simp) (by simp) fun w0 => ?_
 refine W300 ?_
 refine W324 ?_
 refine W2 ?_
 refine W79 ?_
 refine W281 ?_
 refine W323 ?_
 refine wlv (op_fieldAddr fo96_7 (lt_ rfl) rfl) rfl ?_
 refine W115 ?_
 refine W260 ?_
 exact Fin.ret1 xI (()) (trivial) Tryz.results44 (.tmp rfl) xT (by simp)
set_option maxHeartbeats 400000 in
set_option maxRecDepth 10000 in
theorem f19_spec (bj bd : Nat) (J : Jn) (Ae : Option Addr) (me ce : Nat) :
  Spec Tryz.prog 19 [.pointer (some ⟨bj, 0, none⟩)] [blk bj (jcells J bd Ae me ce) 96] [] (R := Unit) (fun _ => True) (fun _ => .int .i64 J.first) (fun _ => [blk bj (jcells J bd Ae me ce) 96]) := by
 refine Spec.intro Tryz.func19 Tryz.ntmps19 rfl (by simp) (by simp) fun w0 => ?_
 refine W300 ?_
 refine W324 ?_
 refine W2 ?_
 refine W79 ?_
 refine W281 ?_
 refine W323 ?_
 refine wlv (op_fieldAddr fo96_3 (lt_ rfl) rfl) rfl ?_
 refine W21 ?_
 refine W260 ?_
 exact Fin.ret1 xI (()) (trivial) Tryz.results19 (.tmp rfl) xT (by simp)
set_option maxHeartbeats 400000 in
set_option maxRecDepth 10000 in
theorem f15_spec (bj bd : Nat) (J : Jn) (Ae : Option Addr) (me ce : Nat) :
  Spec Tryz.prog 15 [.pointer (some ⟨bj, 0, none⟩)] [blk bj (jcells J bd Ae me ce) 96] [] (R := Unit) (fun _ => True) (fun _ => .int .i64 J.gen) (fun _ => [blk bj (jcells J bd Ae me ce) 96]) := by
 refine Spec.intro Tryz.func15 Tryz.ntmps15 rfl (by simp) (by simp) fun w0 => ?_
 refine W300 ?_
 refine W324 ?_
 refine W2 ?_
 refine W79 ?_
 refine W281 ?_
 refine W323 ?_
 refine wlv (op_fieldAddr fo96_2 (lt_ rfl) rfl) rfl ?_
 refine W21 ?_
 refine W260 ?_
 exact Fin.ret1 xI (()) (trivial) Tryz.results15 (.tmp rfl) xT (by simp)
set_option maxHeartbeats 400000 in
set_option maxRecDepth 10000 in
theorem f48_spec (bj bd : Nat) (J : Jn) (Ae : Option Addr) (me ce : Nat) (h : -1000000000000 ≤ J.first ∧ J.first ≤ 1000000000000 ∧ me ≤ 1000000) :
  Spec Tryz.prog 48 [.pointer (some ⟨bj, 0, none⟩)] [blk bj (jcells J bd Ae me ce) 96] [] (R := Unit) (fun _ => True) (fun _ => .int .i64 (J.first + me)) (fun _ => [blk bj (jcells J bd Ae me ce) 96]) := by
 refine Spec.intro Tryz.func48 Tryz.ntmps48 rfl (by simp) (by simp) fun w0 => ?_
 refine W300 ?_
 refine W324 ?_
 refine W2 ?_
 refine W79 ?_
 refine W281 ?_
 refine W0 ?_
 refine W301 ?_
 refine W29 ?_
 refine W69 ?_
 refine WA.take (i := 2) rfl (by kernel_rfl) (fun _ _ _ h => h) rfl (op_fieldAddr fo96_3 (lt_ rfl) rfl) xT ?_
 refine W198 ?_
 refine W51 ?_
 refine W102 ?_
 refine WA.take (i := 6) rfl (by kernel_rfl) (fun _ _ _ h => h) rfl (op_fieldAddr fo96_4 (lt_ rfl) rfl) xT ?_
 refine WA.take (i := 7) rfl (by kernel_rfl) (fun _ _ _ h => h) rfl (op_load1 fl36 (lt_ rfl) rfl xM rfl) xT ?_
 refine WA.take (i := 8) rfl (by kernel_rfl) (fun _ _ _ h => h) rfl (op_len Tryz.underlying36 (lt_ rfl) rfl) xT ?_
 refine WA.take (i := 9) rfl (by kernel_rfl) (fun _ _ _ h => h) rfl (op_add (lt_ rfl) rfl rfl (by omega)) xT ?_
 refine W163 ?_
 refine W19 ?_
 refine W250 ?_
 exact Fin.ret1 xI (()) (trivial) Tryz.results48 (.tmp rfl) xT (by simp)
set_option maxHeartbeats 400000 in
set_option maxRecDepth 10000 in
theorem f16_spec (bj bd : Nat) (J : Jn) (Ae : Option Addr) (me ce : Nat) (h : 0 ≤ J.se ∧ J.se ≤ 1000000 ∧ 0 ≤ J.used ∧ J.used ≤ 1000000) :
  Spec Tryz.prog 16 [.pointer (some ⟨bj, 0, none⟩)] [blk bj (jcells J bd Ae me ce) 96] [] (R := Unit) (fun _ => True) (fun _ => .int .i64 (J.se / 2 - J.used)) (fun _ => [blk bj (jcells J bd Ae me ce) 96]) := by
 refine Spec.intro Tryz.func16 Tryz.ntmps16 rfl (by simp) (by simp) fun w0 => ?_
 refine W300 ?_
 refine W324 ?_
 refine W2 ?_
 refine W79 ?_
 refine W281 ?_
 refine W0 ?_
 refine W301 ?_
 refine W29 ?_
 refine W69 ?_
 refine WA.take (i := 2) rfl (by kernel_rfl) (fun _ _ _ h => h) rfl (op_fieldAddr fo96_0 (lt_ rfl) rfl) xT ?_
 refine WA.take (i := 3) rfl (by kernel_rfl) (fun _ _ _ h => h) rfl (op_loadN ag88 (lt_ rfl) rfl xM rfl) xT ?_
 refine W67 ?_
 refine W140 ?_
 refine WA.take (i := 7) rfl (by kernel_rfl) (fun _ _ _ h => h) rfl (op_fieldAddr fo96_5 (lt_ rfl) rfl) xT ?_
 refine WA.take (i := 8) rfl (by kernel_rfl) (fun _ _ _ h => h) rfl (op_load1 fl3 (lt_ rfl) rfl xM rfl) xT ?_
 refine WA.stepx (i := 4) (by kernel_rfl) rfl rfl (op_call (f43_spec bd J.fi J.se (by omega) (by omega)) ca43 (lt_ rfl) rfl) (fun _ r => xT) ?_
 rintro _ _
 refine WA.take (i := 9) rfl (by kernel_rfl) (fun _ _ _ h => h) rfl (op_sub (lt_ rfl) rfl rfl (by omega)) xT ?_
 refine W163 ?_
 refine W19 ?_
 refine W250 ?_
 exact Fin.ret1 xI (()) (trivial) Tryz.results16 (.tmp rfl) xT (by simp)
end Go.Proofs.YtkjlbedebmffgaaGreat.Sx
