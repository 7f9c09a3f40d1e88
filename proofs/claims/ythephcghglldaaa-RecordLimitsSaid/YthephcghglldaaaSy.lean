/- The engine: what each operation does. Plain theorems over any program. -/
import Derived.Test.YthephcghglldaaaSx
import Derived.Laws.MakeOwn
import Derived.Laws.OwnMore
set_option linter.unusedVariables false
set_option linter.unusedSimpArgs false
namespace Go.Proofs.Ythephcghglldaaa.Sx
open Go.RowKit

/-! ### Finding chunks -/
inductive Take : List Ch → Ch → List Ch → Prop
  | here {c : Ch} {H : List Ch} : Take (c :: H) c H
  | there {x c : Ch} {H F : List Ch} : Take H c F → Take (x :: H) c (x :: F)
theorem Take.perm {H F : List Ch} {c : Ch} (h : Take H c F) : H.Perm (c :: F) := by
  induction h with
  | here => exact .refl _
  | there _ ih => exact (ih.cons _).trans (List.Perm.swap ..)
inductive Takes : List Ch → List Ch → List Ch → Prop
  | nil {H : List Ch} : Takes H [] H
  | cons {H G F T : List Ch} {c : Ch} : Take H c G → Takes G T F → Takes H (c :: T) F
theorem Takes.perm {H F T : List Ch} (h : Takes H T F) : H.Perm (T ++ F) := by
  induction h with
  | nil => exact .refl _
  | cons h1 _ ih => exact h1.perm.trans (ih.cons _)
theorem Sat.takes {w : World} {H T F : List Ch} (h : Sat w H) (k : Takes H T F) : Sat w (T ++ F) := h.perm k.perm
theorem Sat.only {w : World} {H T F : List Ch} (h : Sat w H) (k : Takes H T F) : Sat w T := (h.takes k).app_left
/-- What only reads, each out of something that is there. -/
inductive Reads (F : List Ch) : List Ch → Prop
  | nil : Reads F []
  | cons {c d : Ch} {D : List Ch} : c ∈ F → d.ex = false → d.Le c → Reads F D → Reads F (d :: D)
theorem Reads.all {F D : List Ch} (h : Reads F D) : ∀ d ∈ D, d.ex = false ∧ ∃ c ∈ F, d.Le c := by
  induction h with
  | nil => intro d hd; cases hd
  | cons hc he hl _ ih =>
    intro d hd
    rcases List.mem_cons.1 hd with rfl | hd
    · exact ⟨he, _, hc, hl⟩
    · exact ih d hd
/-- One chunk's contents are replaced. -/
theorem Sat.swap {w w' : World} {H F : List Ch} {c c' : Ch} (h : Sat w H) (k : Take H c F) (hex : c.ex = true) (hok : c'.ok w') (hc : Chg c.foot w w')
    (hf : ∀ b, c'.foot b → w.heap.size ≤ b ∨ c.foot b) : Sat w' (c' :: F) := by
  have h1 : Sat w ([c] ++ F) := h.perm k.perm
  refine h1.frame (B := [c']) ⟨fun x hx => by rw [List.mem_singleton.1 hx]; exact hok, List.pairwise_singleton ..⟩ (hc.mono fun i hi => ⟨c, List.mem_cons_self .., hex, hi⟩) ?_
  intro x hx b hb
  rw [List.mem_singleton.1 hx] at hb
  exact (hf b hb).imp id fun hb => ⟨c, List.mem_cons_self .., hex, hb⟩
/-- Memory is made. -/
theorem Sat.grow {w w' : World} {H : List Ch} {c : Ch} (h : Sat w H) (hok : c.ok w') (hc : Chg (fun _ => False) w w') (hf : ∀ b, c.foot b → w.heap.size ≤ b) : Sat w' (c :: H) := by
  have h1 : Sat w ([] ++ H) := h
  refine h1.frame (B := [c]) ⟨fun x hx => by rw [List.mem_singleton.1 hx]; exact hok, List.pairwise_singleton ..⟩ (hc.mono fun i hi => hi.elim) ?_
  intro x hx b hb
  rw [List.mem_singleton.1 hx] at hb
  exact .inl (hf b hb)
theorem Sat.chg {w w' : World} {H : List Ch} (h : Sat w H) (hc : Chg (fun _ => False) w w') : Sat w' H := by
  have h1 : Sat w ([] ++ H) := h
  have := h1.frame (B := []) ⟨fun x hx => (by cases hx), List.Pairwise.nil⟩ (hc.mono fun i hi => hi.elim) (fun c hc => by cases hc)
  exact this

/-! ### Types -/
/-- What the table says of a type: its cells, its bytes, its zero value's cells. -/
def TInf (P : Program) (t : TypeId) (sz bytes : Nat) (zero : List Value) : Prop :=
  (P.info? t).map (fun i => (i.size, i.bytes, i.zero.map (·.cells.toList))) = some (sz, bytes, some zero)
theorem TInf.open {P : Program} {t : TypeId} {sz bytes : Nat} {zero : List Value} (h : TInf P t sz bytes zero) :
    ∃ i z, P.info? t = some i ∧ i.size = sz ∧ i.bytes = bytes ∧ i.zero = some z ∧ z.cells.toList = zero := by
  obtain ⟨i, hi, hq⟩ := Option.map_eq_some_iff.1 h
  simp only [Prod.mk.injEq, Option.map_eq_some_iff] at hq
  obtain ⟨h1, h2, z, h3, h4⟩ := hq
  exact ⟨i, z, hi, h1, h2, h3, h4⟩
def aggD : TypeDesc → Bool
  | .struct _ | .array _ _ => true
  | _ => false
/-- A type of one cell. -/
structure Flat (P : Program) (t : TypeId) : Prop where
  u : ∃ d, P.underlying t = some d ∧ aggD d = false
/-- A type whose values are rows of 'sz' cells. -/
structure Agg (P : Program) (t : TypeId) (sz : Nat) : Prop where
  u : ∃ d, P.underlying t = some d ∧ aggD d = true
  i : (P.info? t).map (·.size) = some sz
theorem Flat.mk' {P : Program} {t : TypeId} {d : TypeDesc} (h : P.underlying t = some d) (hd : aggD d = false) : Flat P t := ⟨⟨d, h, hd⟩⟩
theorem Agg.mk' {P : Program} {t : TypeId} {sz : Nat} {d : TypeDesc} (h : P.underlying t = some d) (hd : aggD d = true) (hi : (P.info? t).map (·.size) = some sz) : Agg P t sz := ⟨⟨d, h, hd⟩, hi⟩
theorem Flat.isAgg {P : Program} {t : TypeId} (h : Flat P t) (w : World) : (isAgg t).run P w = .ok false w := by
  obtain ⟨d, hu, hd⟩ := h.u
  unfold Go.isAgg
  rw [Sem.run_bind, run_underlying hu w]
  cases d <;> simp_all [aggD]
theorem Agg.isAgg {P : Program} {t : TypeId} {sz : Nat} (h : Agg P t sz) (w : World) : (isAgg t).run P w = .ok true w := by
  obtain ⟨d, hu, hd⟩ := h.u
  unfold Go.isAgg
  rw [Sem.run_bind, run_underlying hu w]
  cases d <;> simp_all [aggD]
theorem run_sizeOf {P : Program} {t : TypeId} {sz : Nat} (h : (P.info? t).map (·.size) = some sz) (w : World) : (sizeOf t).run P w = .ok sz w := by
  obtain ⟨i, hi, hs⟩ := Option.map_eq_some_iff.1 h
  simp [sizeOf, typeInfo, hi, hs]
theorem add_block (a : Addr) (n : Nat) : (a.add n).block = a.block := by unfold Addr.add; split <;> rfl
theorem run_load1 {P : Program} {t : TypeId} (h : Flat P t) {a : Addr} {v : Value} {w : World} (hc : w.cell? a = some v) : (loadVar t a).run P w = .ok v w := by
  unfold loadVar
  rw [Sem.run_bind, h.isAgg w]
  simp [Result.andThen, hc]
theorem run_loadN {P : Program} {t : TypeId} {sz : Nat} (h : Agg P t sz) {a : Addr} {vs : List Value} {w : World} (hl : vs.length = sz) (hc : ∀ j v, vs[j]? = some v → w.cell? (a.add j) = some v) :
    (loadVar t a).run P w = .ok (.agg vs.toArray) w := by
  have hcells := run_loadCells_list (P := P) w a vs hc
  unfold loadVar
  rw [Sem.run_bind, h.isAgg w]
  simp [Result.andThen, Sem.run_bind, run_sizeOf h.i w, ← hl, hcells]

/-- What fieldAddr makes of a struct's address. -/
def FOff (P : Program) (s : TypeId) (f off : Nat) : Prop := ∀ (a : Addr) (w : World), a.spot = none → (Instr.fieldAt s (.pointer (some a)) f).run P w = .ok (.pointer (some ⟨a.block, a.off + off, none⟩)) w
theorem FOff.mk' {P : Program} {s : TypeId} {f off : Nat} {fs : Array Field} {fl : Field} (hu : P.underlying s = some (.struct fs)) (hf : fs[f]? = some fl) (ho : fl.offset = off)
    (hz : (P.info? fl.type).map (fun i => decide (i.size = 0)) = some false) : FOff P s f off := by
  intro a w hsp
  obtain ⟨i, hi, hs⟩ := Option.map_eq_some_iff.1 hz
  have hs' : ¬ i.size = 0 := by simpa using hs
  have he : a.add off = ⟨a.block, a.off + off, none⟩ := by
    unfold Addr.add
    split
    · rename_i h0; subst h0; cases a; simp_all
    · rfl
  simp [Instr.fieldAt, Sem.run_bind, run_underlying hu, hf, Instr.sureAddr, fieldPlace, sizeOf, typeInfo, hi, hs', ho, he]

section
variable {P : Program} {Q : Exit → Act → World → Prop} {n : Nat} {L L' : List (Nat × Value)} {H H' F : List Ch} {ops : Array Oper} {rest : List Oper} {o : Oper}
variable {d : Nat} {ty : TypeId} {pos : String} {af : Array Edge} {g : Option (Nat × Bool)} {x y z : Operand} {v u : Value}

theorem op_move (hn : d < n) (hx : evr L x = some v) : Val P ⟨some d, .move x, ty, pos, af, g⟩ n L H d (v) :=
  Val.mk rfl hn fun a w hs => by simp [execOp, hs.eval hx]
theorem op_assign (hn : d < n) (hx : evr L x = some v) : Val P ⟨some d, .assign x, ty, pos, af, g⟩ n L H d (v) :=
  Val.mk rfl hn fun a w hs => by simp [execOp, hs.eval hx]
theorem op_pickT (hn : d < n) (hc : evr L z = some (.bool true)) (hx : evr L x = some v) : Val P ⟨some d, .pick z x y, ty, pos, af, g⟩ n L H d (v) :=
  Val.mk rfl hn fun a w hs => by simp [execOp, hs.eval hx, hs.eval hc, asBool]
theorem op_pickF (hn : d < n) (hc : evr L z = some (.bool false)) (hx : evr L y = some v) : Val P ⟨some d, .pick z x y, ty, pos, af, g⟩ n L H d (v) :=
  Val.mk rfl hn fun a w hs => by simp [execOp, hs.eval hx, hs.eval hc, asBool]
theorem op_extract {vs : Array Value} {i : Nat} (hn : d < n) (hx : evr L x = some (.tuple vs)) (hi : vs[i]? = some v) : Val P ⟨some d, .extract x i, ty, pos, af, g⟩ n L H d (v) :=
  Val.mk rfl hn fun a w hs => by simp [execOp, hs.eval hx, Instr.extract, hi]
theorem op_nilCheck {a0 : Addr} (hn : d < n) (hx : evr L x = some (.pointer (some a0))) : Val P ⟨some d, .nilCheck x, ty, pos, af, g⟩ n L H d ((.pointer (some a0))) :=
  Val.mk rfl hn fun a w hs => by simp [execOp, hs.eval hx]
theorem op_fieldAddr {s : TypeId} {f off b k : Nat} (hf : FOff P s f off) (hn : d < n) (hx : evr L x = some (.pointer (some ⟨b, k, none⟩))) :
    Val P ⟨some d, .fieldAddr s x f, ty, pos, af, g⟩ n L H d ((.pointer (some ⟨b, k + off, none⟩))) :=
  Val.mk rfl hn fun a w hs => by simp [execOp, hs.eval hx, hf _ w]

/-! #### numbers -/
section
variable {k : IntKind} {a b : Int} {xt yt : TypeId}
theorem binop_val {op : BinOp} (hn : d < n) (hx : evr L x = some v) (hy : evr L y = some u) {r : Value} (hg : ∀ X Y, eqGuard op xt X Y v u = pure ()) (hr : ∀ w, (binOp op xt v u).run P w = .ok r w) :
    Val P ⟨some d, .binOp op xt x y yt, ty, pos, af, g⟩ n L H d (r) :=
  Val.mk rfl hn fun a w hs => by simp [execOp, hs.eval hx, hs.eval hy, hg, hr]
theorem op_add (hn : d < n) (hx : evr L x = some (.int .i64 a)) (hy : evr L y = some (.int .i64 b)) (hr : -9223372036854775808 ≤ a + b ∧ a + b < 9223372036854775808) :
    Val P ⟨some d, .binOp .add xt x y yt, ty, pos, af, g⟩ n L H d ((.int .i64 (a + b))) :=
  binop_val hn hx hy (fun _ _ => rfl) fun w => by simp [binOp, Op.intArith, IntKind.wrap_i64]; omega
theorem op_sub (hn : d < n) (hx : evr L x = some (.int .i64 a)) (hy : evr L y = some (.int .i64 b)) (hr : -9223372036854775808 ≤ a - b ∧ a - b < 9223372036854775808) :
    Val P ⟨some d, .binOp .sub xt x y yt, ty, pos, af, g⟩ n L H d ((.int .i64 (a - b))) :=
  binop_val hn hx hy (fun _ _ => rfl) fun w => by simp [binOp, Op.intArith, IntKind.wrap_i64]; omega
theorem op_mul (hn : d < n) (hx : evr L x = some (.int .i64 a)) (hy : evr L y = some (.int .i64 b)) (hr : -9223372036854775808 ≤ a * b ∧ a * b < 9223372036854775808) :
    Val P ⟨some d, .binOp .mul xt x y yt, ty, pos, af, g⟩ n L H d ((.int .i64 (a * b))) :=
  binop_val hn hx hy (fun _ _ => rfl) fun w => by simp [binOp, Op.intArith, IntKind.wrap_i64]; omega
theorem op_quo (hn : d < n) (hx : evr L x = some (.int .i64 a)) (hy : evr L y = some (.int .i64 b)) (h0 : 0 < b) (ha : 0 ≤ a ∧ a < 9223372036854775808) :
    Val P ⟨some d, .binOp .quo xt x y yt, ty, pos, af, g⟩ n L H d ((.int .i64 (a / b))) :=
  binop_val hn hx hy (fun _ _ => rfl) fun w => by
    have h1 : ¬ b = 0 := by omega
    have h2 : a.tdiv b = a / b := Int.tdiv_eq_ediv_of_nonneg ha.1
    have h3 : 0 ≤ a / b := Int.ediv_nonneg ha.1 (by omega)
    have h4 : a / b ≤ a := Int.ediv_le_self _ ha.1
    simp [binOp, Op.intDiv, h1, h2, IntKind.wrap_i64]; omega
theorem op_rem (hn : d < n) (hx : evr L x = some (.int k a)) (hy : evr L y = some (.int k b)) (h0 : 0 < b) (ha : 0 ≤ a) :
    Val P ⟨some d, .binOp .rem xt x y yt, ty, pos, af, g⟩ n L H d ((.int k (a % b))) :=
  binop_val hn hx hy (fun _ _ => by rfl) fun w => by
    have h1 : ¬ b = 0 := by omega
    have h2 : a.tmod b = a % b := Int.tmod_eq_emod_of_nonneg ha
    cases k <;> simp [binOp, Op.intDiv, h1, h2]
theorem op_lss (hn : d < n) (hx : evr L x = some (.int k a)) (hy : evr L y = some (.int k b)) :
    Val P ⟨some d, .binOp .lss xt x y yt, ty, pos, af, g⟩ n L H d ((.bool (decide (a < b)))) :=
  binop_val hn hx hy (fun _ _ => rfl) fun w => by rw [binOp_lss]; rfl
theorem op_leq (hn : d < n) (hx : evr L x = some (.int k a)) (hy : evr L y = some (.int k b)) :
    Val P ⟨some d, .binOp .leq xt x y yt, ty, pos, af, g⟩ n L H d ((.bool (decide (a ≤ b)))) :=
  binop_val hn hx hy (fun _ _ => rfl) fun w => by rw [binOp_leq]; rfl
theorem op_gtr (hn : d < n) (hx : evr L x = some (.int k a)) (hy : evr L y = some (.int k b)) :
    Val P ⟨some d, .binOp .gtr xt x y yt, ty, pos, af, g⟩ n L H d ((.bool (decide (b < a)))) :=
  binop_val hn hx hy (fun _ _ => rfl) fun w => by rw [binOp_gtr]; rfl
theorem op_geq (hn : d < n) (hx : evr L x = some (.int k a)) (hy : evr L y = some (.int k b)) :
    Val P ⟨some d, .binOp .geq xt x y yt, ty, pos, af, g⟩ n L H d ((.bool (decide (b ≤ a)))) :=
  binop_val hn hx hy (fun _ _ => rfl) fun w => by rw [binOp_geq]; rfl
theorem op_eql (hn : d < n) (hx : evr L x = some (.int k a)) (hy : evr L y = some (.int k b)) :
    Val P ⟨some d, .binOp .eql xt x y yt, ty, pos, af, g⟩ n L H d ((.bool (decide (a = b)))) :=
  binop_val hn hx hy (fun _ _ => rfl) fun w => by rw [binOp_eql]; rfl
theorem op_neq (hn : d < n) (hx : evr L x = some (.int k a)) (hy : evr L y = some (.int k b)) :
    Val P ⟨some d, .binOp .neq xt x y yt, ty, pos, af, g⟩ n L H d ((.bool (decide (¬ a = b)))) :=
  binop_val hn hx hy (fun _ _ => rfl) fun w => by
    have : (a != b) = decide (¬ a = b) := by by_cases h : a = b <;> simp [h]
    rw [binOp_neq, this]; rfl
theorem op_not {p : Bool} (hn : d < n) (hx : evr L x = some (.bool p)) : Val P ⟨some d, .unOp .not xt x, ty, pos, af, g⟩ n L H d ((.bool (!p))) :=
  Val.mk rfl hn fun a w hs => by simp [execOp, hs.eval hx, Op.unary]
theorem op_notp {p : Prop} [Decidable p] (hn : d < n) (hx : evr L x = some (.bool (decide p))) : Val P ⟨some d, .unOp .not xt x, ty, pos, af, g⟩ n L H d ((.bool (decide (¬ p)))) :=
  Val.mk rfl hn fun a w hs => by simp [execOp, hs.eval hx, Op.unary]
theorem op_neg (hn : d < n) (hx : evr L x = some (.int .i64 a)) (hr : -9223372036854775808 < a ∧ a < 9223372036854775808) : Val P ⟨some d, .unOp .neg xt x, ty, pos, af, g⟩ n L H d ((.int .i64 (- a))) :=
  Val.mk rfl hn fun a w hs => by simp [execOp, hs.eval hx, Op.unary, Op.intArith, IntKind.wrap_i64]; omega
/-- Any conversion between whole numbers, as the machine writes it. -/
theorem op_conv {src dst : TypeId} {k' : IntKind} (hs : (P.underlying src).isSome = true) (hd : P.underlying dst = some (.int k')) (hn : d < n) (hx : evr L x = some (.int k a)) :
    Val P ⟨some d, .convert src dst x, ty, pos, af, g⟩ n L H d ((.int k' (k'.wrap a))) :=
  Val.mk rfl hn fun a w hst => by
    obtain ⟨ds, hs'⟩ := Option.isSome_iff_exists.1 hs
    simp [execOp, hst.eval hx, convert, Sem.run_bind, run_underlying hs', run_underlying hd, Conv.intToInt]
end

end
end Go.Proofs.Ythephcghglldaaa.Sx
