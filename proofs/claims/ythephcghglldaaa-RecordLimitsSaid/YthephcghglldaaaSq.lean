/- The engine: case distinctions among operations, strings, copying, structs compared, chunks merged. -/
import Derived.Test.YthephcghglldaaaSr
import Derived.Laws.StructEq
import Derived.Laws.IdiomCopy
import Derived.Laws.BytesArg
set_option linter.unusedVariables false
set_option linter.unusedSimpArgs false
namespace Go.Proofs.Ythephcghglldaaa.Sx
open Go.RowKit
theorem Regs.same {n : Nat} {L : List (Nat × Value)} {a : Act} (h : Regs n L a) {t : Nat} {v : Value} (hg : Sx.get L t = some v) : Regs n (upd L t v) a :=
  ⟨h.size, h.defers, fun e u hu => by
    rw [get_upd] at hu
    by_cases hde : t = e
    · rw [if_pos hde] at hu
      cases hu
      exact h.get e _ (hde ▸ hg)
    · rw [if_neg hde] at hu
      exact h.get e u hu⟩
theorem St.splitb {n : Nat} {L : List (Nat × Value)} {H : List Ch} {a : Act} {w : World} (h : St n L H a w) {t : Nat} {v : Value} (hg : Sx.get L t = some v) : St n (upd L t v) H a w := ⟨h.regs.same hg, h.sat⟩
section
variable {P : Program} {ops : Array Oper} {Q : Exit → Act → World → Prop} {rest : List Oper} {n : Nat} {L L' : List (Nat × Value)} {H H' F F' : List Ch}
theorem WL.split {t : Nat} {p : Prop} [Decidable p] (hg : Sx.get L t = some (.bool (decide p))) (ht : p → WL P ops Q rest n (upd L t (.bool true)) H) (hf : ¬ p → WL P ops Q rest n (upd L t (.bool false)) H) : WL P ops Q rest n L H := fun a w hs => by
  by_cases hp : p
  · exact ht hp a w (hs.splitb (by rw [hg, decide_eq_true hp]))
  · exact hf hp a w (hs.splitb (by rw [hg, decide_eq_false hp]))
theorem WL.splitb {t : Nat} {p : Bool} (hg : Sx.get L t = some (.bool p)) (ht : p = true → WL P ops Q rest n (upd L t (.bool true)) H) (hf : p = false → WL P ops Q rest n (upd L t (.bool false)) H) : WL P ops Q rest n L H := fun a w hs => by
  cases p with
  | true => exact ht rfl a w (hs.splitb hg)
  | false => exact hf rfl a w (hs.splitb hg)
theorem WA.split {S : World → Prop} {e fuel : Nat} {listed : Array Bool} {t : Nat} {p : Prop} [Decidable p] (hg : Sx.get L t = some (.bool (decide p))) (ht : p → WA P ops Q S e fuel listed n (upd L t (.bool true)) H) (hf : ¬ p → WA P ops Q S e fuel listed n (upd L t (.bool false)) H) : WA P ops Q S e fuel listed n L H := fun a w hs => by
  by_cases hp : p
  · exact ht hp a w (hs.splitb (by rw [hg, decide_eq_true hp]))
  · exact hf hp a w (hs.splitb (by rw [hg, decide_eq_false hp]))
theorem WA.splitb {S : World → Prop} {e fuel : Nat} {listed : Array Bool} {t : Nat} {p : Bool} (hg : Sx.get L t = some (.bool p)) (ht : p = true → WA P ops Q S e fuel listed n (upd L t (.bool true)) H) (hf : p = false → WA P ops Q S e fuel listed n (upd L t (.bool false)) H) : WA P ops Q S e fuel listed n L H := fun a w hs => by
  cases p with
  | true => exact ht rfl a w (hs.splitb hg)
  | false => exact hf rfl a w (hs.splitb hg)
section
variable {o : Oper} {j dj : Nat} {b : Bool}
theorem wlgv {d : Nat} {v : Value} (hv : Val P o n L H d v) (hg : o.guard = some (j, b)) (hj : (ops[j]?).bind (·.dst) = some dj) (hb : Sx.get L dj = some (.bool b)) (h : WL P ops Q rest n (upd L d v) H) : WL P ops Q (o :: rest) n L H :=
  wlg_yes hv.opn hg hj hb h
theorem wlgo (ho : Opn P Q o n L H (St n L' H')) (hg : o.guard = some (j, b)) (hj : (ops[j]?).bind (·.dst) = some dj) (hb : Sx.get L dj = some (.bool b)) (h : WL P ops Q rest n L' H') : WL P ops Q (o :: rest) n L H :=
  wlg_yes ho hg hj hb h
theorem wlg1 {X : Type} {LL : X → List (Nat × Value)} {HH : X → List Ch} (ho : Opn P Q o n L H (fun a w => ∃ b, St n (LL b) (HH b) a w)) (hg : o.guard = some (j, b)) (hj : (ops[j]?).bind (·.dst) = some dj) (hb : Sx.get L dj = some (.bool b)) (h : ∀ b, WL P ops Q rest n (LL b) (HH b)) : WL P ops Q (o :: rest) n L H :=
  wlg_yes ho hg hj hb fun a w ⟨b, hs⟩ => h b a w hs
theorem wlg2 {X Y : Type} {LL : X → Y → List (Nat × Value)} {HH : X → Y → List Ch} (ho : Opn P Q o n L H (fun a w => ∃ b c, St n (LL b c) (HH b c) a w)) (hg : o.guard = some (j, b)) (hj : (ops[j]?).bind (·.dst) = some dj) (hb : Sx.get L dj = some (.bool b)) (h : ∀ b c, WL P ops Q rest n (LL b c) (HH b c)) : WL P ops Q (o :: rest) n L H :=
  wlg_yes ho hg hj hb fun a w ⟨b, c, hs⟩ => h b c a w hs
theorem wlgx {X : Type} {φ : X → Prop} {LL : X → List (Nat × Value)} {HH : X → List Ch} (ho : Opn P Q o n L H (fun a w => ∃ b, φ b ∧ St n (LL b) (HH b) a w)) (hg : o.guard = some (j, b)) (hj : (ops[j]?).bind (·.dst) = some dj) (hb : Sx.get L dj = some (.bool b)) (h : ∀ b, φ b → WL P ops Q rest n (LL b) (HH b)) : WL P ops Q (o :: rest) n L H :=
  wlg_yes ho hg hj hb fun a w ⟨b, hb, hs⟩ => h b hb a w hs
end
section
variable {Hs G : List Ch} {e i : Nat} {oi : Oper} {fuel : Nat} {listed : Array Bool} {j dj : Nat} {b : Bool}
theorem WA.stepG {Post : Act → World → Prop} (hr : Region.ready .any ops listed = [i]) (hi : ops[i]? = some oi) (hg : oi.guard = some (j, b)) (hj : (ops[j]?).bind (·.dst) = some dj) (hb : Sx.get L dj = some (.bool b))
    (ho : Opn P Q oi n L H Post) (hS : i ≠ e → ∀ a w, Post a w → Sat w Hs) (h : ∀ a w, Post a w → wpAnyE P ops Q (fun w => Sat w Hs) e fuel (listed.setIfInBounds i true) a w) :
    WA P ops Q (fun w => Sat w Hs) e (fuel + 1) listed n L H := fun a w hst => by
  refine ⟨fun h0 => (by rw [hr] at h0; cases h0), fun k hk => ?_⟩
  rw [hr] at hk
  rw [List.mem_singleton.1 hk]
  have hy : yielded ops a.tmps j = some b := by simp [yielded, hj, hst.regs.get dj _ hb]
  unfold wpOp
  simp only [hi]
  rw [if_pos (by simp [Region.wanted, hg, hy])]
  exact .inl (ho a w hst _ fun a' w' hp => ⟨fun hne => hS hne a' w' hp, h a' w' hp⟩)
theorem WA.stepGx {X : Type} {φ : X → Prop} {LL : X → List (Nat × Value)} {HH : X → List Ch} {G : X → List Ch} (hr : Region.ready .any ops listed = [i]) (hi : ops[i]? = some oi) (hg : oi.guard = some (j, b)) (hj : (ops[j]?).bind (·.dst) = some dj) (hb : Sx.get L dj = some (.bool b))
    (ho : Opn P Q oi n L H (fun a w => ∃ b, φ b ∧ St n (LL b) (HH b) a w)) (hS : i ≠ e → ∀ b, Takes (HH b) Hs (G b)) (h : ∀ b, φ b → WA P ops Q (fun w => Sat w Hs) e fuel (listed.setIfInBounds i true) n (LL b) (HH b)) :
    WA P ops Q (fun w => Sat w Hs) e (fuel + 1) listed n L H :=
  WA.stepG hr hi hg hj hb ho (fun hne a w ⟨b, _, hs⟩ => hs.sat.only (hS hne b)) fun a w ⟨b, hb, hs⟩ => h b hb a w hs
end
/-! ### Strings of bytes -/
def sv (bs : List UInt8) : Value := .string ⟨bs.toArray⟩
section
variable {d : Nat} {ty : TypeId} {pos : String} {af : Array Edge} {g : Option (Nat × Bool)} {x y : Operand} {xt yt src dst e : TypeId}
theorem bv_at {bs : List UInt8} {j : Nat} (h : j < bs.length) : (bs.map bv)[j]? = some (.int .u8 ((bs.map fun x => (x.toNat : Int)).getD j 0)) := by
  simp [h, bv]
theorem strOf (bs : List UInt8) : strOfNums (bs.map fun x => (x.toNat : Int)) = ⟨bs.toArray⟩ := by
  apply ByteArray.ext
  apply Array.toList_inj.1
  rw [strOfNums_data, List.map_map]
  show _ = bs
  conv => rhs; rw [← List.map_id bs]
  apply List.map_congr_left
  intro x _
  simp
theorem op_bytesStr {A : Option Addr} {m c : Nat} {bs : List UInt8} (hs : P.underlying src = some (.slice e)) (he : P.underlying e = some (.int .u8)) (hd : P.underlying dst = some .string) (hn : d < n) (hx : evr L x = some (.slice A m c)) (hsrc : Src H (.slice A m c) 1 m (bs.map bv)) :
    Val P ⟨some d, .convert src dst x, ty, pos, af, g⟩ n L H d (sv bs) :=
  Val.mk rfl hn fun a w hst => by
    obtain ⟨h1, h2, A', c', h3, h4, h5⟩ := hsrc.ok hst.sat
    cases h3
    have hl : bs.length = m := by simpa using h1
    have key : (convert src dst (.slice A m c)).run P w = .ok (sv bs) w := by
      by_cases hm : 0 < m
      · obtain ⟨b, o, rfl, h6⟩ := h5 (by simpa [hl] using hm)
        have := run_convert_bytes_arg (P := P) w src e hs he b o m c (bs.map fun x => (x.toNat : Int)) (by simpa using hl) (fun i hi => h6 i _ (bv_at (by omega))) dst hd
        rw [this, strOf]
        rfl
      · have hm0 : m = 0 := by omega
        have hb : bs = [] := List.eq_nil_of_length_eq_zero (by omega)
        subst hb
        subst hm0
        cases A with
        | none => exact run_convert_bytes_nil (P := P) w src e hs he _ _ dst hd
        | some p =>
          have hl0 : (loadCells p 0).run P w = .ok #[] w := by simpa using run_loadCells_list (P := P) w p [] (by simp)
          rw [run_convert_bytes_string w src dst e _ _ _ hs he hd]
          simp [Conv.bytesToString, hl0, sv]
          rfl
    simp [execOp, hst.eval hx, key]
theorem sv_eq (a b : List UInt8) : (sv a = sv b) ↔ a = b := by
  constructor
  · intro h
    have := congrArg (fun v => match v with | .string s => s.data.toList | _ => []) h
    simpa [sv] using this
  · intro h; rw [h]
theorem str_beq (a b : List UInt8) : ((⟨a.toArray⟩ : ByteArray).toList == (⟨b.toArray⟩ : ByteArray).toList) = decide (a = b) := by
  rw [ByteArray.toList_eq, ByteArray.toList_eq]
  show (a == b) = decide (a = b)
  by_cases h : a = b
  · subst h; simp
  · simp [h]
theorem op_eqls {a b : List UInt8} (hn : d < n) (hx : evr L x = some (sv a)) (hy : evr L y = some (sv b)) :
    Val P ⟨some d, .binOp .eql xt x y yt, ty, pos, af, g⟩ n L H d (.bool (decide (a = b))) :=
  binop_val hn hx hy (fun _ _ => rfl) fun w => by
    show (binOp .eql xt (.string _) (.string _)).run P w = _
    rw [binOp_string_eql, str_beq]
    rfl
theorem op_neqs {a b : List UInt8} (hn : d < n) (hx : evr L x = some (sv a)) (hy : evr L y = some (sv b)) :
    Val P ⟨some d, .binOp .neq xt x y yt, ty, pos, af, g⟩ n L H d (.bool (decide (a ≠ b))) :=
  binop_val hn hx hy (fun _ _ => rfl) fun w => by
    show (binOp .neq xt (.string _) (.string _)).run P w = _
    rw [binOp_string_neq, str_beq, ← decide_not]
    rfl
/-- A slice compared with nil. -/
theorem op_eqlsnil {A : Option Addr} {m c : Nat} (hu : P.underlying xt = some (.slice e)) (hn : d < n) (hx : evr L x = some (.slice A m c)) (hy : evr L y = some (.slice none 0 0)) :
    Val P ⟨some d, .binOp .eql xt x y yt, ty, pos, af, g⟩ n L H d (.bool (decide (A = none))) :=
  binop_val hn hx hy (fun _ _ => rfl) fun w => by
    have h : ∀ k, (Op.equalIn (k + 1) xt (.slice A m c) (.slice none 0 0)).run P w = .ok (decide (A = none)) w := fun k => by
      cases A <;> simp [Op.equalIn, Sem.run_bind, run_underlying hu]
    have h2 : (Op.equal xt (.slice A m c) (.slice none 0 0)).run P w = .ok (decide (A = none)) w := h 9999
    simp only [binOp, Sem.run_bind, h2, Result.andThen]
    rfl
end
end
end Go.Proofs.Ythephcghglldaaa.Sx
