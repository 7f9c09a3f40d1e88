/- The engine: control, calls, loops, regions that draw. Plain theorems over any program. -/
import Derived.Test.YthephcghglldaaaSz
set_option linter.unusedVariables false
set_option linter.unusedSimpArgs false
namespace Go.Proofs.Ythephcghglldaaa.Sx
open Go.RowKit

section
variable {P : Program} {Q : Exit → Act → World → Prop} {n : Nat} {L L' : List (Nat × Value)} {H H' F : List Ch} {ops : Array Oper} {rest : List Oper} {o : Oper}
variable {x y c : Code} {id id' : Nat} {K : Act → World → Prop}

theorem WC.seq (h : WC P x (Exit.then (y.wp P Q) Q) n L H) : WC P (.seq x y) Q n L H := fun a w hs => wp_seq (h a w hs)
theorem WC.block (h : WC P c (Exit.inBlock id Q) n L H) : WC P (.block id c) Q n L H := fun a w hs => wp_block (h a w hs)
theorem WC.skip (h : WX Q .normal n L H) : WC P .skip Q n L H := fun a w hs => wp_skip (h a w hs)
theorem WC.label {l : Nat} (h : WX Q .normal n L H) : WC P (.label l) Q n L H := fun a w hs => wp_label (h a w hs)
theorem WC.exit (h : WX Q (.exit id) n L H) : WC P (.exit id) Q n L H := fun a w hs => wp_exit (h a w hs)
theorem WC.ret (h : WX Q .ret n L H) : WC P .ret Q n L H := fun a w hs => wp_ret (h a w hs)
theorem WC.region {l : List Oper} (h : WL P l.toArray Q l n L H) : WC P (.region id l.toArray false) Q n L H := fun a w hs => wp_region_lit (h a w hs)
theorem WL.nil (h : WX Q .normal n L H) : WL P ops Q [] n L H := fun a w hs => wpList_nil (h a w hs)
theorem WX.next (h : WC P y Q n L H) {Q' : Exit → Act → World → Prop} : WX (Exit.then (y.wp P Q) Q') .normal n L H := fun a w hs => h a w hs
theorem WX.then_exit (h : WX Q (.exit id) n L H) : WX (Exit.then K Q) (.exit id) n L H := fun a w hs => h a w hs
theorem WX.then_ret (h : WX Q .ret n L H) : WX (Exit.then K Q) .ret n L H := fun a w hs => h a w hs
theorem WX.in_hit (h : WX Q .normal n L H) : WX (Exit.inBlock id Q) (.exit id) n L H := fun a w hs => by
  simp only [Exit.inBlock, if_true]
  exact h a w hs
theorem WX.in_miss (hne : (id' == id) = false) (h : WX Q (.exit id') n L H) : WX (Exit.inBlock id Q) (.exit id') n L H := fun a w hs => by
  have : ¬ id' = id := by simpa using hne
  simp only [Exit.inBlock, this, if_false]
  exact h a w hs
theorem WX.in_normal (h : WX Q .normal n L H) : WX (Exit.inBlock id Q) .normal n L H := fun a w hs => h a w hs
theorem WX.in_ret (h : WX Q .ret n L H) : WX (Exit.inBlock id Q) .ret n L H := fun a w hs => h a w hs
theorem WC.cond {p : Prop} [Decidable p] {z : Operand} (hc : evr L z = some (.bool (decide p))) (ht : p → WC P x Q n L H) (hf : ¬ p → WC P y Q n L H) : WC P (.cond z x y) Q n L H :=
  fun a w hs => wp_cond_split (hs.eval hc) (fun h => ht (of_decide_eq_true h) a w hs) (fun h => hf (of_decide_eq_false h) a w hs)
theorem WC.condb {p : Bool} {z : Operand} (hc : evr L z = some (.bool p)) (ht : p = true → WC P x Q n L H) (hf : p = false → WC P y Q n L H) : WC P (.cond z x y) Q n L H :=
  fun a w hs => wp_cond_split (hs.eval hc) (fun h => ht h a w hs) (fun h => hf h a w hs)
theorem WC.condT {z : Operand} (hc : evr L z = some (.bool true)) (ht : WC P x Q n L H) : WC P (.cond z x y) Q n L H := fun a w hs => wp_cond_true (hs.eval hc) (ht a w hs)
theorem WC.condF {z : Operand} (hc : evr L z = some (.bool false)) (hf : WC P y Q n L H) : WC P (.cond z x y) Q n L H := fun a w hs => wp_cond_false (hs.eval hc) (hf a w hs)

/-! ### Another view of the state -/
/-- The registers 'L'' are among 'L'. -/
inductive RS (L : List (Nat × Value)) : List (Nat × Value) → Prop
  | nil : RS L []
  | cons {e : Nat} {v : Value} {l : List (Nat × Value)} : get L e = some v → RS L l → RS L ((e, v) :: l)
theorem RS.mem {L l : List (Nat × Value)} (h : RS L l) : ∀ p ∈ l, get L p.1 = some p.2 := by
  induction h with
  | nil => intro p hp; cases hp
  | cons h1 _ ih =>
    intro p hp
    rcases List.mem_cons.1 hp with rfl | hp
    · exact h1
    · exact ih p hp
theorem Regs.sub {a : Act} (h : Regs n L a) (k : RS L L') : Regs n L' a := ⟨h.size, h.defers, fun d v hv => h.get d v (k.mem _ (get_mem hv))⟩
theorem St.sub {a : Act} {w : World} (h : St n L H a w) (k : RS L L') (t : Takes H H' F) : St n L' H' a w := ⟨h.regs.sub k, h.sat.only t⟩
theorem St.regsub {a : Act} {w : World} (h : St n L H a w) (k : RS L L') : St n L' H a w := ⟨h.regs.sub k, h.sat⟩
theorem WC.sub (k : RS L L') (t : Takes H H' F) (h : WC P c Q n L' H') : WC P c Q n L H := fun a w hs => h a w (hs.sub k t)
theorem WC.regs (k : RS L L') (h : WC P c Q n L' H) : WC P c Q n L H := fun a w hs => h a w (hs.regsub k)
theorem WC.conv (k : ∀ a w, St n L H a w → St n L' H' a w) (h : WC P c Q n L' H') : WC P c Q n L H := fun a w hs => h a w (k a w hs)
theorem WL.conv (k : ∀ a w, St n L H a w → St n L' H' a w) (h : WL P ops Q rest n L' H') : WL P ops Q rest n L H := fun a w hs => h a w (k a w hs)
theorem WL.sub (k : RS L L') (t : Takes H H' F) (h : WL P ops Q rest n L' H') : WL P ops Q rest n L H := fun a w hs => h a w (hs.sub k t)
theorem WL.nilslice {e : TypeId} {sz : Nat} (h : WL P ops Q rest n L (own (.slice none 0 0) e sz 0 [] :: H)) : WL P ops Q rest n L H :=
  fun a w hs => h a w ⟨hs.regs, hs.sat.grow ⟨by simp, .inl ⟨rfl, rfl⟩⟩ (Chg.refl _ _) (fun b hb => by simp [own, Value.ownBlock] at hb)⟩
theorem WC.nilslice (e : TypeId) (sz : Nat) (h : WC P c Q n L (own (.slice none 0 0) e sz 0 [] :: H)) : WC P c Q n L H :=
  fun a w hs => h a w ⟨hs.regs, hs.sat.grow ⟨by simp, .inl ⟨rfl, rfl⟩⟩ (Chg.refl _ _) (fun b hb => by simp [own, Value.ownBlock] at hb)⟩
/-- Several ways that meet: behind the code 'x' the state is one of a family. -/
theorem WC.cut {X : Type} (φ : X → Prop) (LL : X → List (Nat × Value)) (HH : X → List Ch)
    (h1 : WC P x (Exit.then (fun a w => ∃ q, φ q ∧ St n (LL q) (HH q) a w) Q) n L H) (h2 : ∀ q, φ q → WC P y Q n (LL q) (HH q)) : WC P (.seq x y) Q n L H :=
  WC.seq fun a w hs => wp_mono (h1 a w hs) (by
    intro e a' w' he
    cases e with
    | normal => obtain ⟨q, hq, hst⟩ := he; exact h2 q hq a' w' hst
    | _ => exact he)
theorem WX.meet {X : Type} {φ : X → Prop} {LL : X → List (Nat × Value)} {HH : X → List Ch} {Q' : Exit → Act → World → Prop} (q : X) (hφ : φ q) (hst : ∀ a w, St n L H a w → St n (LL q) (HH q) a w) :
    WX (Exit.then (fun a w => ∃ q, φ q ∧ St n (LL q) (HH q) a w) Q') .normal n L H := fun a w hs => ⟨q, hφ, hst a w hs⟩

/-! ### Loops -/
theorem WC.loop {X : Type} (m : X → Nat) (φ : X → Prop) (LL : X → List (Nat × Value)) (HH : X → List Ch) (x0 : X) (h0 : φ x0) (hstart : ∀ a w, St n L H a w → St n (LL x0) (HH x0) a w)
    (hround : ∀ q, φ q → WC P c (Exit.then (fun a w => ∃ q', (φ q' ∧ m q' < m q) ∧ St n (LL q') (HH q') a w) Q) n (LL q) (HH q)) : WC P (.loop c) Q n L H := by
  intro a w hs
  have key : ∀ k q a w, m q = k → φ q → St n (LL q) (HH q) a w → ∀ (b : Frame) (kk : List Item) (cs : List Frame),
      ∃ e a' w', Q e a' w' ∧ Arrives P (lone (b.at a (.code c :: .inLoop c :: kk)) cs w) b kk cs e a' w' := by
    intro k
    induction k using Nat.strongRecOn with
    | _ k ih =>
      intro q a w hk hq hst b kk cs
      obtain ⟨e, a₁, w₁, hQ, harr⟩ := hround q hq a w hst b (.inLoop c :: kk) cs
      cases e with
      | normal =>
        obtain ⟨q', ⟨hq', hlt⟩, hst'⟩ := hQ
        obtain ⟨e₂, a₂, w₂, hq₂, harr₂⟩ := ih (m q') (hk ▸ hlt) q' a₁ w₁ rfl hq' hst' b kk cs
        exact ⟨e₂, a₂, w₂, hq₂, .of_steps (Steps.trans harr (.one step_inLoop)) harr₂⟩
      | exit id => exact ⟨_, a₁, w₁, hQ, .pass (x := .inLoop c) rfl (fun _ _ => .inl (by simp)) harr⟩
      | goto l => exact ⟨_, a₁, w₁, hQ, .pass (x := .inLoop c) rfl (fun _ _ => .inl (by simp)) harr⟩
      | ret => exact ⟨_, a₁, w₁, hQ, .pass (x := .inLoop c) rfl (fun _ _ => .inl (by simp)) harr⟩
      | panic ch => exact ⟨_, a₁, w₁, hQ, .pass (x := .inLoop c) rfl (fun _ _ => .inl (by simp)) harr⟩
      | outgrown => exact ⟨_, a₁, w₁, hQ, .pass (x := .inLoop c) rfl (fun _ _ => .inl (by simp)) harr⟩
  intro b kk cs
  obtain ⟨e, a', w', hq, harr⟩ := key _ x0 a w rfl h0 (hstart a w hs) b kk cs
  exact ⟨e, a', w', hq, .of_steps (.one step_loop) harr⟩

/-! ### Guards -/
theorem wlg_yes {Post : Act → World → Prop} {j dj : Nat} {b : Bool} (ho : Opn P Q o n L H Post) (hg : o.guard = some (j, b)) (hj : (ops[j]?).bind (·.dst) = some dj) (hb : get L dj = some (.bool b))
    (h : ∀ a w, Post a w → wpList P ops Q rest a w) : WL P ops Q (o :: rest) n L H := fun a w hs => by
  refine wpList_step fun K hK => ?_
  have hy : yielded ops a.tmps j = some b := by simp [yielded, hj, hs.regs.get dj _ hb]
  have hw : Region.wanted o (yielded ops a.tmps) = true := by simp [Region.wanted, hg, hy]
  rw [if_pos hw]
  exact ho a w hs K fun a' w' hp => hK a' w' (h a' w' hp)
theorem wlg_no {j dj : Nat} {b b' : Bool} (hg : o.guard = some (j, b)) (hj : (ops[j]?).bind (·.dst) = some dj) (hb : get L dj = some (.bool b')) (hne : (b' == b) = false)
    {d : Nat} (hd : o.dst = some d) (hn : d < n) (h : WL P ops Q rest n (upd L d undef) H) : WL P ops Q (o :: rest) n L H := fun a w hs => by
  refine wpList_step fun K hK => ?_
  have hy : yielded ops a.tmps j = some b' := by simp [yielded, hj, hs.regs.get dj _ hb]
  have hne' : ¬ b' = b := by simpa using hne
  have hw : ¬ Region.wanted o (yielded ops a.tmps) = true := by simp [Region.wanted, hg, hy, hne']
  rw [if_neg hw, hd]
  exact hK _ _ (h _ _ ⟨hs.regs.put hn _, hs.sat⟩)
/-- The guard's guard was not met: the guard's own register is undefined. -/
theorem wlg_undef {j dj : Nat} {b : Bool} (hg : o.guard = some (j, b)) (hj : (ops[j]?).bind (·.dst) = some dj) (hb : get L dj = some undef)
    {d : Nat} (hd : o.dst = some d) (hn : d < n) (h : WL P ops Q rest n (upd L d undef) H) : WL P ops Q (o :: rest) n L H := fun a w hs => by
  refine wpList_step fun K hK => ?_
  have hy : yielded ops a.tmps j = none := by simp [yielded, hj, hs.regs.get dj _ hb, undef]
  have hw : ¬ Region.wanted o (yielded ops a.tmps) = true := by simp [Region.wanted, hg, hy]
  rw [if_neg hw, hd]
  exact hK _ _ (h _ _ ⟨hs.regs.put hn _, hs.sat⟩)

/-! ### Contracts -/
def argL : Nat → List Value → List (Nat × Value)
  | _, [] => []
  | k, v :: vs => (k, v) :: argL (k + 1) vs
theorem argL_get : ∀ (vs : List Value) (k d : Nat) (v : Value), get (argL k vs) d = some v → k ≤ d ∧ vs[d - k]? = some v
  | [], _, _, _, h => by cases h
  | u :: vs, k, d, v, h => by
    simp only [argL, get] at h
    cases hb : Nat.beq k d with
    | true =>
      have : k = d := Nat.eq_of_beq_eq_true hb
      rw [hb] at h
      simp only [cond_true, Option.some.injEq] at h
      subst this
      exact ⟨Nat.le_refl _, by simp [h]⟩
    | false =>
      rw [hb] at h
      obtain ⟨h1, h2⟩ := argL_get vs (k + 1) d v h
      refine ⟨by omega, ?_⟩
      have : d - k = (d - (k + 1)) + 1 := by omega
      rw [this]
      simpa using h2
/-- What a call of 'f' does: 'T' is given to it, 'D' is read, 'B' comes back. -/
def Spec (P : Program) (f : FuncId) (args : List Value) (T D : List Ch) {R : Type} (φ : R → Prop) (ret : R → Value) (B : R → List Ch) : Prop :=
  ∀ w, Sat w (T ++ D) → Calls P f args.toArray w fun e w' => ∃ r, e = .returned (ret r) ∧ φ r ∧ Sat w' (B r) ∧ Chg (MutF T) w w' ∧ ∀ c ∈ B r, ∀ b, c.foot b → w.heap.size ≤ b ∨ MutF T b
/-- The body's post, at a contract's end. -/
def Fin (P : Program) (fn : Func) (w0 : World) (T : List Ch) {R : Type} (φ : R → Prop) (ret : R → Value) (B : R → List Ch) : Exit → Act → World → Prop :=
  bodyPost P fn fun e w' => ∃ r, e = .returned (ret r) ∧ φ r ∧ Sat w' (B r) ∧ Chg (MutF T) w0 w' ∧ ∀ c ∈ B r, ∀ b, c.foot b → w0.heap.size ≤ b ∨ MutF T b
theorem Spec.intro {f : FuncId} {fn : Func} {args : List Value} {T D : List Ch} {R : Type} {φ : R → Prop} {ret : R → Value} {B : R → List Ch} (hf : P.funcs[f]? = some fn) {m : Nat} (hm : fn.ntmps = m) (hb : fn.body = some c)
    (hsz : args.length ≤ m) (hD : ∀ d ∈ D, d.ex = false) (h : ∀ w0, WC P c (Fin P fn w0 T φ ret B) m (argL 0 args) (T ++ D ++ [frameC w0 (MutF T)])) : Spec P f args T D φ ret B := by
  intro w hs
  refine calls_of_wp hf hb (h w _ w ⟨⟨?_, rfl, ?_⟩, ?_⟩)
  · simp [hm]; omega
  · intro d v hv
    obtain ⟨_, h2⟩ := argL_get args 0 d v hv
    simp only [Nat.sub_zero] at h2
    have hlt := (List.getElem?_eq_some_iff.1 h2).1
    rw [Array.getElem?_append_left (by simpa using hlt)]
    simpa using h2
  · have h2 : Sat w ([] ++ (T ++ D)) := hs
    refine ⟨fun x hx => ?_, List.pairwise_append.2 ⟨hs.apart, List.pairwise_singleton .., fun x hx y hy hm b hxf hyf => ?_⟩⟩
    · rcases List.mem_append.1 hx with hx | hx
      · exact hs.ok x hx
      · rw [List.mem_singleton.1 hx]
        exact Chg.refl _ _
    · rw [List.mem_singleton.1 hy] at hyf hm
      rcases hm with hm | hm
      · rcases List.mem_append.1 hx with hx | hx
        · exact hyf.2 ⟨x, hx, hm, hxf⟩
        · rw [hD x hx] at hm; cases hm
      · cases hm

/-! ### Results -/
def resOne (rv : ResultVar) (tmps : Array Value) : Sem Value := match rv with
  | .tmp t => pure (tmps.getD t undef)
  | .cell a t => do loadVar t (← asAddr (tmps.getD a undef))
structure Res (P : Program) (n : Nat) (L : List (Nat × Value)) (H : List Ch) (rv : ResultVar) (v : Value) : Prop where
  run : ∀ a w, St n L H a w → (resOne rv a.tmps).run P w = .ok v w
theorem Res.tmp {t : Tmp} {v : Value} (h : get L t = some v) : Res P n L H (.tmp t) v := ⟨fun a w hs => by
  have := hs.regs.get t v h
  simp [resOne, Array.getD_eq_getD_getElem?, this]⟩
theorem Res.cellN {t : Tmp} {ty bt : TypeId} {b sz : Nat} {cs : List Value} (h : get L t = some (.pointer (some ⟨b, 0, none⟩))) (ht : Agg P ty sz) (hc : blk b cs bt ∈ H) (hl : cs.length = sz) : Res P n L H (.cell t ty) (.agg cs.toArray) := ⟨fun a w hs => by
  have h1 := hs.regs.get t _ h
  have hb : w.heap[b]? = some (.cells cs.toArray bt (0, 0)) := hs.sat.ok _ hc
  have hcell : ∀ j u, cs[j]? = some u → w.cell? ((⟨b, 0, none⟩ : Addr).add j) = some u := by
    intro j u hu
    rw [add_at, cell_of_row w b _ _ _ _ hb]
    simpa using hu
  simp [resOne, Array.getD_eq_getD_getElem?, h1, asAddr, run_loadN ht hl hcell]⟩
theorem Res.cell1 {t : Tmp} {ty bt : TypeId} {b : Nat} {cs : List Value} {v : Value} (h : get L t = some (.pointer (some ⟨b, 0, none⟩))) (ht : Flat P ty) (hc : blk b cs bt ∈ H) (hv : cs[0]? = some v) : Res P n L H (.cell t ty) v := ⟨fun a w hs => by
  have h1 := hs.regs.get t _ h
  have hb : w.heap[b]? = some (.cells cs.toArray bt (0, 0)) := hs.sat.ok _ hc
  have hcell : w.cell? ⟨b, 0, none⟩ = some v := by rw [cell_of_row w b _ _ _ _ hb]; simpa using hv
  simp [resOne, Array.getD_eq_getD_getElem?, h1, asAddr, run_load1 ht hcell]⟩
theorem results_eq (fn : Func) (tmps : Array Value) : results fn tmps = (do
    let vs ← fn.results.mapM fun rv => resOne rv tmps
    pure (if h : vs.size = 1 then vs[0] else .tuple vs)) := by
  unfold results
  congr 1
theorem Fin.go {fn : Func} {w0 : World} {T : List Ch} {R : Type} {φ : R → Prop} {ret : R → Value} {B : R → List Ch} {e : Exit} (he : e = .ret ∨ e = .normal) (r : R) (hφ : φ r)
    (hres : ∀ a w, St n L H a w → (results fn a.tmps).run P w = .ok (ret r) w) (hB : Takes H (frameC w0 (MutF T) :: B r) F) (hex : ∀ c ∈ B r, c.ex = true) : WX (Fin P fn w0 T φ ret B) e n L H := by
  intro a w hs
  have hsat := (hs.sat.takes hB).app_left
  have hchg : Chg (MutF T) w0 w := hsat.head
  have hap := (List.pairwise_cons.1 hsat.apart).1
  have hfin : a.defers = [] ∧ ∃ v, (results fn a.tmps).run P w = .ok v w ∧ ∃ r, Ending.returned v = .returned (ret r) ∧ φ r ∧ Sat w (B r) ∧ Chg (MutF T) w0 w ∧ ∀ c ∈ B r, ∀ b, c.foot b → w0.heap.size ≤ b ∨ MutF T b := by
    refine ⟨hs.regs.defers, _, hres a w hs, r, rfl, hφ, hsat.tail, hchg, fun c hc b hb => ?_⟩
    by_cases hlt : b < w0.heap.size
    · right
      by_cases hm : MutF T b
      · exact hm
      · exact absurd hb (hap c hc (.inr (hex c hc)) b ⟨hlt, hm⟩)
    · left; omega
  rcases he with rfl | rfl <;> exact hfin
theorem Fin.ret0 {fn : Func} {w0 : World} {T : List Ch} {R : Type} {φ : R → Prop} {ret : R → Value} {B : R → List Ch} {e : Exit} (he : e = .ret ∨ e = .normal) (r : R) (hφ : φ r)
    (hr : fn.results = #[]) (hv : ret r = .tuple #[]) (hB : Takes H (frameC w0 (MutF T) :: B r) F) (hex : ∀ c ∈ B r, c.ex = true) : WX (Fin P fn w0 T φ ret B) e n L H :=
  Fin.go he r hφ (fun a w hs => by rw [results_eq, hr, hv]; simp) hB hex
theorem Fin.ret1 {fn : Func} {w0 : World} {T : List Ch} {R : Type} {φ : R → Prop} {ret : R → Value} {B : R → List Ch} {e : Exit} (he : e = .ret ∨ e = .normal) (r : R) (hφ : φ r) {r1 : ResultVar}
    (hr : fn.results = #[r1]) (h1 : Res P n L H r1 (ret r)) (hB : Takes H (frameC w0 (MutF T) :: B r) F) (hex : ∀ c ∈ B r, c.ex = true) : WX (Fin P fn w0 T φ ret B) e n L H :=
  Fin.go he r hφ (fun a w hs => by rw [results_eq, hr]; simp [h1.run a w hs]) hB hex
theorem Fin.ret2 {fn : Func} {w0 : World} {T : List Ch} {R : Type} {φ : R → Prop} {ret : R → Value} {B : R → List Ch} {e : Exit} (he : e = .ret ∨ e = .normal) (r : R) (hφ : φ r) {r1 r2 : ResultVar} {v1 v2 : Value}
    (hr : fn.results = #[r1, r2]) (hv : ret r = .tuple #[v1, v2]) (h1 : Res P n L H r1 v1) (h2 : Res P n L H r2 v2) (hB : Takes H (frameC w0 (MutF T) :: B r) F) (hex : ∀ c ∈ B r, c.ex = true) : WX (Fin P fn w0 T φ ret B) e n L H :=
  Fin.go he r hφ (fun a w hs => by rw [results_eq, hr, hv]; simp [h1.run a w hs, h2.run a w hs]) hB hex
theorem Fin.ret3 {fn : Func} {w0 : World} {T : List Ch} {R : Type} {φ : R → Prop} {ret : R → Value} {B : R → List Ch} {e : Exit} (he : e = .ret ∨ e = .normal) (r : R) (hφ : φ r) {r1 r2 r3 : ResultVar} {v1 v2 v3 : Value}
    (hr : fn.results = #[r1, r2, r3]) (hv : ret r = .tuple #[v1, v2, v3]) (h1 : Res P n L H r1 v1) (h2 : Res P n L H r2 v2) (h3 : Res P n L H r3 v3) (hB : Takes H (frameC w0 (MutF T) :: B r) F) (hex : ∀ c ∈ B r, c.ex = true) : WX (Fin P fn w0 T φ ret B) e n L H :=
  Fin.go he r hφ (fun a w hs => by rw [results_eq, hr, hv]; simp [h1.run a w hs, h2.run a w hs, h3.run a w hs]) hB hex

/-! ### Calls -/
/-- What a call is given, and what it reads of the rest. -/
structure Give (H T D F : List Ch) : Prop where
  t : Takes H T F
  d : Reads F D
def Callable (P : Program) (f : FuncId) : Prop := (P.funcs[f]?).map (fun fn => (fn.name == "runtime.NumGoroutine", fn.body.isNone)) = some (false, false)
theorem Callable.run {f : FuncId} (h : Callable P f) (args : Array Value) (w : World) : (callFunc f args).run P w = .ok (.enter f args) w := by
  obtain ⟨fn, hf, hq⟩ := Option.map_eq_some_iff.1 h
  simp only [Prod.mk.injEq] at hq
  simp only [callFunc, Sem.run_bind]
  have h1 : ¬ fn.name = "runtime.NumGoroutine" := by simpa using hq.1
  have h2 : ¬ fn.body = none := by
    have := hq.2
    intro e
    rw [e] at this
    cases this
  simp [program, Sem.run, hf, h1, h2]
section
variable {d : Nat} {ty : TypeId} {pos : String} {af : Array Edge} {g : Option (Nat × Bool)} {f : FuncId}
theorem evals {a : Act} {w : World} (hs : St n L H a w) : ∀ (xs : List Operand) (vs : List Value), xs.map (evr L) = vs.map some → xs.map a.eval = vs
  | [], [], _ => rfl
  | [], _ :: _, h => by cases h
  | _ :: _, [], h => by cases h
  | x :: xs, v :: vs, h => by
    simp only [List.map_cons, List.cons.injEq] at h
    simp only [List.map_cons, hs.eval h.1, evals hs xs vs h.2]
theorem run_callOp {dst : Option Tmp} {as : List Operand} {vs : List Value} {ats : Array TypeId} (hc : Callable P f) {a : Act} {w : World} (he : as.map a.eval = vs) :
    (execOp a.eval ⟨dst, .call { callee := .value (.func f), args := as.toArray, argTypes := ats }, ty, pos, af, g⟩).run P w = .ok (.enter f vs.toArray) w := by
  have e1 : as.toArray.map a.eval = vs.toArray := by rw [List.map_toArray, he]
  have e2 : a.eval (.func f) = .func (.func f) #[] #[] := rfl
  simp only [execOp, resolve, Deferred.ofValue, invoke, e1, e2, Sem.run_bind, Sem.run_pure, Result.andThen_ok]
  simp [hc.run]
/-- A call by contract. -/
theorem op_call {as : List Operand} {vs : List Value} {ats : Array TypeId} {T D : List Ch} {R : Type} {φ : R → Prop} {ret : R → Value} {B : R → List Ch} (hsp : Spec P f vs T D φ ret B) (hc : Callable P f) (hn : d < n)
    (hargs : as.map (evr L) = vs.map some) (hG : Give H T D F) :
    Opn P Q ⟨some d, .call { callee := .value (.func f), args := as.toArray, argTypes := ats }, ty, pos, af, g⟩ n L H (fun a w => ∃ r, φ r ∧ St n (upd L d (ret r)) (B r ++ F) a w) := by
  intro a w hs K hK
  unfold Oper.wp
  rw [run_callOp hc (evals hs as vs hargs), Oper.upon_enter]
  have h1 := hs.sat.takes hG.t
  refine (hsp w (h1.ros hG.d.all)).mono ?_
  rintro e w' ⟨r, rfl, hφ, hB, hchg, hnew⟩
  exact hK _ _ ⟨r, hφ, hs.regs.put hn _, h1.frame hB hchg hnew⟩
/-- A call whose result is not wanted. -/
theorem op_call_ {as : List Operand} {vs : List Value} {ats : Array TypeId} {T D : List Ch} {R : Type} {φ : R → Prop} {ret : R → Value} {B : R → List Ch} (hsp : Spec P f vs T D φ ret B) (hc : Callable P f)
    (hargs : as.map (evr L) = vs.map some) (hG : Give H T D F) :
    Opn P Q ⟨none, .call { callee := .value (.func f), args := as.toArray, argTypes := ats }, ty, pos, af, g⟩ n L H (fun a w => ∃ r, φ r ∧ St n L (B r ++ F) a w) := by
  intro a w hs K hK
  unfold Oper.wp
  rw [run_callOp hc (evals hs as vs hargs), Oper.upon_enter]
  have h1 := hs.sat.takes hG.t
  refine (hsp w (h1.ros hG.d.all)).mono ?_
  rintro e w' ⟨r, rfl, hφ, hB, hchg, hnew⟩
  exact hK _ _ ⟨r, hφ, hs.regs, h1.frame hB hchg hnew⟩
end

/-! ### Regions that draw: what is read may come first; the last writer 'e' alone may change what is read, and it waits for all that is taken first -/
def wpAnyE (P : Program) (ops : Array Oper) (Q : Exit → Act → World → Prop) (S : World → Prop) (e : Nat) : Nat → Array Bool → Act → World → Prop
  | 0, listed, a, w => Region.ready .any ops listed = [] ∧ Q .normal a w
  | fuel + 1, listed, a, w => (Region.ready .any ops listed = [] → Q .normal a w) ∧
      ∀ i ∈ Region.ready .any ops listed, wpOp P ops Q i (fun a' w' => (i ≠ e → S w') ∧ wpAnyE P ops Q S e fuel (listed.setIfInBounds i true) a' w') a w
theorem wpAnyE.any {S : World → Prop} {e : Nat} : ∀ (fuel : Nat) (listed : Array Bool) (a : Act) (w : World), wpAnyE P ops Q S e fuel listed a w → wpAny P .any ops Q fuel listed a w
  | 0, _, _, _, h => h
  | fuel + 1, _, _, _, h => ⟨h.1, fun i hi => wpOp_mono (fun a' w' k => wpAnyE.any fuel _ a' w' k.2) (h.2 i hi)⟩
/-- The last writer waits for operation i. -/
def waits (ops : Array Oper) (e i : Nat) : Bool := match ops[e]? with
  | some oe => oe.after.any fun d => Region.binds .any d && d.on == i
  | none => true
theorem not_listed {listed : Array Bool} {i : Nat} (h : i ∈ Region.ready .any ops listed) : listed.getD i true = false := (mem_ready.1 h).1
theorem first_in_any {S : World → Prop} {e i : Nat} {oi : Oper} {v : Value} (hi : ops[i]? = some oi) (hsel : Region.noSelect ops = true) (hwait : waits ops e i = true)
    (hQ : ∀ c a w, Q (.panic c) (a.put oi.dst v) w → Q (.panic c) a w) :
    ∀ (fuel : Nat) (listed : Array Bool) (a : Act) (w : World), Region.free .any ops listed i = true → i ∈ Region.ready .any ops listed → YieldsIf P ops S oi v a → S w →
      wpAnyE P ops Q S e fuel (listed.setIfInBounds i true) (a.put oi.dst v) w → wpAnyE P ops Q S e (fuel + 1) listed a w := by
  have hfreeSpec := fun listed h => Region.free_spec (ops := ops) (md := .any) (listed := listed) hi h
  suffices H : ∀ (fuel : Nat) (listed : Array Bool) (a : Act) (w : World),
      (∀ j oj, ops[j]? = some oj → j ≠ i → listed.getD j true = false → (∀ d ∈ oj.after, Region.binds .any d = true → d.on ≠ i) → oi.apart ops oj = true) →
      i ∈ Region.ready .any ops listed → YieldsIf P ops S oi v a → S w →
      wpAnyE P ops Q S e fuel (listed.setIfInBounds i true) (a.put oi.dst v) w → wpAnyE P ops Q S e (fuel + 1) listed a w from
    fun fuel listed a w hf hr hy hS hk => H fuel listed a w (hfreeSpec listed hf) hr hy hS hk
  intro fuel
  induction fuel with
  | zero =>
    intro listed a w _ hr hy hS hk
    refine ⟨fun h0 => absurd hr (by rw [h0]; exact List.not_mem_nil), fun j hj => ?_⟩
    rcases Decidable.em (j = i) with rfl | hne
    · exact hy.wpOp hi hS ⟨fun _ => hS, hk⟩
    · have hj' := ready_mono hj hne
      rw [hk.1] at hj'
      exact absurd hj' List.not_mem_nil
  | succ fuel ih =>
    intro listed a w hfree hr hy hS hk
    refine ⟨fun h0 => absurd hr (by rw [h0]; exact List.not_mem_nil), fun j hj => ?_⟩
    rcases Decidable.em (j = i) with rfl | hne
    · exact hy.wpOp hi hS ⟨fun _ => hS, hk⟩
    have hul : listed.getD i true = false := not_listed hr
    obtain ⟨hju, oj, hoj, hall⟩ := mem_ready.1 hj
    have hnoedge : ∀ d ∈ oj.after, Region.binds .any d = true → d.on ≠ i := by
      intro d hd hb heq
      have h1 := hall d hd hb
      rw [heq] at h1
      rcases Nat.lt_or_ge i listed.size with hlt | hge
      · simp [hlt] at h1 hul
        rw [hul] at h1
        cases h1
      · simp [Array.getElem?_eq_none hge] at h1
    have hje : j ≠ e := by
      rintro rfl
      simp only [waits, hoj, Array.any_eq_true] at hwait
      obtain ⟨k, hk1, hk2⟩ := hwait
      simp only [Bool.and_eq_true, beq_iff_eq] at hk2
      exact hnoedge _ (Array.getElem_mem hk1) hk2.1 hk2.2
    have hsel' : ∀ (j : Nat) (o : Oper) cs b, ops[j]? = some o → o.op ≠ .select cs b := Region.noSelect_spec hsel
    have h2 := wpOp_putIf hoj (hfree j oj hoj hne hju hnoedge) (fun cs b => hsel' i oi cs b hi) (fun cs b => hsel' j oj cs b hoj) hQ hy (hk.2 j (ready_mono hj hne))
    refine wpOp_mono (fun a' w' h3 => ?_) h2
    obtain ⟨hy', hS', hk'⟩ := h3
    refine ⟨hS', ih (listed.setIfInBounds j true) a' w' ?_ (ready_mono hr (Ne.symm hne)) hy' (hS' hje) (by rw [Array.setIfInBounds_comm _ _ hne]; exact hk')⟩
    intro k ok hok hki hun hno
    refine hfree k ok hok hki ?_ hno
    rcases Decidable.em (j = k) with rfl | hjk
    · exact hju
    · rwa [getD_set_ne true hjk] at hun

def WA (P : Program) (ops : Array Oper) (Q : Exit → Act → World → Prop) (S : World → Prop) (e : Nat) (fuel : Nat) (listed : Array Bool) (n : Nat) (L : List (Nat × Value)) (H : List Ch) : Prop :=
  ∀ a w, St n L H a w → wpAnyE P ops Q S e fuel listed a w
theorem WC.drawn {Hs : List Ch} (hm : P.follows .mixedOrders = true) (e : Nat) (h : WA P ops Q (fun w => Sat w Hs) e ops.size (Array.replicate ops.size false) n L H) : WC P (.region id ops true) Q n L H :=
  fun a w hs => wp_region_any hm (wpAnyE.any _ _ _ _ (h a _ ⟨hs.regs, hs.sat.chg (Chg.drew _ w)⟩))
theorem WC.drawnH (hm : P.follows .mixedOrders = true) (e : Nat) (h : WA P ops Q (fun w => Sat w H) e ops.size (Array.replicate ops.size false) n L H) : WC P (.region id ops true) Q n L H := WC.drawn hm e h
theorem WA.done {S : World → Prop} {e fuel : Nat} {listed : Array Bool} (hr : Region.ready .any ops listed = []) (h : WX Q .normal n L H) : WA P ops Q S e fuel listed n L H := fun a w hs => by
  cases fuel with
  | zero => exact ⟨hr, h a w hs⟩
  | succ k => exact ⟨fun _ => h a w hs, fun i hi => by rw [hr] at hi; cases hi⟩
/-- All that is asked of an operation that comes first, in one closed fact. -/
def mayFirst (ops : Array Oper) (e i : Nat) (listed : Array Bool) : Bool :=
  Region.noSelect ops && waits ops e i && Region.free .any ops listed i && (Region.ready .any ops listed).contains i
theorem WA.first {Hs : List Ch} {e i d : Nat} {oi : Oper} {v : Value} {fuel : Nat} {listed : Array Bool} (hi : ops[i]? = some oi) (hm : mayFirst ops e i listed = true)
    (hQ : ∀ c a w, Q (.panic c) (a.put oi.dst v) w → Q (.panic c) a w) (hd : oi.dst = some d) (hn : d < n) (hy : ∀ a w, St n L H a w → YieldsIf P ops (fun w => Sat w Hs) oi v a) (hS : Takes H Hs F)
    (h : WA P ops Q (fun w => Sat w Hs) e fuel (listed.setIfInBounds i true) n (upd L d v) H) : WA P ops Q (fun w => Sat w Hs) e (fuel + 1) listed n L H := fun a w hst => by
  simp only [mayFirst, Bool.and_eq_true] at hm
  obtain ⟨⟨⟨h1, h2⟩, h3⟩, h4⟩ := hm
  exact first_in_any hi h1 h2 hQ fuel listed a w h3 (by simpa using h4) (hy a w hst) (hst.sat.only hS) (h _ _ (by rw [hd]; exact ⟨hst.regs.put hn v, hst.sat⟩))
/-- What is not changed in the region is enough for it: it may come first. -/
theorem WA.take {Hs : List Ch} {e i d : Nat} {oi : Oper} {v : Value} {fuel : Nat} {listed : Array Bool} (hi : ops[i]? = some oi) (hm : mayFirst ops e i listed = true)
    (hQ : ∀ c a w, Q (.panic c) (a.put oi.dst v) w → Q (.panic c) a w) (hg : oi.guard = none) (hv : Val P oi n L Hs d v) (hS : Takes H Hs F)
    (h : WA P ops Q (fun w => Sat w Hs) e fuel (listed.setIfInBounds i true) n (upd L d v) H) : WA P ops Q (fun w => Sat w Hs) e (fuel + 1) listed n L H :=
  WA.first hi hm hQ hv.dst hv.lt (fun a w hst => .inl ⟨by simp [Region.wanted, hg], fun w' hS' => hv.run a w' ⟨hst.regs, hS'⟩⟩) hS h
theorem WA.takeG {Hs : List Ch} {e i d j dj : Nat} {b : Bool} {oi : Oper} {v : Value} {fuel : Nat} {listed : Array Bool} (hi : ops[i]? = some oi) (hm : mayFirst ops e i listed = true)
    (hQ : ∀ c a w, Q (.panic c) (a.put oi.dst v) w → Q (.panic c) a w) (hg : oi.guard = some (j, b)) (hj : (ops[j]?).bind (·.dst) = some dj) (hb : get L dj = some (.bool b)) (hv : Val P oi n L Hs d v) (hS : Takes H Hs F)
    (h : WA P ops Q (fun w => Sat w Hs) e fuel (listed.setIfInBounds i true) n (upd L d v) H) : WA P ops Q (fun w => Sat w Hs) e (fuel + 1) listed n L H :=
  WA.first hi hm hQ hv.dst hv.lt (fun a w hst => .inl ⟨by simp [Region.wanted, hg, yielded, hj, hst.regs.get dj _ hb], fun w' hS' => hv.run a w' ⟨hst.regs, hS'⟩⟩) hS h
/-- An operation whose guard is not met. -/
theorem WA.skipG {Hs : List Ch} {e i d j dj : Nat} {b : Bool} {u : Value} {oi : Oper} {fuel : Nat} {listed : Array Bool} (hi : ops[i]? = some oi) (hm : mayFirst ops e i listed = true)
    (hQ : ∀ c a w, Q (.panic c) (a.put oi.dst undef) w → Q (.panic c) a w) (hg : oi.guard = some (j, b)) (hj : (ops[j]?).bind (·.dst) = some dj) (hb : get L dj = some u)
    (hu : u = .bool (!b) ∨ u = undef) (hd : oi.dst = some d) (hn : d < n) (hS : Takes H Hs F)
    (h : WA P ops Q (fun w => Sat w Hs) e fuel (listed.setIfInBounds i true) n (upd L d undef) H) : WA P ops Q (fun w => Sat w Hs) e (fuel + 1) listed n L H :=
  WA.first hi hm hQ hd hn (fun a w hst => .inr ⟨by
    have h1 := hst.regs.get dj _ hb
    rcases hu with rfl | rfl
    · cases b <;> simp [Region.wanted, hg, yielded, hj, h1]
    · simp [Region.wanted, hg, yielded, hj, h1, undef], rfl⟩) hS h
/-- What changes memory: it stands alone, and what is read in the region is there behind it (but behind the last writer). -/
theorem WA.step {Hs : List Ch} {e i : Nat} {oi : Oper} {Post : Act → World → Prop} {fuel : Nat} {listed : Array Bool} (hr : Region.ready .any ops listed = [i]) (hi : ops[i]? = some oi) (hg : oi.guard = none)
    (ho : Opn P Q oi n L H Post) (hS : i ≠ e → ∀ a w, Post a w → Sat w Hs) (h : ∀ a w, Post a w → wpAnyE P ops Q (fun w => Sat w Hs) e fuel (listed.setIfInBounds i true) a w) :
    WA P ops Q (fun w => Sat w Hs) e (fuel + 1) listed n L H := fun a w hst => by
  refine ⟨fun h0 => (by rw [hr] at h0; cases h0), fun j hj => ?_⟩
  rw [hr] at hj
  rw [List.mem_singleton.1 hj]
  unfold wpOp
  simp only [hi]
  rw [if_pos (by simp [Region.wanted, hg])]
  exact .inl (ho a w hst _ fun a' w' hp => ⟨fun hne => hS hne a' w' hp, h a' w' hp⟩)
/-- One of two that may come up. -/
theorem WA.either {Hs : List Ch} {e i j : Nat} {fuel : Nat} {listed : Array Bool} (hr : Region.ready .any ops listed = [i, j])
    (h1 : ∀ a w, St n L H a w → wpOp P ops Q i (fun a' w' => (i ≠ e → Sat w' Hs) ∧ wpAnyE P ops Q (fun w => Sat w Hs) e fuel (listed.setIfInBounds i true) a' w') a w)
    (h2 : ∀ a w, St n L H a w → wpOp P ops Q j (fun a' w' => (j ≠ e → Sat w' Hs) ∧ wpAnyE P ops Q (fun w => Sat w Hs) e fuel (listed.setIfInBounds j true) a' w') a w) :
    WA P ops Q (fun w => Sat w Hs) e (fuel + 1) listed n L H := fun a w hst => by
  refine ⟨fun h0 => (by rw [hr] at h0; cases h0), fun k hk => ?_⟩
  rw [hr] at hk
  simp only [List.mem_cons, List.not_mem_nil, or_false] at hk
  rcases hk with rfl | rfl
  · exact h1 a w hst
  · exact h2 a w hst
theorem WA.one {Hs : List Ch} {e i : Nat} {oi : Oper} {Post : Act → World → Prop} {fuel : Nat} {listed : Array Bool} (hi : ops[i]? = some oi) (hg : oi.guard = none)
    (ho : Opn P Q oi n L H Post) (hS : i ≠ e → ∀ a w, Post a w → Sat w Hs) (h : ∀ a w, Post a w → wpAnyE P ops Q (fun w => Sat w Hs) e fuel (listed.setIfInBounds i true) a w) :
    ∀ a w, St n L H a w → wpOp P ops Q i (fun a' w' => (i ≠ e → Sat w' Hs) ∧ wpAnyE P ops Q (fun w => Sat w Hs) e fuel (listed.setIfInBounds i true) a' w') a w := fun a w hst => by
  unfold wpOp
  simp only [hi]
  rw [if_pos (by simp [Region.wanted, hg])]
  exact .inl (ho a w hst _ fun a' w' hp => ⟨fun hne => hS hne a' w' hp, h a' w' hp⟩)
theorem WA.regs {S : World → Prop} {e fuel : Nat} {listed : Array Bool} (k : RS L L') (h : WA P ops Q S e fuel listed n L' H) : WA P ops Q S e fuel listed n L H := fun a w hs => h a w (hs.regsub k)
end
end Go.Proofs.Ythephcghglldaaa.Sx
