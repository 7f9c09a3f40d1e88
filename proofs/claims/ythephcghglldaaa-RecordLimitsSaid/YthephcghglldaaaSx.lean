/- The engine: chunks of memory, what a world holds, registers, and the rules of control. Plain theorems over any program. -/
import Derived.WalkKit
import Derived.OrdersHeld
set_option linter.unusedVariables false
set_option linter.unusedSimpArgs false
namespace Go.Proofs.Ythephcghglldaaa.Sx
open Go.RowKit

/-! ### 1. Changes of a world, chunks -/
structure Chg (M : Nat → Prop) (w w' : World) : Prop where
  os : w'.os = w.os
  tape : w'.tape = w.tape
  output : w'.output = w.output
  size : w.heap.size ≤ w'.heap.size
  block : ∀ b, b < w.heap.size → ¬ M b → w'.heap[b]? = w.heap[b]?

theorem Chg.refl (M : Nat → Prop) (w : World) : Chg M w w := ⟨rfl, rfl, rfl, Nat.le_refl _, fun _ _ _ => rfl⟩
theorem Chg.trans {M : Nat → Prop} {a b c : World} (h : Chg M a b) (k : Chg M b c) : Chg M a c :=
  ⟨k.os.trans h.os, k.tape.trans h.tape, k.output.trans h.output, Nat.le_trans h.size k.size,
   fun i hi hm => (k.block i (Nat.lt_of_lt_of_le hi h.size) hm).trans (h.block i hi hm)⟩
theorem Chg.mono {M N : Nat → Prop} {a b : World} (h : Chg M a b) (hs : ∀ i, M i → N i) : Chg N a b :=
  ⟨h.os, h.tape, h.output, h.size, fun i hi hm => h.block i hi (fun hx => hm (hs i hx))⟩
theorem Chg.drew (M : Nat → Prop) (w : World) : Chg M w w.drew := ⟨rfl, rfl, rfl, Nat.le_refl _, fun _ _ _ => rfl⟩
theorem Chg.alloc (M : Nat → Prop) (w : World) (o : Obj) : Chg M w (w.alloc o) :=
  ⟨rfl, rfl, rfl, by simp, fun b hb _ => Below.heap_alloc w o b hb⟩
theorem Chg.setRow (w : World) (g : Nat) (cs : Array Value) : Chg (· = g) w (w.setRow g cs) :=
  ⟨rfl, rfl, rfl, by simp, fun b _ hm => setRow_other w g b cs hm⟩
theorem Chg.grown {w w' : World} {row : Option Nat} (h : w.grownBy w' row) : Chg (fun b => row = some b) w w' :=
  ⟨h.os, h.tape, h.output, h.size, fun b hb hm => h.block b hb (fun e => hm e.symm)⟩
theorem Chg.below {w w' : World} (h : Chg (fun _ => False) w w') : Below w.heap.size w w' :=
  ⟨h.os, h.tape, h.output, h.size, fun k hk => h.block k hk id⟩
theorem Chg.of_below {M : Nat → Prop} {w w' : World} (h : Below w.heap.size w w') : Chg M w w' :=
  ⟨h.os, h.tape, h.output, h.size, fun k hk _ => h.block k hk⟩

structure Ch where
  foot : Nat → Prop
  ex : Bool
  ok : World → Prop
  loc : ∀ w w', ok w → w'.os = w.os → w'.tape = w.tape → w'.output = w.output → w.heap.size ≤ w'.heap.size → (∀ b, foot b → w'.heap[b]? = w.heap[b]?) → ok w'
  inb : ∀ w, ok w → ∀ b, foot b → b < w.heap.size

def Ch.Apart (c d : Ch) : Prop := (c.ex = true ∨ d.ex = true) → ∀ b, c.foot b → ¬ d.foot b
theorem Ch.Apart.symm {c d : Ch} (h : c.Apart d) : d.Apart c := fun hm b hd hc => h hm.symm b hc hd

structure Sat (w : World) (H : List Ch) : Prop where
  ok : ∀ c ∈ H, c.ok w
  apart : H.Pairwise Ch.Apart

theorem Sat.perm {w : World} {H H' : List Ch} (h : Sat w H) (p : H.Perm H') : Sat w H' :=
  ⟨fun c hc => h.ok c (p.mem_iff.2 hc), (p.pairwise_iff (fun hx => hx.symm)).1 h.apart⟩
theorem Sat.sub {w : World} {H H' : List Ch} (h : Sat w H) (p : H'.Sublist H) : Sat w H' :=
  ⟨fun c hc => h.ok c (p.subset hc), h.apart.sublist p⟩
theorem Sat.head {w : World} {c : Ch} {H : List Ch} (h : Sat w (c :: H)) : c.ok w := h.ok c (List.mem_cons_self ..)
theorem Sat.tail {w : World} {c : Ch} {H : List Ch} (h : Sat w (c :: H)) : Sat w H := h.sub (List.sublist_cons_self c H)
theorem Sat.app_right {w : World} {T F : List Ch} (h : Sat w (T ++ F)) : Sat w F := h.sub (List.sublist_append_right T F)
theorem Sat.app_left {w : World} {T F : List Ch} (h : Sat w (T ++ F)) : Sat w T := h.sub (List.sublist_append_left T F)

/-- What is mutable in a list of chunks. -/
def MutF (T : List Ch) (b : Nat) : Prop := ∃ c ∈ T, c.ex = true ∧ c.foot b

/-- 'd' says no more than 'c' and asks for no more. -/
structure Ch.Le (d c : Ch) : Prop where
  ro : d.ex = true → c.ex = true
  foot : ∀ b, d.foot b → c.foot b
  ok : ∀ w, c.ok w → d.ok w
theorem Ch.Le.refl (c : Ch) : c.Le c := ⟨id, fun _ => id, fun _ => id⟩

/-- The framing: 'T' was replaced by 'B', 'F' stayed. -/
theorem Sat.frame {w w' : World} {T F B : List Ch} (h : Sat w (T ++ F)) (hB : Sat w' B) (hc : Chg (MutF T) w w')
    (hn : ∀ c ∈ B, ∀ b, c.foot b → w.heap.size ≤ b ∨ MutF T b) : Sat w' (B ++ F) := by
  have hap := List.pairwise_append.1 h.apart
  refine ⟨fun c hm => ?_, ?_⟩
  · rcases List.mem_append.1 hm with hm | hm
    · exact hB.ok c hm
    · refine c.loc w w' (h.ok c (List.mem_append.2 (.inr hm))) hc.os hc.tape hc.output hc.size fun b hb => ?_
      refine hc.block b (c.inb w (h.ok c (List.mem_append.2 (.inr hm))) b hb) ?_
      rintro ⟨t, ht, htm, htf⟩
      exact hap.2.2 t ht c hm (.inl htm) b htf hb
  · refine List.pairwise_append.2 ⟨hB.apart, hap.2.1, fun c hcB d hd hm b hcf hdf => ?_⟩
    rcases hn c hcB b hcf with hlt | ⟨t, ht, htm, htf⟩
    · have := d.inb w (h.ok d (List.mem_append.2 (.inr hd))) b hdf
      omega
    · exact hap.2.2 t ht d hd (.inl htm) b htf hdf

/-- Weakening element by element, dropping what is not wanted. -/
inductive Weak : List Ch → List Ch → Prop
  | nil (H : List Ch) : Weak H []
  | drop {c : Ch} {H H' : List Ch} : Weak H H' → Weak (c :: H) H'
  | keep {c d : Ch} {H H' : List Ch} : d.Le c → Weak H H' → Weak (c :: H) (d :: H')
theorem Weak.mem {H H' : List Ch} (h : Weak H H') : ∀ d ∈ H', ∃ c ∈ H, d.Le c := by
  induction h with
  | nil H => intro d hd; cases hd
  | drop _ ih => intro d hd; obtain ⟨c, hc, hl⟩ := ih d hd; exact ⟨c, List.mem_cons_of_mem _ hc, hl⟩
  | keep hl _ ih =>
    intro d hd
    rcases List.mem_cons.1 hd with rfl | hd
    · exact ⟨_, List.mem_cons_self .., hl⟩
    · obtain ⟨c, hc, hl⟩ := ih d hd; exact ⟨c, List.mem_cons_of_mem _ hc, hl⟩
theorem Sat.weak {w : World} {H H' : List Ch} (h : Sat w H) (k : Weak H H') : Sat w H' := by
  induction k with
  | nil H => exact ⟨fun c hc => (by cases hc), .nil⟩
  | drop _ ih => exact ih h.tail
  | @keep c d H H' hl hw ih =>
    have ht := ih h.tail
    refine ⟨fun x hx => ?_, List.pairwise_cons.2 ⟨fun e he hm b hdf hef => ?_, ht.apart⟩⟩
    · rcases List.mem_cons.1 hx with rfl | hx
      · exact hl.ok w h.head
      · exact ht.ok x hx
    · obtain ⟨c', hc', hl'⟩ := hw.mem e he
      exact (List.pairwise_cons.1 h.apart).1 c' hc' (hm.imp hl.ro hl'.ro) b (hl.foot b hdf) (hl'.foot b hef)

/-- What only reads may be laid beside what it reads, any number of times. -/
theorem Sat.ros {w : World} {T F D : List Ch} (h : Sat w (T ++ F)) (hd : ∀ d ∈ D, d.ex = false ∧ ∃ c ∈ F, d.Le c) : Sat w (T ++ D) := by
  have hap := List.pairwise_append.1 h.apart
  refine ⟨fun c hm => ?_, List.pairwise_append.2 ⟨hap.1, ?_, fun c hc d hdD hm b hcf hdf => ?_⟩⟩
  · rcases List.mem_append.1 hm with hm | hm
    · exact h.ok c (List.mem_append.2 (.inl hm))
    · obtain ⟨_, f, hf, hl⟩ := hd c hm
      exact hl.ok w (h.ok f (List.mem_append.2 (.inr hf)))
  · refine List.Pairwise.imp_of_mem ?_ (List.pairwise_of_forall (R := fun _ _ => True) (fun _ _ => trivial))
    intro a b ha hb _ hm
    rcases hm with hm | hm
    · rw [(hd a ha).1] at hm; cases hm
    · rw [(hd b hb).1] at hm; cases hm
  · obtain ⟨hro, f, hf, hl⟩ := hd d hdD
    exact hap.2.2 c hc f hf (hm.imp id (fun h' => by rw [hro] at h'; cases h')) b hcf (hl.foot b hdf)

theorem apart_of_mem {H : List Ch} (h : H.Pairwise Ch.Apart) {c d : Ch} (hc : c ∈ H) (hd : d ∈ H) (hne : c ≠ d) : c.Apart d := by
  induction H with
  | nil => cases hc
  | cons x H ih =>
    obtain ⟨h1, h2⟩ := List.pairwise_cons.1 h
    rcases List.mem_cons.1 hc with e1 | hc' <;> rcases List.mem_cons.1 hd with e2 | hd'
    · exact absurd (e1.trans e2.symm) hne
    · rw [e1]; exact h1 d hd'
    · rw [e2]; exact (h1 c hc').symm
    · exact ih h2 hc' hd'

/-- One more reading of something that is there. -/
theorem Sat.dup {w : World} {H : List Ch} (h : Sat w H) {d : Ch} (hro : d.ex = false) {c : Ch} (hc : c ∈ H) (hcr : c.ex = false) (hl : d.Le c) : Sat w (d :: H) := by
  refine ⟨fun x hx => ?_, List.pairwise_cons.2 ⟨fun e he hm b hdf hef => ?_, h.apart⟩⟩
  · rcases List.mem_cons.1 hx with rfl | hx
    · exact hl.ok w (h.ok c hc)
    · exact h.ok x hx
  · have hem : e.ex = true := hm.resolve_left (by rw [hro]; decide)
    have hne : c ≠ e := fun e' => by rw [e', hem] at hcr; cases hcr
    exact apart_of_mem h.apart hc he hne (.inr hem) b (hl.foot b hdf) hef

/-! ### 2. The kinds of chunks -/
/-- The frame: what was there and is not ours to change is as it was. -/
def frameC (w0 : World) (M0 : Nat → Prop) : Ch where
  foot b := b < w0.heap.size ∧ ¬ M0 b
  ex := false
  ok w := Chg M0 w0 w
  loc w w' h ho ht hu hs hb := ⟨ho.trans h.os, ht.trans h.tape, hu.trans h.output, Nat.le_trans h.size hs, fun b hl hm => (hb b ⟨hl, hm⟩).trans (h.block b hl hm)⟩
  inb w h b hb := Nat.lt_of_lt_of_le hb.1 h.size

/-- A block of cells, known whole. -/
def blk (g : Nat) (cs : List Value) (t : TypeId) : Ch where
  foot b := b = g
  ex := true
  ok w := w.heap[g]? = some (.cells cs.toArray t (0, 0))
  loc w w' h _ _ _ _ hb := (hb g rfl).trans h
  inb w h b hb := by subst hb; exact (Array.getElem?_eq_some_iff.1 h).1

/-- A slice of the call's own: its first cells. -/
def own (v : Value) (e : TypeId) (sz n : Nat) (xs : List Value) : Ch where
  foot b := v.ownBlock = some b
  ex := true
  ok w := w.ownsRow 0 e sz v n xs
  loc w w' h _ _ _ _ hb := by
    refine ⟨h.1, ?_⟩
    rcases h.2 with hn | ⟨g, cap, cur, rfl, hb0, hgg, rest⟩
    · exact .inl hn
    · exact .inr ⟨g, cap, cur, rfl, hb0, (hb g rfl).trans hgg, rest⟩
  inb w h b hb := (h.lt b hb).2

/-- Cells that are read: those of a slice value with m elements of sz cells. -/
def rd (v : Value) (sz m : Nat) (xs : List Value) : Ch where
  foot b := 0 < xs.length ∧ v.ownBlock = some b
  ex := false
  ok w := xs.length = m * sz ∧ m ≤ maxLen ∧ ∃ A c, v = .slice A m c ∧ m ≤ c ∧ (0 < xs.length → ∃ b o, A = some ⟨b, o, none⟩ ∧ ∀ j u, xs[j]? = some u → w.cell? ⟨b, o + j, none⟩ = some u)
  loc w w' h _ _ _ _ hb := by
    obtain ⟨h1, h2, A, c, rfl, hc, h3⟩ := h
    refine ⟨h1, h2, A, c, rfl, hc, fun hp => ?_⟩
    obtain ⟨b, o, rfl, h4⟩ := h3 hp
    refine ⟨b, o, rfl, fun j u hu => ?_⟩
    rw [World.cell?_of_block (w := w) (w' := w') (a := ⟨b, o + j, none⟩) (hb _ ⟨hp, rfl⟩)]
    exact h4 j u hu
  inb w h b hb := by
    obtain ⟨h1, h2, A, c, rfl, hc, h3⟩ := h
    obtain ⟨hp, hb⟩ := hb
    obtain ⟨b', o, rfl, h4⟩ := h3 hp
    simp only [Value.ownBlock, Option.some.injEq] at hb
    rw [← hb]
    exact World.block_lt_of_cell? w ⟨b', o + 0, none⟩ (h4 0 _ (List.getElem?_eq_getElem hp))

/-! ### 3. Registers -/
def get : List (Nat × Value) → Nat → Option Value
  | [], _ => none
  | (e, x) :: l, d => bif Nat.beq e d then some x else get l d
abbrev upd (L : List (Nat × Value)) (d : Nat) (v : Value) : List (Nat × Value) := (d, v) :: L
/-- Only these registers are wanted further on. -/
def keep (ks : List Nat) : List (Nat × Value) → List (Nat × Value)
  | [] => []
  | (e, x) :: l => bif ks.any (Nat.beq e) then (e, x) :: keep ks l else keep ks l
def evr (L : List (Nat × Value)) : Operand → Option Value
  | .tmp t => get L t
  | .const v => some v
  | .global g => some (.pointer (some ⟨g, 0, none⟩))
  | .func f => some (.func (.func f) #[] #[])

theorem get_mem {L : List (Nat × Value)} {d : Nat} {v : Value} (h : get L d = some v) : (d, v) ∈ L := by
  induction L with
  | nil => cases h
  | cons p l ih =>
    obtain ⟨e, x⟩ := p
    simp only [get] at h
    cases hb : Nat.beq e d with
    | true =>
      have : e = d := Nat.eq_of_beq_eq_true hb
      rw [hb] at h
      simp only [cond_true, Option.some.injEq] at h
      rw [this, h]
      exact List.mem_cons_self ..
    | false =>
      rw [hb] at h
      exact List.mem_cons_of_mem _ (ih h)
theorem keep_mem {ks : List Nat} {L : List (Nat × Value)} : ∀ p ∈ keep ks L, p ∈ L := by
  induction L with
  | nil => intro p hp; cases hp
  | cons q l ih =>
    obtain ⟨e, x⟩ := q
    intro p hp
    simp only [keep] at hp
    cases hb : ks.any (Nat.beq e) with
    | true =>
      rw [hb] at hp
      simp only [cond_true, List.mem_cons] at hp
      rcases hp with hp | hp
      · exact hp ▸ List.mem_cons_self ..
      · exact List.mem_cons_of_mem _ (ih p hp)
    | false =>
      rw [hb] at hp
      exact List.mem_cons_of_mem _ (ih p hp)

/-- No register is listed twice. -/
def uniq : List (Nat × Value) → Bool
  | [] => true
  | (e, _) :: l => !(l.any fun p => Nat.beq p.1 e) && uniq l

/-- The registers hold what is listed (the last word on a register is the first in the list). -/
structure Regs (n : Nat) (L : List (Nat × Value)) (a : Act) : Prop where
  size : a.tmps.size = n
  defers : a.defers = []
  get : ∀ d v, get L d = some v → a.tmps[d]? = some v

theorem Regs.eval {n : Nat} {L : List (Nat × Value)} {a : Act} (h : Regs n L a) {x : Operand} {v : Value} (hx : evr L x = some v) : a.eval x = v := by
  cases x with
  | tmp t =>
    have := h.get t v hx
    simp [Act.eval, Array.getD_eq_getD_getElem?, this]
  | const c => simpa [evr, Act.eval] using hx
  | global g => simpa [evr, Act.eval] using hx
  | func f => simpa [evr, Act.eval] using hx

theorem get_upd {L : List (Nat × Value)} {d e : Nat} {v : Value} : get (upd L d v) e = if d = e then some v else get L e := by
  simp only [get]
  by_cases h : d = e
  · subst h; simp
  · have : Nat.beq d e = false := by cases hb : Nat.beq d e <;> simp_all [Nat.eq_of_beq_eq_true]
    simp [this, h]
theorem get_keep {ks : List Nat} {L : List (Nat × Value)} {d : Nat} {v : Value} (h : get (keep ks L) d = some v) : get L d = some v := by
  induction L with
  | nil => cases h
  | cons q l ih =>
    obtain ⟨e, x⟩ := q
    simp only [keep] at h
    cases hb : ks.any (Nat.beq e) with
    | true =>
      rw [hb] at h
      simp only [cond_true, get] at h ⊢
      cases hb2 : Nat.beq e d with
      | true => rw [hb2] at h; exact h
      | false => rw [hb2] at h; exact ih h
    | false =>
      rw [hb] at h
      simp only [cond_false] at h
      simp only [get]
      cases hb2 : Nat.beq e d with
      | true =>
        exfalso
        have hed : e = d := Nat.eq_of_beq_eq_true hb2
        subst hed
        have : ∀ l' : List (Nat × Value), get (keep ks l') e = none := by
          intro l'
          induction l' with
          | nil => rfl
          | cons r l' ih' =>
            obtain ⟨f, y⟩ := r
            simp only [keep]
            cases hf : ks.any (Nat.beq f) with
            | true =>
              simp only [cond_true, get]
              have : Nat.beq f e = false := by
                cases hfe : Nat.beq f e with
                | false => rfl
                | true => rw [Nat.eq_of_beq_eq_true hfe, hb] at hf; cases hf
              simp [this, ih']
            | false => simpa using ih'
        rw [this] at h
        cases h
      | false => exact ih h
theorem Regs.put {n : Nat} {L : List (Nat × Value)} {a : Act} (h : Regs n L a) {d : Nat} (hd : d < n) (v : Value) : Regs n (upd L d v) (a.put (some d) v) := by
  refine ⟨by simp [Act.put, h.size], h.defers, fun e u hu => ?_⟩
  rw [get_upd] at hu
  simp only [Act.put, Array.getElem?_setIfInBounds]
  by_cases hde : d = e
  · rw [if_pos hde] at hu
    simp only [Option.some.injEq] at hu
    subst hde
    simp [h.size, hd, hu]
  · rw [if_neg hde] at hu
    simp [hde, h.get e u hu]
theorem Regs.keep {n : Nat} {L : List (Nat × Value)} {a : Act} (h : Regs n L a) (ks : List Nat) : Regs n (keep ks L) a :=
  ⟨h.size, h.defers, fun d v hv => h.get d v (get_keep hv)⟩

/-- Registers and memory. -/
structure St (n : Nat) (L : List (Nat × Value)) (H : List Ch) (a : Act) (w : World) : Prop where
  regs : Regs n L a
  sat : Sat w H
theorem St.keep {n : Nat} {L : List (Nat × Value)} {H : List Ch} {a : Act} {w : World} (h : St n L H a w) (ks : List Nat) : St n (keep ks L) H a w := ⟨h.regs.keep ks, h.sat⟩
theorem St.eval {n : Nat} {L : List (Nat × Value)} {H : List Ch} {a : Act} {w : World} (h : St n L H a w) {x : Operand} {v : Value} (hx : evr L x = some v) : a.eval x = v := h.regs.eval hx

/-! ### 4. Operations -/
section
variable {P : Program} {Q : Exit → Act → World → Prop} {n : Nat} {L L' : List (Nat × Value)} {H H' : List Ch} {ops : Array Oper} {rest : List Oper} {o : Oper}

/-- From the state (L, H) the operation comes to 'Post'. -/
def Opn (P : Program) (Q : Exit → Act → World → Prop) (o : Oper) (n : Nat) (L : List (Nat × Value)) (H : List Ch) (Post : Act → World → Prop) : Prop :=
  ∀ a w, St n L H a w → ∀ K : Act → World → Prop, (∀ a' w', Post a' w' → K a' w') → o.wp P a w K Q

def WL (P : Program) (ops : Array Oper) (Q : Exit → Act → World → Prop) (rest : List Oper) (n : Nat) (L : List (Nat × Value)) (H : List Ch) : Prop :=
  ∀ a w, St n L H a w → wpList P ops Q rest a w
def WC (P : Program) (c : Code) (Q : Exit → Act → World → Prop) (n : Nat) (L : List (Nat × Value)) (H : List Ch) : Prop :=
  ∀ a w, St n L H a w → c.wp P Q a w
def WX (Q : Exit → Act → World → Prop) (e : Exit) (n : Nat) (L : List (Nat × Value)) (H : List Ch) : Prop :=
  ∀ a w, St n L H a w → Q e a w

theorem wl {Post : Act → World → Prop} (ho : Opn P Q o n L H Post) (hg : o.guard = none) (h : ∀ a w, Post a w → wpList P ops Q rest a w) : WL P ops Q (o :: rest) n L H :=
  fun a w hs => wpList_plain hg fun K hK => ho a w hs K (fun a' w' hp => hK a' w' (h a' w' hp))

/-- An operation that yields a value and leaves memory alone. -/
structure Val (P : Program) (o : Oper) (n : Nat) (L : List (Nat × Value)) (H : List Ch) (d : Nat) (v : Value) : Prop where
  dst : o.dst = some d
  lt : d < n
  run : ∀ a w, St n L H a w → (execOp a.eval o).run P w = .ok (.value v) w
theorem Val.opn {d : Nat} {v : Value} (h : Val P o n L H d v) : Opn P Q o n L H (St n (upd L d v) H) := by
  intro a w hs K hK
  unfold Oper.wp
  rw [h.run a w hs, Oper.upon_value, h.dst]
  exact hK _ _ ⟨hs.regs.put h.lt v, hs.sat⟩
theorem wlv {d : Nat} {v : Value} (hv : Val P o n L H d v) (hg : o.guard = none) (h : WL P ops Q rest n (upd L d v) H) : WL P ops Q (o :: rest) n L H := wl hv.opn hg h
end
end Go.Proofs.Ythephcghglldaaa.Sx
