/- The engine: chunks merged, lists of byte slices, copying. -/
import Derived.Test.YthephcghglldaaaSq
set_option linter.unusedVariables false
set_option linter.unusedSimpArgs false
namespace Go.Proofs.Ythephcghglldaaa.Sx
open Go.RowKit
theorem Sat.merge {w : World} {T F : List Ch} {d : Ch} (h : Sat w (T ++ F)) (hex : d.ex = true → ∀ c ∈ T, c.ex = true) (hf : ∀ b, d.foot b → ∃ c ∈ T, c.foot b) (hok : (∀ c ∈ T, c.ok w) → d.ok w) : Sat w (d :: F) := by
  have hap := List.pairwise_append.1 h.apart
  refine ⟨fun x hx => ?_, List.pairwise_cons.2 ⟨fun e he hm b hdf hef => ?_, hap.2.1⟩⟩
  · rcases List.mem_cons.1 hx with rfl | hx
    · exact hok fun c hc => h.ok c (List.mem_append.2 (.inl hc))
    · exact h.ok x (List.mem_append.2 (.inr hx))
  · obtain ⟨c, hc, hcf⟩ := hf b hdf
    exact hap.2.2 c hc e he (hm.imp (fun hd => hex hd c hc) id) b hcf hef
/-- Two chunks are made one. -/
structure Mrg (c1 c2 d : Ch) : Prop where
  ex : d.ex = true → c1.ex = true ∧ c2.ex = true
  foot : ∀ b, d.foot b → c1.foot b ∨ c2.foot b
  ok : ∀ w, c1.ok w → c2.ok w → d.ok w
theorem Sat.merge2 {w : World} {H F1 F2 : List Ch} {c1 c2 d : Ch} (h : Sat w H) (k1 : Take H c1 F1) (k2 : Take F1 c2 F2) (m : Mrg c1 c2 d) : Sat w (d :: F2) := by
  have h2 : Sat w ([c1, c2] ++ F2) := h.perm (k1.perm.trans (List.Perm.cons c1 k2.perm))
  refine h2.merge (fun hd c hc => ?_) (fun b hb => ?_) fun hc => m.ok w (hc c1 (by simp)) (hc c2 (by simp))
  · have := m.ex hd
    simp only [List.mem_cons, List.not_mem_nil, or_false] at hc
    rcases hc with rfl | rfl
    · exact this.1
    · exact this.2
  · rcases m.foot b hb with h | h
    · exact ⟨c1, by simp, h⟩
    · exact ⟨c2, by simp, h⟩
/-- A chunk without a place of its own. -/
theorem Sat.free {w : World} {H : List Ch} {d : Ch} (h : Sat w H) (hok : d.ok w) (hf : ∀ b, ¬ d.foot b) : Sat w (d :: H) :=
  h.grow hok (Chg.refl _ _) fun b hb => absurd hb (hf b)
/-- One more reading of two things that are there. -/
theorem Sat.dup2 {w : World} {H : List Ch} (h : Sat w H) {d : Ch} (hro : d.ex = false) {c1 c2 : Ch} (h1 : c1 ∈ H) (h2 : c2 ∈ H) (e1 : c1.ex = false) (e2 : c2.ex = false) (m : Mrg c1 c2 d) : Sat w (d :: H) := by
  refine ⟨fun x hx => ?_, List.pairwise_cons.2 ⟨fun e he hm b hdf hef => ?_, h.apart⟩⟩
  · rcases List.mem_cons.1 hx with rfl | hx
    · exact m.ok w (h.ok _ h1) (h.ok _ h2)
    · exact h.ok x hx
  · have hem : e.ex = true := hm.resolve_left (by rw [hro]; decide)
    rcases m.foot b hdf with hf | hf
    · exact apart_of_mem h.apart h1 he (fun e' => by rw [e', hem] at e1; cases e1) (.inr hem) b hf hef
    · exact apart_of_mem h.apart h2 he (fun e' => by rw [e', hem] at e2; cases e2) (.inr hem) b hf hef
section
variable {P : Program} {ops : Array Oper} {Q : Exit → Act → World → Prop} {rest : List Oper} {n : Nat} {L L' : List (Nat × Value)} {H H' F F1 F2 : List Ch} {c1 c2 d : Ch}
theorem WL.merge2 (k1 : Take H c1 F1) (k2 : Take F1 c2 F2) (m : Mrg c1 c2 d) (h : WL P ops Q rest n L (d :: F2)) : WL P ops Q rest n L H := fun a w hs => h a w ⟨hs.regs, hs.sat.merge2 k1 k2 m⟩
theorem WX.merge2 {e : Exit} (k1 : Take H c1 F1) (k2 : Take F1 c2 F2) (m : Mrg c1 c2 d) (h : WX Q e n L (d :: F2)) : WX Q e n L H := fun a w hs => h a w ⟨hs.regs, hs.sat.merge2 k1 k2 m⟩
theorem WC.merge2 {cd : Code} (k1 : Take H c1 F1) (k2 : Take F1 c2 F2) (m : Mrg c1 c2 d) (h : WC P cd Q n L (d :: F2)) : WC P cd Q n L H := fun a w hs => h a w ⟨hs.regs, hs.sat.merge2 k1 k2 m⟩
theorem WA.turn {S : World → Prop} {e fuel : Nat} {listed : Array Bool} {c d : Ch} (hc : Take H c F) (hl : d.Le c) (h : WA P ops Q S e fuel listed n L (d :: F)) : WA P ops Q S e fuel listed n L H :=
  fun a w hs => h a w ⟨hs.regs, (hs.sat.perm hc.perm).weak (.keep hl (by
    have : ∀ G : List Ch, Weak G G := fun G => by
      induction G with
      | nil => exact .nil _
      | cons a G ih => exact .keep (Ch.Le.refl _) ih
    exact this F))⟩
theorem WA.dup {S : World → Prop} {e fuel : Nat} {listed : Array Bool} {c d : Ch} (hc : c ∈ H) (hcr : c.ex = false) (hd : d.ex = false) (hl : d.Le c) (h : WA P ops Q S e fuel listed n L (d :: H)) : WA P ops Q S e fuel listed n L H := fun a w hs => h a w ⟨hs.regs, hs.sat.dup hd hc hcr hl⟩
theorem WC.dup {cd : Code} {c d : Ch} (hc : c ∈ H) (hcr : c.ex = false) (hd : d.ex = false) (hl : d.Le c) (h : WC P cd Q n L (d :: H)) : WC P cd Q n L H := fun a w hs => h a w ⟨hs.regs, hs.sat.dup hd hc hcr hl⟩
end

/-! ### Lists of byte slices -/
structure Bs where
  A : Option Addr
  c : Nat
  s : List UInt8
def Bs.v (r : Bs) : Value := .slice r.A r.s.length r.c
def Bs.ch (r : Bs) : Ch := rd r.v 1 r.s.length (r.s.map bv)
def rowsC (e : Bool) (rs : List Bs) : Ch where
  foot b := ∃ r ∈ rs, r.ch.foot b
  ex := e
  ok w := ∀ r ∈ rs, r.ch.ok w
  loc w w' h h1 h2 h3 h4 hb := fun r hr => r.ch.loc w w' (h r hr) h1 h2 h3 h4 fun b hbf => hb b ⟨r, hr, hbf⟩
  inb w h b hb := by
    obtain ⟨r, hr, hbf⟩ := hb
    exact r.ch.inb w (h r hr) b hbf
@[simp] theorem rowsC_ex (e : Bool) (rs : List Bs) : (rowsC e rs).ex = e := rfl
theorem rowsC_sub {e : Bool} {rs rs' : List Bs} (h : ∀ r ∈ rs', r ∈ rs) : (rowsC e rs').Le (rowsC e rs) := ⟨id, fun b ⟨r, hr, hb⟩ => ⟨r, h r hr, hb⟩, fun w hw r hr => hw r (h r hr)⟩
theorem rowsC_read {e : Bool} {rs rs' : List Bs} (h : ∀ r ∈ rs', r ∈ rs) : (rowsC false rs').Le (rowsC e rs) := ⟨fun h => (by cases h), fun b ⟨r, hr, hb⟩ => ⟨r, h r hr, hb⟩, fun w hw r hr => hw r (h r hr)⟩
theorem rowsC_get {e : Bool} {rs : List Bs} {r : Bs} (h : r ∈ rs) : r.ch.Le (rowsC e rs) := ⟨fun h => (by cases h), fun b hb => ⟨r, h, hb⟩, fun w hw => hw r h⟩
theorem rowsC_app {e1 e2 : Bool} {rs ts : List Bs} : Mrg (rowsC e1 rs) (rowsC e2 ts) (rowsC (e1 && e2) (rs ++ ts)) := by
  refine ⟨fun h => ?_, fun b ⟨r, hr, hb⟩ => ?_, fun w h1 h2 r hr => ?_⟩
  · simp only [rowsC_ex, Bool.and_eq_true] at h
    exact h
  · rcases List.mem_append.1 hr with hr | hr
    · exact .inl ⟨r, hr, hb⟩
    · exact .inr ⟨r, hr, hb⟩
  · rcases List.mem_append.1 hr with hr | hr
    · exact h1 r hr
    · exact h2 r hr
theorem rowsC_snoc {e : Bool} {rs : List Bs} {c : Ch} {r : Bs} (hc : r.ch.Le c) (he : e = true → c.ex = true) : Mrg (rowsC e rs) c (rowsC e (rs ++ [r])) := by
  refine ⟨fun h => ⟨h, he h⟩, fun b ⟨r', hr, hb⟩ => ?_, fun w h1 h2 r' hr => ?_⟩
  · rcases List.mem_append.1 hr with hr | hr
    · exact .inl ⟨r', hr, hb⟩
    · rw [List.mem_singleton.1 hr] at hb
      exact .inr (hc.foot b hb)
  · rcases List.mem_append.1 hr with hr | hr
    · exact h1 r' hr
    · rw [List.mem_singleton.1 hr]
      exact hc.ok w h2
theorem rowsC_set {e : Bool} {rs : List Bs} {c : Ch} {r : Bs} {i : Nat} (hc : r.ch.Le c) (he : e = true → c.ex = true) : Mrg (rowsC e rs) c (rowsC e (rs.set i r)) := by
  refine ⟨fun h => ⟨h, he h⟩, fun b ⟨r', hr, hb⟩ => ?_, fun w h1 h2 r' hr => ?_⟩
  · rcases List.mem_or_eq_of_mem_set hr with hr | rfl
    · exact .inl ⟨r', hr, hb⟩
    · exact .inr (hc.foot b hb)
  · rcases List.mem_or_eq_of_mem_set hr with hr | rfl
    · exact h1 r' hr
    · exact hc.ok w h2
theorem own_le_bs {A : Option Addr} {m c : Nat} {e : TypeId} {s : List UInt8} (h : s.length = m) : (Bs.ch ⟨A, c, s⟩).Le (own (.slice A m c) e 1 m (s.map bv)) := by subst h; exact own_le_rd
theorem rd_le_bs {A : Option Addr} {m c : Nat} {s : List UInt8} (h : s.length = m) : (Bs.ch ⟨A, c, s⟩).Le (rd (.slice A m c) 1 m (s.map bv)) := by subst h; exact Ch.Le.refl _
theorem rx_le_bs {A : Option Addr} {m c : Nat} {s : List UInt8} (h : s.length = m) : (Bs.ch ⟨A, c, s⟩).Le (rx (.slice A m c) 1 m (s.map bv)) := by subst h; exact rx_le_rd
section
variable {P : Program} {ops : Array Oper} {Q : Exit → Act → World → Prop} {rest : List Oper} {n : Nat} {L L' : List (Nat × Value)} {H H' F F1 F2 : List Ch}
theorem WL.nilrows (e : Bool) (h : WL P ops Q rest n L (rowsC e [] :: H)) : WL P ops Q rest n L H := fun a w hs => h a w ⟨hs.regs, hs.sat.free (fun r hr => (by cases hr)) (fun b ⟨r, hr, _⟩ => (by cases hr))⟩
theorem WC.nilrows {cd : Code} (e : Bool) (h : WC P cd Q n L (rowsC e [] :: H)) : WC P cd Q n L H := fun a w hs => h a w ⟨hs.regs, hs.sat.free (fun r hr => (by cases hr)) (fun b ⟨r, hr, _⟩ => (by cases hr))⟩
theorem WX.nilrows {e' : Exit} (e : Bool) (h : WX Q e' n L (rowsC e [] :: H)) : WX Q e' n L H := fun a w hs => h a w ⟨hs.regs, hs.sat.free (fun r hr => (by cases hr)) (fun b ⟨r, hr, _⟩ => (by cases hr))⟩
theorem WX.nilown {e' : Exit} (e : TypeId) (sz : Nat) (h : WX Q e' n L (own (.slice none 0 0) e sz 0 [] :: H)) : WX Q e' n L H :=
  fun a w hs => h a w ⟨hs.regs, hs.sat.free ⟨by simp, .inl ⟨rfl, rfl⟩⟩ (fun b hb => by simp [own, Value.ownBlock] at hb)⟩
theorem WA.nilrd {S : World → Prop} {e fuel : Nat} {listed : Array Bool} (sz : Nat) (h : WA P ops Q S e fuel listed n L (rd (.slice none 0 0) sz 0 [] :: H)) : WA P ops Q S e fuel listed n L H := fun a w hs =>
  h a w ⟨hs.regs, hs.sat.free ⟨by simp, by simp [maxLen], none, 0, rfl, Nat.le_refl _, fun hp => absurd hp (by simp)⟩ (fun b hb => absurd hb.1 (by simp))⟩
end

/-! ### Copying -/
section
variable {P : Program} {ops : Array Oper} {Q : Exit → Act → World → Prop} {n : Nat} {L : List (Nat × Value)} {H F : List Ch} {ty : TypeId} {pos : String} {af : Array Edge} {g : Option (Nat × Bool)} {x y : Operand}
theorem own_base {v : Value} {e : TypeId} {sz m : Nat} {xs : List Value} {w : World} (h : (own v e sz m xs).ok w) (hp : 0 < m) : ∃ b c, v = .slice (some ⟨b, 0, none⟩) m c ∧ m ≤ c := by
  obtain ⟨hl, hrest⟩ := h
  rcases hrest with ⟨_, hm⟩ | ⟨b, cap, cur, he, hb, hh, hnc, _⟩
  · omega
  · exact ⟨b, cap, he, hnc⟩
/-- 'copy(s[l:], t)' into one's own bytes. -/
theorem op_copy {t t' e : TypeId} {A B : Option Addr} {m c l k cB d : Nat} {xs ys : List Value} (hu : P.underlying t = some (.slice e)) (hs : (P.info? e).map (·.size) = some 1) (hn : d < n)
    (hx : evr L x = some (sliced A l m c 1)) (hy : evr L y = some (.slice B k cB)) (ht : Take H (own (.slice A m c) e 1 m xs) F) (hsrc : Src H (.slice B k cB) 1 k ys) (h1 : ys.all (·.oneCell') = true) (hk : l + k ≤ m) (hp : 0 < k) :
    Opn P Q ⟨some d, .call { callee := .builtin .copy, args := #[x, y], argTypes := #[t, t'] }, ty, pos, af, g⟩ n L H (St n (upd L d (.int .i64 (k : Int))) (own (.slice A m c) e 1 m (pset xs l ys) :: F)) := by
  intro a w hst K hK
  have hown : (own (.slice A m c) e 1 m xs).ok w := hst.sat.ok _ (ht.perm.mem_iff.2 (List.mem_cons_self ..))
  obtain ⟨b, c', he, hmc⟩ := own_base hown (by omega)
  simp only [Value.slice.injEq] at he
  obtain ⟨rfl, _, rfl⟩ := he
  obtain ⟨y1, y2, B', cB', y3, y4, y5⟩ := hsrc.ok hst.sat
  cases y3
  have hyl : ys.length = k := by simpa using y1
  obtain ⟨b', o', rfl, y6⟩ := y5 (by omega)
  have hxl : xs.length = m := by simpa using hown.1
  obtain ⟨b0, hb0, w', hst', hsat⟩ := own_store (P := P) (j := l) (vs := ys) hst.sat ht (by omega) (by omega) h1 0
  simp only [Option.some.injEq, Addr.mk.injEq] at hb0
  obtain ⟨rfl, _, _⟩ := hb0
  have hne : ¬ c = l := by omega
  have hsl : sliced (some ⟨b, 0, none⟩) l m c 1 = .slice (some ⟨b, l, none⟩) (m - l) (c - l) := by
    unfold sliced
    rw [if_neg hne]
    simp [add_at]
  have hr : (Builtin.copy_ #[t, t'] ty #[.slice (some ⟨b, l, none⟩) (m - l) (c - l), .slice (some ⟨b', o', none⟩) k cB]).run P w = .ok (.int .i64 (k : Int)) w' := by
    have hload := run_loadCells_list (P := P) w ⟨b', o', none⟩ ys (fun j u hj => by
      rw [add_at]
      exact y6 j u hj)
    have hmin : Nat.min k (m - l) = k := Nat.min_eq_left (by omega)
    have hmin' : min k (m - l) = k := Nat.min_eq_left (by omega)
    have hst2 : (storeCells ⟨b, l, none⟩ ys).run P w = .ok () w' := hst'
    cases hq : P.info? e with
    | none => simp [hq] at hs
    | some i =>
      have hi : i.size = 1 := by simpa [hq] using hs
      rw [hyl] at hload
      simp [Builtin.copy_, run_underlying hu, Builtin.lenOf, Builtin.firstCells, sizeOf, typeInfo, hq, hi, hmin, hmin', hload, hst2, goInt]
  have hx' := hst.regs.eval hx
  have hy' := hst.regs.eval hy
  rw [hsl] at hx'
  unfold Oper.wp execOp
  simp only [resolve, invoke, builtin, Sem.run_bind, Sem.run_pure, Result.andThen_ok, List.map_toArray, List.map_cons, List.map_nil, hx', hy', hr]
  exact hK _ _ ⟨hst.regs.put hn _, hsat⟩
end
end Go.Proofs.Ythephcghglldaaa.Sx
