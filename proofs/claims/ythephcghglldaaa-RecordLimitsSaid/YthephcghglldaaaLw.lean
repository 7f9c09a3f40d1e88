/- Laws: what an argument's reading gives, and the row's last step where the old memory is as it was. -/
import Derived.Test.YthephcghglldaaaSk
import Derived.WalkKit
import Derived.ProofKit
import Derived.OpenShut
import Derived.Carry
import Derived.Deep.Slices
set_option linter.unusedVariables false
set_option linter.unusedSimpArgs false
namespace Go.Proofs.Ythephcghglldaaa.Sx
open Go.ChangeShapes Go.WideShapes Go.ChangeAt Go.RowKit
section
variable {H : Type} {enc : TypeId × Value → H} {P : Program}
theorem args_stay (hl : laidOutB P = true) {W W' : World} (hb : Below W.heap.size W W') : ∀ {ts : List TypeId} {vs : List Value} {ds : List (DataW H)} {ps : List MemPlace}, (∀ t ∈ ts, P.readableRec t = true ∧ t < P.types.size) →
    DataW.TrodAll enc P W 0 (fun _ => true) true ts vs ds ps → (∀ x ∈ ps, x.block < W.heap.size) → DataW.TrodAll enc P W' 0 (fun b => decide (b < W.heap.size)) true ts vs ds ps := by
  intro ts
  induction ts with
  | nil =>
    intro vs ds ps _ h _
    obtain ⟨rfl, rfl, rfl⟩ := trodAll_nil h
    exact trodAll_mk0
  | cons t ts ih =>
    intro vs ds ps ht h hlt
    obtain ⟨v, vs', d, ds', p, q, rfl, rfl, rfl, h1, h2⟩ := trodAll_cons h
    have ht1 := ht t (List.mem_cons_self ..)
    exact trodAll_cons_mk (Below.trod hl ht1.1 ht1.2 h1 hb fun x hx => hlt x (List.mem_append_left _ hx)) (ih (fun t' ht' => ht t' (List.mem_cons_of_mem _ ht')) h2 fun x hx => hlt x (List.mem_append_right _ hx))
/-- The row's end: the law answered true, and nothing old has changed. -/
theorem law_post {f : Func} {s : ChangeSpec} {W W' : World} {args : Array Value} {tb : TypeId} {ds gs : List (DataW H)} {before : List MemPlace} (hl : laidOutB P = true)
    (hW : DataW.Whole enc P f.params.toList s.vars false W args.toList ds gs before) (hv : s.vars = []) (hr : f.resultTypes = #[tb]) (hb : P.underlying tb = some .bool)
    (hp : ∀ t ∈ f.params.toList, P.readableRec t = true ∧ t < P.types.size) (hs : s.fn H ds = { results := [.lit (.bool true)], args := ds }) (hc : Chg (fun _ => False) W W') :
    s.post enc P f false true false false W args (.bool true) W' := by
  have hlt := hW.lt
  have hW' := hW
  obtain ⟨p, q, hA, hV, hps, hfz, hnd⟩ := hW
  rw [hv] at hV
  obtain ⟨rfl, rfl⟩ := trodVars_none hV
  subst hps
  have hB := hc.below
  refine ⟨ds, [], p ++ [], [], p, [], hW', ?_, ?_, ?_, ?_, fun h => by cases h⟩
  · rw [List.append_nil, hs, hr]
    exact trodAll_cons_mk (shut_bool hb _) trodAll_mk0
  · rw [List.append_nil, hs]
    exact args_stay hl hB hp hA fun x hx => hlt x (List.mem_append_left _ hx)
  · rw [List.append_nil, hs, hv]
    exact rfl
  · exact World.keptBut_mono (fun x hx => ⟨hx, by rw [List.append_nil] at hx; exact .inr (.inl hx)⟩) (hB.frame (· ∈ p ++ []))
/-- A whole number among the cells. -/
theorem trod_num {w : World} {base : Nat} {sp : Nat → Bool} {hd : Bool} {fuel : Nat} {t : TypeId} {k : IntKind} {v : Value} {x : DataW H × List MemPlace} (ht : P.underlying t = some (.int k)) (h : DataW.trod enc P w base sp hd fuel t [v] = some x) :
    ∃ a, v = .int k a ∧ (Lit.int k a).wf = true := by
  obtain ⟨a, h1, _, h3⟩ := DataW.trod_int ht h
  simp only [List.cons.injEq, and_true] at h1
  exact ⟨a, h1, h3⟩
theorem trod_byte {w : World} {base : Nat} {sp : Nat → Bool} {hd : Bool} {fuel : Nat} {t : TypeId} {v : Value} {x : DataW H × List MemPlace} (ht : P.underlying t = some (.int .u8)) (h : DataW.trod enc P w base sp hd fuel t [v] = some x) :
    ∃ a : UInt8, v = bv a := by
  obtain ⟨a, rfl, hw⟩ := trod_num ht h
  have hx : 0 ≤ a ∧ a ≤ 255 := by simpa [Lit.wf, IntKind.min, IntKind.max, IntKind.signed, IntKind.bits] using hw
  refine ⟨UInt8.ofNat a.toNat, ?_⟩
  have e : ((UInt8.ofNat a.toNat).toNat : Int) = a := by
    have : (UInt8.ofNat a.toNat).toNat = a.toNat % 256 := by simp
    omega
  show Value.int .u8 a = .int .u8 _
  rw [e]
/-- A slice of bytes among the cells: a reading chunk. -/
theorem trod_bytes {w : World} {hd : Bool} {fuel : Nat} {t e : TypeId} {v : Value} {x : DataW H × List MemPlace} (ht : P.underlying t = some (.slice e)) (he : P.underlying e = some (.int .u8)) (hc : P.cellsOf e = 1)
    (h : DataW.trod enc P w 0 (fun _ => true) hd fuel t [v] = some x) : ∃ r : Bs, v = r.v ∧ r.ch.ok w := by
  rcases Deep.open_slice1 ht hc h with ⟨h1, _⟩ | ⟨a, len, cap, m, n, V, D, Pl, h1, _, hl, hm, hmm, _, hV⟩
  · simp only [List.cons.injEq, and_true] at h1
    exact ⟨⟨none, 0, []⟩, h1, by simp, by simp [maxLen], none, 0, rfl, Nat.le_refl _, fun hp => absurd hp (by simp)⟩
  · simp only [List.cons.injEq, and_true] at h1
    simp only [if_true] at hmm
    have hB : ∀ i, i < len → ∃ y : UInt8, w.cell? (a.add i) = some (bv y) := fun i hi => by
      obtain ⟨g1, g2⟩ := hV i (by omega)
      obtain ⟨y, hy⟩ := trod_byte he g2
      exact ⟨y, hy ▸ g1⟩
    obtain ⟨y, hy⟩ : ∃ y : Nat → UInt8, ∀ i, i < len → w.cell? (a.add i) = some (bv (y i)) := by
      refine ⟨fun i => if hi : i < len then (hB i hi).choose else 0, fun i hi => ?_⟩
      have := (hB i hi).choose_spec
      simpa [hi] using this
    refine ⟨⟨some a, cap, (List.range len).map y⟩, ?_, ?_⟩
    · rw [h1]; simp [Bs.v]
    · refine ⟨by simp, by simp; omega, some a, cap, by simp [Bs.v], by simp; omega, fun hp => ?_⟩
      have hp' : 0 < len := by simpa using hp
      have hs := World.cell?_spot (hy 0 hp')
      obtain ⟨ab, ao, as⟩ := a
      have hs' : as = none := by simpa [Addr.add] using hs
      subst hs'
      refine ⟨ab, ao, rfl, fun j u hu => ?_⟩
      have hj : j < len := by
        have := (List.getElem?_eq_some_iff.1 hu).1
        simpa using this
      have := hy j hj
      rw [add_at] at this
      rw [this]
      simpa [hj] using hu
/-- A struct's fields, each with its cells. -/
theorem trod_fields {r : Reach} {b0 : Nat} {w : World} {base : Nat} {sp : Nat → Bool} {hd : Bool} {t : TypeId} {fs : Array Field} {v : Value} {d : DataW H} {p : List MemPlace} (ht : P.underlying t = some (.struct fs)) (hv : Value.okWide P w r b0 t v)
    (h : DataW.Trod enc P w base sp hd t v d p) : ∃ cs : List Value, v = .agg cs.toArray ∧ cs.length = P.cellsOf t ∧ ∃ n, ∀ (i : Nat) (f : Field), fs[i]? = some f → ∃ x, DataW.trod enc P w base sp hd n f.type ((cs.drop f.offset).take (P.cellsOf f.type)) = some x := by
  obtain ⟨cs, rfl, hsz⟩ := okWide_struct ht hv
  obtain ⟨fuel, hf⟩ := h
  obtain ⟨xs, n, _, _, _, hlen, hg⟩ := DataW.trod_struct ht hf
  refine ⟨cs.toList, by simp, by simpa using hsz, n, fun i f hi => ?_⟩
  have hi' : i < xs.length := by
    rw [hlen]
    exact (Array.getElem?_eq_some_iff.1 hi).1
  exact ⟨xs[i], (hg i f hi).trans (List.getElem?_eq_getElem hi')⟩
end
end Go.Proofs.Ythephcghglldaaa.Sx
