import Derived.Test.YthephcghglldaaaS17
import Derived.Test.YthephcghglldaaaS21
set_option linter.unusedVariables false
set_option linter.unusedSimpArgs false
namespace Go.Proofs.Ythephcghglldaaa.Sx
open Go.RowKit Go.Proofs.Ythephcghglldaaa.Ty
attribute [local irreducible] blk own rd rx frameC

def sp (k g n : Int) (p : List UInt8) (i : Nat) : Pt := ⟨k, g, n, i, need p.length, chunk p i⟩
theorem dec_sect {k g n : Int} {p : List UInt8} {i : Nat} (hf : fineP k g n) (hp : p.length ≤ 131072) (hi : i < need p.length) : dec (sect k g n p i) = (sp k g n p i, 0) := by
  have hch := chk_part hf hp hi
  have hn := need_le hp
  have hcl := chunk_length p i
  simp only [fineP] at hf
  obtain ⟨k, rfl⟩ := Int.eq_ofNat_of_zero_le hf.1
  obtain ⟨g, rfl⟩ := Int.eq_ofNat_of_zero_le hf.2.2.1
  obtain ⟨n, rfl⟩ := Int.eq_ofNat_of_zero_le hf.2.2.2.2.1
  exact dec_enc k g n i (need p.length) (chunk p i) (by omega) (by omega) (by omega) (by omega) (by omega) (by omega) hch
theorem chunk_take (p : List UInt8) (i : Nat) : p.take (i * 224) ++ chunk p i = p.take ((i + 1) * 224) := by
  have e : chunk p i = (p.drop (i * 224)).take 224 := by
    unfold chunk
    rw [List.take_eq_take_iff, List.length_drop]
    omega
  rw [e, ← List.take_add]
  congr 1
  omega
theorem jf_sects {k g n : Int} {p : List UInt8} (hf : fineP k g n) (hp : p.length ≤ 131072) {ss : List (List UInt8)} (r : Nat) : ∀ (m i : Nat), (∀ j, i ≤ j → j < i + m → ss[j]? = some (sect k g n p j)) → i + m ≤ need p.length →
    jf ss (sp k g n p 0) (m + r) i (p.take (i * 224)) = jf ss (sp k g n p 0) r (i + m) (p.take ((i + m) * 224)) := by
  intro m
  induction m with
  | zero => intro i _ _; rw [Nat.zero_add, Nat.add_zero]
  | succ m ih =>
    intro i h hle
    have hi := h i (Nat.le_refl _) (by omega)
    have hlt := (List.getElem?_eq_some_iff.1 hi).1
    rw [show m + 1 + r = (m + r) + 1 by omega, jf_next (s := sect k g n p i) (p := sp k g n p i) (by omega) (by simp [List.getD_eq_getElem?_getD, hi]) (dec_sect hf hp (by omega)).symm (by unfold jbad sp; simp)]
    have hb : (sp k g n p i).b = chunk p i := rfl
    rw [hb, chunk_take, ih (i + 1) (fun j h1 h2 => h j (by omega) (by omega)) (by omega)]
    congr 1
    · omega
    · congr 2; omega
theorem join_sects {k g n : Int} {p : List UInt8} (hf : fineP k g n) (hp : p.length ≤ 131072) {ss : List (List UInt8)} (h : ∀ j, j < need p.length → ss[j]? = some (sect k g n p j)) : join ss = ((⟨k, g, n, p⟩ : Rcd), ((need p.length : Nat) : Int), (0 : Int)) := by
  have hn := need_le hp
  have h0 := h 0 (by omega)
  have hlt := (List.getElem?_eq_some_iff.1 h0).1
  have hb : (sp k g n p 0).b = p.take (1 * 224) := by
    have := chunk_take p 0
    simpa [sp] using this
  have hc : (sp k g n p 0).c = (need p.length : Nat) := rfl
  have hj := jf_sects hf hp (ss := ss) 0 (need p.length - 1) 1 (fun j _ h2 => h j (by omega)) (by omega)
  rw [join_go (s := sect k g n p 0) (p := sp k g n p 0) (by omega) (by simp [List.getD_eq_getElem?_getD, h0]) (dec_sect hf hp (by omega)).symm rfl, hb, hc, Int.toNat_natCast, ← Nat.add_zero (need p.length - 1), hj]
  have hall : (1 + (need p.length - 1)) * 224 ≥ p.length := by unfold need; omega
  rw [List.take_of_length_le hall]
  rfl
/-- Only the first sectors of a record. -/
theorem join_cut {k g n : Int} {p : List UInt8} (hf : fineP k g n) (hp : p.length ≤ 131072) {ss : List (List UInt8)} {m : Nat} (h1 : 1 ≤ m) (hm : m < need p.length) (hl : ss.length = m) (h : ∀ j, j < m → ss[j]? = some (sect k g n p j)) : join ss = (rc0, 0, 23) := by
  have hn := need_le hp
  have h0 := h 0 (by omega)
  have hb : (sp k g n p 0).b = p.take (1 * 224) := by
    have := chunk_take p 0
    simpa [sp] using this
  have hc : (sp k g n p 0).c = (need p.length : Nat) := rfl
  have hj := jf_sects hf hp (ss := ss) (need p.length - m) (m - 1) 1 (fun j _ h2 => h j (by omega)) (by omega)
  rw [show m - 1 + (need p.length - m) = need p.length - 1 by omega] at hj
  rw [join_go (s := sect k g n p 0) (p := sp k g n p 0) (by omega) (by simp [List.getD_eq_getElem?_getD, h0]) (dec_sect hf hp (by omega)).symm rfl, hb, hc, Int.toNat_natCast, hj,
    show need p.length - m = (need p.length - m - 1) + 1 by omega]
  exact jf_short (by omega)
/-- A damaged sector among those of a record. -/
theorem join_dam {k g n : Int} {p : List UInt8} (hf : fineP k g n) (hp : p.length ≤ 131072) {ss : List (List UInt8)} {m : Nat} {s : List UInt8} {e : Int} (hm : m < need p.length) (hs : ss[m]? = some s) (hd : (dec s).2 = e) (he : ¬ e = 0) (h : ∀ j, j < m → ss[j]? = some (sect k g n p j)) : join ss = (rc0, 0, e) := by
  have hn := need_le hp
  have hlt := (List.getElem?_eq_some_iff.1 hs).1
  have hg : ss.getD m [] = s := by simp [List.getD_eq_getElem?_getD, hs]
  by_cases hm0 : m = 0
  · subst hm0
    exact join_first (p := (dec s).1) (by omega) hg (by rw [← hd]) he
  have h0 := h 0 (by omega)
  have hb : (sp k g n p 0).b = p.take (1 * 224) := by
    have := chunk_take p 0
    simpa [sp] using this
  have hc : (sp k g n p 0).c = (need p.length : Nat) := rfl
  have hj := jf_sects hf hp (ss := ss) (need p.length - m) (m - 1) 1 (fun j _ h2 => h j (by omega)) (by omega)
  rw [show m - 1 + (need p.length - m) = need p.length - 1 by omega] at hj
  rw [join_go (s := sect k g n p 0) (p := sp k g n p 0) (by omega) (by simp [List.getD_eq_getElem?_getD, h0]) (dec_sect hf hp (by omega)).symm rfl, hb, hc, Int.toNat_natCast, hj,
    show need p.length - m = (need p.length - m - 1) + 1 by omega, show 1 + (m - 1) = m by omega]
  exact jf_err (p := (dec s).1) (by omega) hg (by rw [← hd]) he
theorem sects_length (k g n : Int) (p : List UInt8) : (sects k g n p).length = need p.length := by simp [sects]
theorem sects_at {k g n : Int} {p : List UInt8} {j : Nat} (h : j < need p.length) : (sects k g n p)[j]? = some (sect k g n p j) := by simp [sects, h]
/-- The sectors of records with consecutive numbers. -/
def recs (k g : Int) : Int → List (List UInt8) → List (List UInt8)
  | _, [] => []
  | n, p :: ps => sects k g n p ++ recs k g (n + 1) ps
def rcds (k g : Int) : Int → List (List UInt8) → List Rcd
  | _, [] => []
  | n, p :: ps => ⟨k, g, n, p⟩ :: rcds k g (n + 1) ps
def needs : List (List UInt8) → Nat
  | [] => 0
  | p :: ps => need p.length + needs ps
theorem rcds_length (k g n : Int) (ps : List (List UInt8)) : (rcds k g n ps).length = ps.length := by
  induction ps generalizing n with
  | nil => rfl
  | cons p ps ih => simp [rcds, ih]
theorem recs_length (k g n : Int) (ps : List (List UInt8)) : (recs k g n ps).length = needs ps := by
  induction ps generalizing n with
  | nil => rfl
  | cons p ps ih => simp [recs, needs, sects_length, ih]
theorem needs_le (ps : List (List UInt8)) : ps.length ≤ needs ps := by
  induction ps with
  | nil => exact Nat.le_refl _
  | cons p ps ih =>
    have : 1 ≤ need p.length := by unfold need; omega
    simp only [List.length_cons, needs]; omega
theorem needs_append (ps qs : List (List UInt8)) : needs (ps ++ qs) = needs ps + needs qs := by
  induction ps with
  | nil => simp [needs]
  | cons p ps ih => simp only [List.cons_append, needs, ih]; omega
theorem recs_append (k g n : Int) (ps qs : List (List UInt8)) : recs k g n (ps ++ qs) = recs k g n ps ++ recs k g (n + ps.length) qs := by
  induction ps generalizing n with
  | nil => simp [recs]
  | cons p ps ih =>
    simp only [List.cons_append, recs, ih, List.append_assoc, List.length_cons]
    congr 3
    omega
theorem rcds_at {k g n : Int} {ps : List (List UInt8)} {i : Nat} {p : List UInt8} (h : ps[i]? = some p) : (rcds k g n ps)[i]? = some ⟨k, g, n + i, p⟩ := by
  induction ps generalizing n i with
  | nil => cases h
  | cons q ps ih =>
    cases i with
    | zero =>
      simp only [List.getElem?_cons_zero, Option.some.injEq] at h
      subst h
      simp [rcds]
    | succ i =>
      simp only [rcds, List.getElem?_cons_succ] at h ⊢
      rw [ih h]
      congr 2
      omega
theorem scanF_recs {g : Int} {ss : List (List UInt8)} {fuel : Nat} : ∀ (ps : List (List UInt8)) (n n0 : Int) (pos : Nat) (acc : List Rcd) (tail : List (List UInt8)), ss.drop pos = recs 0 g n ps ++ tail → (∀ p ∈ ps, p.length ≤ 131072) → fineP 0 g n → n + ps.length ≤ 2147483647 →
    n = n0 + acc.length → scanF ss g n0 (fuel + ps.length) pos acc = scanF ss g n0 fuel (pos + needs ps) (acc ++ rcds 0 g n ps) := by
  intro ps
  induction ps with
  | nil => intro n n0 pos acc tail _ _ _ _ _; simp [needs, rcds]
  | cons p ps ih =>
    intro n n0 pos acc tail hd hp hf hn hacc
    have hp0 := hp p (List.mem_cons_self ..)
    have hnd := need_le hp0
    have hj : join (ss.drop pos) = ((⟨0, g, n, p⟩ : Rcd), ((need p.length : Nat) : Int), (0 : Int)) := join_sects hf hp0 fun j hj => by
      rw [hd, recs, List.append_assoc, List.getElem?_append_left (by rw [sects_length]; exact hj), sects_at hj]
    have hlt : pos < ss.length := by
      have := congrArg List.length hd
      simp only [List.length_drop, recs, List.length_append, sects_length] at this
      omega
    simp only [List.length_cons] at hn
    rw [List.length_cons, ← Nat.add_assoc, scanF_go hlt hj.symm ⟨rfl, hacc⟩, Int.toNat_natCast,
      ih (n + 1) n0 (pos + need p.length) (acc ++ [(⟨0, g, n, p⟩ : Rcd)]) tail (by rw [← List.drop_drop, hd, recs, List.append_assoc, List.drop_left' (sects_length ..)]) (fun q hq => hp q (List.mem_cons_of_mem _ hq)) (by simp only [fineP] at *; omega) (by omega) (by simp only [List.length_append, List.length_singleton]; omega)]
    simp only [needs, rcds, List.append_assoc, List.singleton_append]
    congr 1
    omega
end Go.Proofs.Ythephcghglldaaa.Sx
