import Derived.Test.YthephcghglldaaaS20
set_option linter.unusedVariables false
set_option linter.unusedSimpArgs false
namespace Go.Proofs.Ythephcghglldaaa.Sx
open Go.RowKit Go.Proofs.Ythephcghglldaaa.Ty
attribute [local irreducible] blk own rd rx frameC

theorem foldl_vl (bs : List UInt8) : ∀ a : Nat, bs.foldl (fun n x => n * 256 + x.toNat) a = a * 256 ^ bs.length + vl bs := by
  induction bs with
  | nil => intro a; simp [vl]
  | cons x bs ih =>
    intro a
    show bs.foldl _ (a * 256 + x.toNat) = _
    have h2 : vl (x :: bs) = (0 * 256 + x.toNat) * 256 ^ bs.length + vl bs := ih (0 * 256 + x.toNat)
    rw [ih, h2, List.length_cons, Nat.pow_succ, Nat.zero_mul, Nat.zero_add, Nat.add_mul, Nat.mul_assoc, Nat.mul_comm 256]
    omega
theorem vl_cons (x : UInt8) (bs : List UInt8) : vl (x :: bs) = x.toNat * 256 ^ bs.length + vl bs := by
  have := foldl_vl bs (0 * 256 + x.toNat)
  simpa [vl] using this
theorem vl_be (n k : Nat) : vl (be n k) = n % 256 ^ k := by
  induction k with
  | zero => simp [be, vl, Nat.mod_one]
  | succ k ih =>
    rw [be, vl_cons, ih, be_length, Nat.pow_succ, Nat.mod_mul]
    have : (UInt8.ofNat (n / 256 ^ k)).toNat = n / 256 ^ k % 256 := by simp
    rw [this, Nat.mul_comm (256 ^ k)]
    omega
theorem vl_be_lt {n k : Nat} (h : n < 256 ^ k) : vl (be n k) = n := by rw [vl_be, Nat.mod_eq_of_lt h]
theorem sealB_drop (x : List UInt8) (o : Nat) : (sealB x).drop (16 + o) = (sealR x).drop o := by
  unfold sealB
  rw [← List.drop_drop, List.drop_left' (by simp [sha_length])]
theorem sealB_take (x : List UInt8) : (sealB x).take 16 = (sha (sealR x)).take 16 := by
  unfold sealB
  rw [List.take_left' (by simp [sha_length])]
theorem sealR_eq (x : List UInt8) (h : x.length ≤ 240) : sealR x = x ++ List.replicate (240 - x.length) 0 := by
  unfold sealR
  rw [List.take_of_length_le (by simp; omega)]
section
variable (k g n i c : Nat) (bs : List UInt8)
theorem enc_drop (o : Nat) (h : bs.length ≤ 224) : (enc k g n i c bs).drop (16 + o) = (hdr k g n i c bs.length ++ (bs ++ List.replicate (224 - bs.length) 0)).drop o := by
  unfold enc
  rw [sealB_drop, sealR_eq _ (by simp [hdr_length]; omega), List.append_assoc]
  simp only [List.length_append, hdr_length]
  rw [show 240 - (16 + bs.length) = 224 - bs.length by omega]
theorem hdr_fld (r : List UInt8) (m : Nat) : ((hdr k g n i c m ++ r).drop 0).take 4 = be g 4 ∧ ((hdr k g n i c m ++ r).drop 4).take 4 = be n 4 ∧ ((hdr k g n i c m ++ r).drop 8).take 2 = be k 2
    ∧ ((hdr k g n i c m ++ r).drop 10).take 2 = be i 2 ∧ ((hdr k g n i c m ++ r).drop 12).take 2 = be c 2 ∧ ((hdr k g n i c m ++ r).drop 14).take 2 = be m 2 ∧ (hdr k g n i c m ++ r).drop 16 = r := by
  simp [hdr, be]
theorem dec_enc (hk : k < 65536) (hg : g < 2147483648) (hn : n < 2147483648) (hi : i < 65536) (hc : c < 65536) (h : bs.length ≤ 224) (hch : chk k g n i c bs.length = 0) :
    dec (enc k g n i c bs) = (⟨k, g, n, i, c, bs⟩, 0) := by
  have hf := hdr_fld k g n i c (bs ++ List.replicate (224 - bs.length) 0) bs.length
  have f16 : fld (enc k g n i c bs) 16 4 = g := by
    show vl (((enc k g n i c bs).drop (16 + 0)).take 4) = g
    rw [enc_drop _ _ _ _ _ _ _ h, hf.1, vl_be_lt (by omega)]
  have f20 : fld (enc k g n i c bs) 20 4 = n := by
    show vl (((enc k g n i c bs).drop (16 + 4)).take 4) = n
    rw [enc_drop _ _ _ _ _ _ _ h, hf.2.1, vl_be_lt (by omega)]
  have f24 : fld (enc k g n i c bs) 24 2 = k := by
    show vl (((enc k g n i c bs).drop (16 + 8)).take 2) = k
    rw [enc_drop _ _ _ _ _ _ _ h, hf.2.2.1, vl_be_lt (by omega)]
  have f26 : fld (enc k g n i c bs) 26 2 = i := by
    show vl (((enc k g n i c bs).drop (16 + 10)).take 2) = i
    rw [enc_drop _ _ _ _ _ _ _ h, hf.2.2.2.1, vl_be_lt (by omega)]
  have f28 : fld (enc k g n i c bs) 28 2 = c := by
    show vl (((enc k g n i c bs).drop (16 + 12)).take 2) = c
    rw [enc_drop _ _ _ _ _ _ _ h, hf.2.2.2.2.1, vl_be_lt (by omega)]
  have f30 : fld (enc k g n i c bs) 30 2 = bs.length := by
    show vl (((enc k g n i c bs).drop (16 + 14)).take 2) = bs.length
    rw [enc_drop _ _ _ _ _ _ _ h, hf.2.2.2.2.2.1, vl_be_lt (by omega)]
  have f32 : (enc k g n i c bs).drop 32 = bs ++ List.replicate (224 - bs.length) 0 := by
    show (enc k g n i c bs).drop (16 + 16) = _
    rw [enc_drop _ _ _ _ _ _ _ h, hf.2.2.2.2.2.2]
  have hp : decP (enc k g n i c bs) = ⟨k, g, n, i, c, bs⟩ := by
    unfold decP
    rw [f16, f20, f24, f26, f28, f30, f32, List.take_left' rfl]
  have hs : (sha ((enc k g n i c bs).drop 16)).take 16 = (enc k g n i c bs).take 16 := by
    unfold enc
    have h0 := sealB_drop (hdr k g n i c bs.length ++ bs) 0
    rw [Nat.add_zero, List.drop_zero] at h0
    rw [sealB_take, h0]
  have hbl : blank ((enc k g n i c bs).drop (32 + fld (enc k g n i c bs) 30 2)) = true := by
    rw [f30, ← List.drop_drop, f32, List.drop_left' rfl]
    simp [blank]
  rw [dec_ok (enc_length _ _ _ _ _ _) hs (by rw [f30]; omega) (by rw [hp]; exact hch) hbl, hp]
end
end Go.Proofs.Ythephcghglldaaa.Sx
