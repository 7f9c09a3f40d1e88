import Derived.Test.YtkjlbedebmffgaaGreatNm
import Derived.Test.YtkjlbedebmffgaaGreatNj
set_option linter.unusedVariables false
set_option linter.unusedSimpArgs false
namespace Go.Proofs.YtkjlbedebmffgaaGreat.Sx
def Dk.V (D : Dk) (b : Int) : List UInt8 := (D.vis b).s
theorem ovl_of {V V' : Int → List UInt8} {a : Int} {ss : List (List UInt8)} (h1 : ∀ (i : Nat) s, ss[i]? = some s → V' (a + i) = s) (h2 : ∀ b, (b < a ∨ a + ss.length ≤ b) → V' b = V b) : V' = ovl V a ss := by
 funext b
 unfold ovl
 by_cases h : a ≤ b ∧ b < a + ss.length
 ·rw [if_pos h]
  have := h1 _ _ (get_of (c := ss) (i := (b - a).toNat) (by omega))
  rw [show a + (((b - a).toNat : Nat) : Int) = b by omega] at this
  exact this
 ·rw [if_neg h]
  exact h2 b (by omega)
structure Same (r : Rd) (D : Dk) : Prop where
 n : r.ds.length = D.n
 v : ∀ i : Int, 0 ≤ i → i < D.n → r.V i = D.V i
 ok : r.Ok
theorem Same.seen {r : Rd} {D : Dk} (h : Same r D) {a : Int} {k : Nat} (ha : 0 ≤ a ∧ a + k ≤ D.n) : D.seen a k = seenR r.V a k := by
 unfold Dk.seen seenR
 refine List.map_congr_left fun i hi => ?_
 have := List.mem_range.1 hi
 exact (h.v _ (by omega) (by omega)).symm
theorem Same.pk {r : Rd} {D : Dk} (h : Same r D) {a : Int} {k : Nat} (ha : 0 ≤ a ∧ a + k ≤ D.n) : pkM D a k 2 = pkR r.V a k := by
 have e : pkM D a k 2 = pickM (pickM none (arM D a k 0)) (arM D a k 1) := rfl
 have e0 : arM D a k 0 = areaM 0 (D.seen (a + ((0 : Nat) : Int) * ((k / 2 : Nat) : Int)) (k / 2)) := rfl
 have e1 : arM D a k 1 = areaM 1 (D.seen (a + ((1 : Nat) : Int) * ((k / 2 : Nat) : Int)) (k / 2)) := rfl
 rw [show a + ((0 : Nat) : Int) * ((k / 2 : Nat) : Int) = a by omega, h.seen (by omega)] at e0
 rw [show a + ((1 : Nat) : Int) * ((k / 2 : Nat) : Int) = a + ((k / 2 : Nat) : Int) by omega, h.seen (by omega)] at e1
 rw [e, e0, e1]
 unfold pkR
 congr 1
 cases areaM 0 (seenR r.V a (k / 2)) <;> rfl
theorem Same.put {q r : Rd} {D D' : Dk} {a : Int} {ss : List (List UInt8)} (h : Same r D) (k : q.Put r a ss) (hn : D'.n = D.n) (hv : D'.V = ovl D.V a ss) : Same q D' := by
 refine ⟨by rw [k.n, h.n, hn], fun i h1 h2 => ?_, k.ok⟩
 rw [k.V, hv]
 rw [hn] at h2
 unfold ovl
 split
 ·rfl
 ·exact h.v i h1 h2
theorem Same.area {q r : Rd} {D D' : Dk} {a : Int} {ss : List (List UInt8)} (h : Same r D) (k : q.Area r a ss) (hn : D'.n = D.n) (hv : D'.V = ovl D.V a ss) : Same q D' := by
 refine ⟨by rw [k.n, h.n, hn], fun i h1 h2 => ?_, k.ok⟩
 rw [hn] at h2
 rw [k.V i h1 (by rw [h.n]; exact h2), hv]
 unfold ovl
 split
 ·rfl
 ·exact h.v i h1 h2
theorem Same.flush {q r : Rd} {D D' : Dk} (h : Same r D) (k : q.Flushed r) (hn : D'.n = D.n) (hv : D'.V = D.V) : Same q D' := by
 refine ⟨by rw [k.n, h.n, hn], fun i h1 h2 => ?_, k.ok⟩
 rw [hn] at h2
 rw [k.V i h1 (by rw [h.n]; exact h2), hv]
 exact h.v i h1 h2
theorem Same.dmg {q r : Rd} {D : Dk} {a : Int} {i : Nat} {x : UInt8} (h : Same r D) (k : q.Dmgd r a i x) (hp : D.pend = []) : Same q (D.dmgS a i x) := by
 refine ⟨by rw [k.n, h.n]; rfl, fun j h1 h2 => ?_, k.ok⟩
 have hd : ∀ b, D.V b = (D.dur b).s := fun b => by unfold Dk.V; rw [vis_nil hp]
 have hd2 : (D.dmgS a i x).V j = ((D.dmgS a i x).dur j).s := by unfold Dk.V; rw [vis_nil (show (D.dmgS a i x).pend = [] from hp)]
 rw [k.V j h1 (by rw [h.n]; exact h2), hd2, h.v j h1 h2, hd]
 unfold Dk.dmgS Sx.put
 simp only []
 by_cases e : j = a
 ·subst e; rw [if_pos rfl, if_pos rfl]
 ·rw [if_neg e, if_neg e]
theorem append_vis {k : Nat} {N : Int} {D : Dk} {J : Jn} {es : List Sec} {c0 k0 : Nat} (h : Strong k N D J es c0 k0) (hN : N ≤ 1000000) {p : Sec} (hp : p.length ≤ 100000) (hfit : 1 + needs es + need p.length ≤ k / 2) (he : (appendM D J es p).2.2.2.2 = 0) :
  (appendM D J es p).1.V = ovl D.V (J.fi + J.gen % 2 * (J.se / 2) + J.used) (sects 2 J.gen ((es.length : Int) + 1) p) := by
 have hf := h.fine hN
 have hu := h.used
 have hse := h.geo.se
 have hlo := h.geo.lo
 have hk := h.geo.k
 have hfi := h.geo.fi
 have htop := h.geo.top
 have hle := needs_le es
 have hfree : J.se / 2 = ((k / 2 : Nat) : Int) := by rw [hse]; omega
 have hfineP : fineP 2 J.gen ((es.length : Int) + 1) := by have := hf.g; simp only [fineP]; omega
 have hsl : (sects 2 J.gen ((es.length : Int) + 1) p).length = need p.length := sects_length ..
 have hbe : J.fi + (J.cur * (J.se / 2) + J.used) = J.base k + ((1 + needs es : Nat) : Int) := by rw [base_eq J hse, hu]
 obtain ⟨h1, _⟩ := putM_cases (D := D) (a := J.base k + ((1 + needs es : Nat) : Int)) (ss := sects 2 J.gen ((es.length : Int) + 1) p) h.dn (by omega) (by rw [hsl]; omega) (sects_256 hfineP (by omega))
 have hpos : J.fi + J.gen % 2 * (J.se / 2) + J.used = J.base k + ((1 + needs es : Nat) : Int) := by rw [h.par, ← hbe]; omega
 rw [hpos]
 unfold appendM at he ⊢
 rw [if_neg (fun k => k h.fl), if_neg (by omega), if_neg (by rw [hfree, hu]; omega), hbe] at he ⊢
 rcases h1 with ⟨g1, g2, g3, g4, g5⟩ | ⟨g1, g2, g3⟩
 ·rw [if_neg (by rw [g1]; decide)]
  exact ovl_of g4 fun b hb => by show ((putM D _ _).1.vis b).s = _; rw [g5 b hb]; rfl
 ·rw [if_pos (by rw [g1]; decide), g1] at he
  cases he
theorem flush_vis {D : Dk} (hd : D.down = false) (hl : D.lim = false) : D.flush.1.V = D.V ∧ D.flush.1.pend = [] ∧ D.flush.1.n = D.n ∧ D.flush.1.lim = false ∧ D.flush.1.down = false ∧ D.flush.2 = 0 := by
 rcases flush_cases hd with ⟨f1, f2, f3, f4, f5, f6⟩ | ⟨f1, f2, f3, _⟩
 ·refine ⟨funext fun b => ?_, f4, f6, by rw [f3, hl], f2, f1⟩
  show (D.flush.1.vis b).s = (D.vis b).s
  rw [vis_nil f4, f5]
 ·rw [hl] at f3; cases f3
theorem change_vis {k : Nat} {D : Dk} {J : Jn} {g f : Int} {es : List Sec} (hse : J.se = k) (hd : D.down = false) (hl : D.lim = false) (hc : J.cur = 0 ∨ J.cur = 1) (hfi : 0 ≤ J.fi) (htop : J.fi + k ≤ D.n) (hg : nextM (1 - J.cur) (D.seen J.fi k) = (g, 0)) (hfine : Fine g es) (hfit : 1 + needs es ≤ k / 2) :
  (changeM D J f es).2 = ({ J with cur := 1 - J.cur, gen := g, first := f, used := ((1 + needs es : Nat) : Int), synced := f + es.length }, 0) ∧ (changeM D J f es).1.n = D.n ∧ (changeM D J f es).1.down = false ∧ (changeM D J f es).1.lim = false ∧ (changeM D J f es).1.pend = [] ∧
   (changeM D J f es).1.V = ovl D.V (J.fi + (1 - J.cur) * ((k / 2 : Nat) : Int)) (areaS g f es) := by
 have hst : J.se.toNat = k := by rw [hse, Int.toNat_natCast]
 have hg1 : (g, (0 : Int)) = nextM (1 - J.cur) (D.seen J.fi J.se.toNat) := by rw [hst, hg]
 have hb' : J.fi + (1 - J.cur) * ((k / 2 : Nat) : Int) = J.fi + (1 - J.cur) * ((J.se.toNat / 2 : Nat) : Int) := by rw [hst]
 have hob : 0 ≤ (1 - J.cur) * ((k / 2 : Nat) : Int) ∧ (1 - J.cur) * ((k / 2 : Nat) : Int) + ((k / 2 : Nat) : Int) ≤ k := by rcases hc with e | e <;> rw [e] <;> omega
 have hal := areaS_length g f es
 obtain ⟨hw, _, hwn⟩ := writeM_cases (D := D) (base := J.fi + (1 - J.cur) * ((k / 2 : Nat) : Int)) (g := g) (f := f) (es := es) hd (by omega) (by omega) (by rw [areaS_C]; exact areaC_256 hfine)
 rcases hw with ⟨w1, w2, w3, w4, w5, w6, w7⟩ | ⟨w1, w2, w3⟩
 ·rw [changeM_ok hg1 hb' w1]
  refine ⟨by rw [w2], hwn, w3, by rw [w4, hl], w5, ?_⟩
  refine ovl_of (fun i s hi => ?_) fun b hb => ?_
  ·show ((writeM D _ g f es).1.vis _).s = s
   rw [vis_nil w5]
   exact w6 i s hi
  ·show ((writeM D _ g f es).1.vis b).s = (D.vis b).s
   rw [vis_nil w5, w7 b (by rw [hal] at hb; exact hb)]
 ·rw [hl] at w3; cases w3
theorem nextM_of_le {n : Int} {ss : List (List UInt8)} (h : nextF n ss ≤ 2147483647) : nextM n ss = (nextF n ss, 0) := by unfold nextM; rw [if_neg (by omega)]
theorem nextM_of_gt {n : Int} {ss : List (List UInt8)} (h : 2147483647 < nextF n ss) : nextM n ss = (0, 9) := by unfold nextM; rw [if_pos h]
theorem nextF_par2 {n : Int} (hn : n = 0 ∨ n = 1) (ss : List (List UInt8)) : nextF n ss % 2 = n := by
 have := nextF_par (n := n) ss n (by omega)
 unfold nextF
 omega
end Go.Proofs.YtkjlbedebmffgaaGreat.Sx
namespace Go.Proofs.YtkjlbedebmffgaaGreat.Sx
open Go.RowKit Go.Proofs.YtkjlbedebmffgaaGreat.Ty
attribute [local irreducible] blk own rd rx frameC
theorem Geo.fit_drop {k : Nat} {N : Int} {D : Dk} {J : Jn} {es : List Sec} (h : Geo k N D J) (hf : 1 + needs es ≤ k / 2) (m : Nat) : 1 + needs (es.drop m) ≤ k / 2 := by
 have := needs_drop es m
 omega
def AppO (k : Nat) (J J' : Jn) (es es' : List Sec) (p : Sec) (n e : Int) : Prop :=
 (1 + needs es + need p.length ≤ k / 2 ∧ J' = { J with used := J.used + (need p.length : Nat) } ∧ es' = es ++ [p] ∧ n = J.first + es.length ∧ e = 0) ∨ (k / 2 < 1 + needs es + need p.length ∧ J' = J ∧ es' = es ∧ n = 0 ∧ e = 9)
def AppV (k : Nat) (J : Jn) (es : List Sec) (p : Sec) (V V' : Int → List UInt8) : Prop := (1 + needs es + need p.length ≤ k / 2 → V' = ovl V (J.fi + J.gen % 2 * (J.se / 2) + J.used) (sects 2 J.gen ((es.length : Int) + 1) p)) ∧ (k / 2 < 1 + needs es + need p.length → V' = V)
theorem f17_two (bd bm bj : Nat) (A : Option Addr) (c : Nat) (D : Dk) (J : Jn) (Aj : Option Addr) (cj : Nat) (rs : List Bs) {k : Nat} {N : Int} {es : List Sec} {c0 k0 : Nat} (h : Strong k N D J es c0 k0) (hrs : rs.map Bs.s = es) (hN : 0 ≤ N ∧ N ≤ 900000) (hpd : D.pend.length ≤ 800000) (hl : D.lim = false) (Ab : Option Addr) (mb cb : Nat) (p : List UInt8) (hp : p.length = mb) (hp2 : mb ≤ 100000) :
  Spec Tryz.prog 17 [.pointer (some ⟨bj, 0, none⟩), .slice Ab mb cb] [blk bd (dcells D bm A c) 77, mapC bm (dmap D.dur), own (.slice A D.pend.length c) 80 257 D.pend.length (D.pend.flatMap wcs), blk bj (jcells J bd Aj rs.length cj) 96, own (.slice Aj rs.length cj) 30 1 rs.length (rs.map Bs.v), rowsC true rs] [rd (.slice Ab mb cb) 1 mb (bvs p)] (R := JP × Int × Int)
   (fun r => r.1.D.n = D.n ∧ r.1.D.lim = false ∧ r.1.D.pend.length ≤ D.pend.length + 500 ∧ (∃ c1 k1, Strong k N r.1.D r.1.J (r.1.rs.map Bs.s) c1 k1) ∧ AppO k J r.1.J es (r.1.rs.map Bs.s) p r.2.1 r.2.2 ∧ AppV k J es p D.V r.1.D.V) (fun r => .tuple #[.int .i64 r.2.1, .int .i64 r.2.2])
   (fun r => [blk bd (dcells r.1.D bm r.1.A r.1.c) 77, mapC bm (dmap r.1.D.dur), own (.slice r.1.A r.1.D.pend.length r.1.c) 80 257 r.1.D.pend.length (r.1.D.pend.flatMap wcs), blk bj (jcells r.1.J bd r.1.Aj r.1.rs.length r.1.cj) 96, own (.slice r.1.Aj r.1.rs.length r.1.cj) 30 1 r.1.rs.length (r.1.rs.map Bs.v), rowsC true r.1.rs]) := by
 have hj := h.jok hN hpd
 have h1 := hj.fs
 have h2 := hj.n
 have h3 := hj.first
 have h4 := hj.len
 have h5 := hj.mx
 subst hrs
 rw [List.length_map] at h4
 subst hp
 refine W225 ?_
 rintro ⟨⟨A9, c9⟩, ⟨Aj9, cj9⟩, rs9⟩ hq
 dsimp only at hq
 have hvis := append_vis h (by omega) hp2
 rcases append_cases h (by omega) (p := p) hp2 with ⟨a1, a2⟩ | ⟨a1, a2, a3, ⟨a4, a5, a6, a7⟩ | ⟨a4, a5, a6, a7⟩⟩
 ·rw [a2] at hq
  exact ⟨(⟨D, A9, c9, J, Aj9, cj9, rs9⟩, 0, 9), ⟨rfl, hl, by simp only []; omega, ⟨c0, k0, by rw [show rs9.map Bs.s = rs.map Bs.s from hq]; exact h⟩, .inr ⟨a1, rfl, hq, rfl, rfl⟩, ⟨fun h => by omega, fun _ => rfl⟩⟩, by rw [a2], by rw [a2]; exact weak_refl _⟩
 ·have hv := hvis a1 (by rw [a5])
  rw [a5] at hq a7
  refine ⟨(⟨(appendM D J (rs.map Bs.s) p).1, A9, c9, { J with used := J.used + (need p.length : Nat) }, Aj9, cj9, rs9⟩, J.first + ((rs.map Bs.s).length : Nat), 0), ⟨a2, by rw [a6, hl], a3, ⟨c0, k0, by rw [show rs9.map Bs.s = rs.map Bs.s ++ [p] from hq]; exact a7⟩, .inl ⟨a1, rfl, hq, rfl, rfl⟩, ⟨fun _ => hv, fun h => by omega⟩⟩, by rw [a5], by rw [a5]; exact weak_refl _⟩
 ·rw [hl] at a6; cases a6
theorem f27_two (bd bm bj : Nat) (A : Option Addr) (c : Nat) (D : Dk) (J : Jn) (Aj : Option Addr) (cj : Nat) (rs : List Bs) {k : Nat} {N : Int} {es : List Sec} {c0 k0 : Nat} (h : Strong k N D J es c0 k0) (hrs : rs.map Bs.s = es) (hN : 0 ≤ N ∧ N ≤ 900000) (hpd : D.pend.length ≤ 800000) (hl : D.lim = false) :
  Spec Tryz.prog 27 [.pointer (some ⟨bj, 0, none⟩)] [blk bd (dcells D bm A c) 77, mapC bm (dmap D.dur), own (.slice A D.pend.length c) 80 257 D.pend.length (D.pend.flatMap wcs), blk bj (jcells J bd Aj rs.length cj) 96] [] (R := Dk × Option Addr × Nat)
   (fun r => r.1.n = D.n ∧ r.1.lim = false ∧ r.1.pend = [] ∧ r.1.V = D.V ∧ ∃ c1 k1, Strong k N r.1 { J with synced := J.first + rs.length } es c1 k1) (fun r => .int .i64 0)
   (fun r => [blk bd (dcells r.1 bm r.2.1 r.2.2) 77, mapC bm (dmap r.1.dur), own (.slice r.2.1 r.1.pend.length r.2.2) 80 257 r.1.pend.length (r.1.pend.flatMap wcs), blk bj (jcells { J with synced := J.first + rs.length } bd Aj rs.length cj) 96]) := by
 have hj := h.jok hN hpd
 have h1 := hj.fs
 have h2 := hj.n
 have h3 := hj.first
 have h4 := hj.len
 have h5 := hj.mx
 subst hrs
 rw [List.length_map] at h4
 obtain ⟨v1, v2, v3, v4, v5, v6⟩ := flush_vis h.dn hl
 have hs : syncM D J rs.length = (D.flush.1, { J with synced := J.first + rs.length }, 0) := by unfold syncM; rw [if_neg (fun k => k h.fl), if_neg (fun k => k v6)]
 rcases sync_cases h with ⟨s1, s2, ⟨s3, s4, s5, s6⟩ | ⟨s3, s4, s5, s6⟩⟩
 ·rw [List.length_map] at s6
  rw [hs] at s6
  refine (f27_spec bd bm A c D bj J Aj rs.length cj (by omega) (by omega)).conseq ?_
  rintro ⟨A9, c9⟩ _
  exact ⟨(D.flush.1, A9, c9), ⟨v3, v4, v2, v1, c0, _, s6⟩, by rw [hs], by rw [hs]; exact weak_refl _⟩
 ·rw [hl] at s5; cases s5
def TrO (k : Nat) (J J' : Jn) (es es' : List Sec) (before g e : Int) : Prop :=
 ((before < J.first ∨ J.first + es.length < before) ∧ J' = J ∧ es' = es ∧ e = 2) ∨ (before = J.first ∧ J' = J ∧ es' = es ∧ e = 0) ∨
 (∃ m : Nat, 1 ≤ m ∧ m ≤ es.length ∧ before = J.first + m ∧ J' = { J with cur := g % 2, gen := g, first := before, used := ((1 + needs (es.drop m) : Nat) : Int), synced := before + (es.drop m).length } ∧ es' = es.drop m ∧ e = 0)
def TrV (k : Nat) (J : Jn) (es : List Sec) (before g : Int) (V V' : Int → List UInt8) : Prop :=
 (before ≤ J.first ∨ J.first + es.length < before → V' = V) ∧ ∀ m : Nat, 1 ≤ m → m ≤ es.length → before = J.first + m → V' = ovl V (J.fi + g % 2 * ((k / 2 : Nat) : Int)) (areaS g before (es.drop m))
theorem f18_two (bd bm bj : Nat) (A : Option Addr) (c : Nat) (D : Dk) (J : Jn) (Aj : Option Addr) (cj : Nat) (rs : List Bs) {k : Nat} {N : Int} {es : List Sec} {c0 k0 : Nat} (h : Strong k N D J es c0 k0) (hrs : rs.map Bs.s = es) (hN : 0 ≤ N ∧ N ≤ 900000) (hpd : D.pend.length ≤ 800000) (hl : D.lim = false) (before : Int) :
  Spec Tryz.prog 18 [.pointer (some ⟨bj, 0, none⟩), .int .i64 before] [blk bd (dcells D bm A c) 77, mapC bm (dmap D.dur), own (.slice A D.pend.length c) 80 257 D.pend.length (D.pend.flatMap wcs), blk bj (jcells J bd Aj rs.length cj) 96, own (.slice Aj rs.length cj) 30 1 rs.length (rs.map Bs.v), rowsC true rs] [] (R := JP × Int)
   (fun r => r.1.D.n = D.n ∧ r.1.D.lim = false ∧ r.1.D.pend.length ≤ D.pend.length + 500 ∧ (∃ c1 k1, Strong k (N + 1000) r.1.D r.1.J (r.1.rs.map Bs.s) c1 k1) ∧ TrO k J r.1.J es (r.1.rs.map Bs.s) before (nextF (1 - J.gen % 2) (D.seen J.fi k)) r.2 ∧ TrV k J es before (nextF (1 - J.gen % 2) (D.seen J.fi k)) D.V r.1.D.V) (fun r => .int .i64 r.2)
   (fun r => [blk bd (dcells r.1.D bm r.1.A r.1.c) 77, mapC bm (dmap r.1.D.dur), own (.slice r.1.A r.1.D.pend.length r.1.c) 80 257 r.1.D.pend.length (r.1.D.pend.flatMap wcs), blk bj (jcells r.1.J bd r.1.Aj r.1.rs.length r.1.cj) 96, own (.slice r.1.Aj r.1.rs.length r.1.cj) 30 1 r.1.rs.length (r.1.rs.map Bs.v), rowsC true r.1.rs]) := by
 have hj := h.jok hN hpd
 have h1 := hj.fs
 have h2 := hj.n
 have h3 := hj.first
 have h4 := hj.len
 have h5 := hj.mx
 have hgb := h.geo.gb
 have hcu := h.geo.cur
 subst hrs
 rw [List.length_map] at h4
 obtain ⟨a2, a3, a4⟩ := trunc_cases h hN before
 refine (f18_spec bd bm A c D bj J Aj cj before rs hj.dn hj.fs hj.cur (by omega) (by omega) (fun r hr => hj.pl _ (List.mem_map_of_mem hr)) (by omega) (by omega)).conseq ?_
 rintro ⟨⟨A9, c9⟩, ⟨Aj9, cj9⟩, rs9⟩ hq
 dsimp only at hq
 rcases a4 with ⟨b1, b2⟩ | ⟨b1, b2⟩ | ⟨m, m1, m2, m3, ⟨b1, b2, b3, b4, b5, b6, b7⟩ | ⟨b1, b2, b3, g, b4⟩⟩
 ·rw [b1] at hq
  exact ⟨(⟨D, A9, c9, J, Aj9, cj9, rs9⟩, 2), ⟨rfl, hl, by simp only []; omega, ⟨c0, k0, by rw [show rs9.map Bs.s = rs.map Bs.s from hq]; exact h.up (by omega)⟩, .inl ⟨b2, rfl, hq, rfl⟩, ⟨fun _ => rfl, fun m _ _ _ => by omega⟩⟩, by rw [b1], by rw [b1]; exact weak_refl _⟩
 ·rw [b1] at hq
  exact ⟨(⟨D, A9, c9, J, Aj9, cj9, rs9⟩, 0), ⟨rfl, hl, by simp only []; omega, ⟨c0, k0, by rw [show rs9.map Bs.s = rs.map Bs.s from hq]; exact h.up (by omega)⟩, .inr (.inl ⟨b2, rfl, hq, rfl⟩), ⟨fun _ => rfl, fun m _ _ _ => by omega⟩⟩, by rw [b1], by rw [b1]; exact weak_refl _⟩
 ·-- the area is written
  have hmt : (before - J.first).toNat = m := by omega
  have hne : truncM D J before (rs.map Bs.s) = if (changeM D J before ((rs.map Bs.s).drop m)).2.2 = 0 then ((changeM D J before ((rs.map Bs.s).drop m)).1, (changeM D J before ((rs.map Bs.s).drop m)).2.1, (rs.map Bs.s).drop m, 0) else ((changeM D J before ((rs.map Bs.s).drop m)).1, (changeM D J before ((rs.map Bs.s).drop m)).2.1.watch (changeM D J before ((rs.map Bs.s).drop m)).2.2, rs.map Bs.s, (changeM D J before ((rs.map Bs.s).drop m)).2.2) := by
   unfold truncM
   rw [if_neg (fun k => k h.fl), if_neg (by omega), if_neg (by omega), hmt]
  have hnf := h.geo.fit_drop h.fit m
  obtain ⟨g, hg0, hg2, hg3, hg4, _⟩ := nextM_facts (n := 1 - J.cur) (B := J.gen) (ss := D.seen J.fi k) (by rcases hcu with e | e <;> rw [e] <;> decide) (by omega) (fun s hs g' hg' => by
   obtain ⟨i, hi, rfl⟩ := mem_seen.1 hs
   exact h.gens _ g' (by omega) (by omega) hg')
  have hgn : g = nextF (1 - J.gen % 2) (D.seen J.fi k) := by
   rw [h.par]
   unfold nextM at hg0
   split at hg0
   ·simp only [Prod.mk.injEq] at hg0
    omega
   ·simp only [Prod.mk.injEq] at hg0
    exact hg0.1.symm
  have hpar2 : 1 - J.cur = g % 2 := hg2.symm
  obtain ⟨c1, c2, c3, c4, c5, c6⟩ := change_vis (f := before) (es := (rs.map Bs.s).drop m) h.geo.se h.dn hl hcu h.geo.fi h.geo.top hg0 (fine_pl (by omega) hnf h.geo.k (fun p hp => h.pl p (List.mem_of_mem_drop hp))) hnf
  have he : (changeM D J before ((rs.map Bs.s).drop m)).2.2 = 0 := by rw [c1]
  rw [if_pos he] at hne
  rw [hne] at b7 hq a2 a3
  rw [c1] at b7
  rw [hpar2] at c6 b7
  rw [← hgn]
  refine ⟨(⟨(changeM D J before ((rs.map Bs.s).drop m)).1, A9, c9, { J with cur := g % 2, gen := g, first := before, used := ((1 + needs ((rs.map Bs.s).drop m) : Nat) : Int), synced := before + ((rs.map Bs.s).drop m).length }, Aj9, cj9, rs9⟩, 0), ⟨c2, c4, a3, ⟨_, _, by rw [show rs9.map Bs.s = (rs.map Bs.s).drop m from hq]; exact b7⟩, .inr (.inr ⟨m, m1, m2, m3, rfl, hq, rfl⟩), ⟨fun _ => by omega, fun m' _ _ hm' => by
   obtain rfl : m' = m := by omega
   exact c6⟩⟩, by rw [hne], by rw [hne, c1, hpar2]; exact weak_refl _⟩
 ·rw [hl] at b3; cases b3
end Go.Proofs.YtkjlbedebmffgaaGreat.Sx
namespace Go.Proofs.YtkjlbedebmffgaaGreat.Sx
open Go.RowKit Go.Proofs.YtkjlbedebmffgaaGreat.Ty
attribute [local irreducible] blk own rd rx frameC
set_option maxHeartbeats 400000 in
set_option maxRecDepth 10000 in
theorem f14_none (bd bm : Nat) (A : Option Addr) (c : Nat) (D : Dk) (fi : Int) (k : Nat) (hck : D.check fi (k : Int) = 0) (hpk : pkM D fi k 2 = none) (hn : D.n ≤ 1000000) (hmx : D.pend.length ≤ 1000000) :
  Spec Tryz.prog 14 [.pointer (some ⟨bd, 0, none⟩), .int .i64 fi, .int .i64 (k : Int)] [blk bd (dcells D bm A c) 77, mapC bm (dmap D.dur), own (.slice A D.pend.length c) 80 257 D.pend.length (D.pend.flatMap wcs)] [] (R := Option Addr × Nat)
   (fun _ => True) (fun q => .tuple #[.pointer none, .slice none 0 0, .int .i64 3])
   (fun q => [blk bd (dcells D bm q.1 q.2) 77, mapC bm (dmap D.dur), own (.slice q.1 D.pend.length q.2) 80 257 D.pend.length (D.pend.flatMap wcs)]) := by
 have hck2 := check_ok hck
 refine Spec.intro Tryz.func14 Tryz.ntmps14 rfl (by simp) (by simp) fun w0 => ?_
 refine W240 ?_
 refine W266 ?_
 refine W111 ?_
 refine W299 ?_
 refine W4 ?_
 refine W222 ?_
 refine wl1 (op_alloc ti88 (lt_ rfl)) rfl fun b1 => ?_
 refine wl (op_storeAll sz88 rfl rfl xK xL xO xL) rfl ?_
 refine W252 ?_
 refine WX.regs (L' := [(9, _)]) ?_
 refine W269 ?_
 refine W93 ?_
 refine wlx (op_call (f37_spec bd bm A c D fi (k : Int) hn (by omega)) ca37 (lt_ rfl) rfl) rfl ?_
 rintro _ _
 refine W241 ?_
 refine WX.regs (L' := [(9, _), (10, _)]) ?_
 refine W359 ?_
 refine WX.regs (L' := [(9, _), (10, _), (27, _)]) ?_
 refine W0 ?_
 refine WC.cond rfl (fun h1 => ?_) (fun h1 => ?_)
 ·
  exact absurd hck h1
 ·
  refine W274 ?_
  refine wl1 (op_alloc ti92 (lt_ rfl)) rfl fun b2 => ?_
  refine W2 ?_
  refine WX.regs (L' := [(9, _), (11, _)]) ?_
  refine W269 ?_
  refine W272 ?_
  refine W53 ?_
  refine W294 ?_
  refine W293 ?_
  refine W223 ?_
  rintro ⟨i, best⟩ ⟨hi, hft⟩
  try dsimp only at hi hft ⊢
  refine W312 ?_
  refine WX.regs (L' := [(9, _), (11, _), (29, _), (30, _)]) ?_
  refine W327 ?_
  refine WC.cond rfl (fun h2 => ?_) (fun h2 => ?_)
  ·
   refine W298 ?_
   refine W4 ?_
   refine W241 ?_
   refine WX.regs (L' := [(9, _), (11, _), (12, _), (29, _)]) ?_
   refine W249 ?_
   refine W93 ?_
   refine W4 ?_
   refine W224 ?_
   rintro a ha
   refine W296 ?_
   refine wl1 (op_alloc ti92 (lt_ rfl)) rfl fun b3 => ?_
   refine W49 ?_
   refine W271 ?_
   refine WX.regs (L' := [(9, _), (11, _), (13, _), (14, _), (29, _)]) ?_
   refine W332 ?_
   refine WX.regs (L' := [(9, _), (11, _), (13, _), (14, _), (29, _), (39, _)]) ?_
   refine W0 ?_
   refine WC.cond rfl (fun h3 => ?_) (fun h3 => ?_)
   ·
    exact absurd rfl h3
   ·
    refine W274 ?_
    refine W321 ?_
    refine W4 ?_
    refine WL.splitb (t := 43) rfl (fun g43 => ?_) (fun g43 => ?_)
    ·
     refine wlgv (op_fieldAddr fo92_0 (lt_ rfl) rfl) rfl rfl rfl ?_
     refine wlgv (op_load1 fl4 (lt_ rfl) rfl xM rfl) rfl rfl rfl ?_
     refine W113 ?_
     refine W13 ?_
     refine WL.splitb (t := 47) rfl (fun g47 => ?_) (fun g47 => ?_)
     ·
      refine W255 ?_
      refine W6 ?_
      refine W68 ?_
      refine W313 ?_
      refine W103 ?_
      refine W362 ?_
      refine W3 ?_
      refine W116 ?_
      refine W49 ?_
      refine W252 ?_
      refine W53 ?_
      refine W330 ?_
      refine W53 ?_
      refine WX.meet ((i + 1, a)) ⟨⟨by simp only []; omega, fits_take hft ha (by assumption) (by first | (right; assumption) | (left; simp_all; done))⟩, by simp only []; omega⟩ (fun a w hs => hs.sub xY xT)
     ·
      refine W147 ?_
      refine W28 ?_
      refine W147 ?_
      refine W28 ?_
      refine W36 ?_
      refine W57 ?_
      refine W313 ?_
      refine W103 ?_
      refine W0 ?_
      refine WC.cond rfl (fun h4 => ?_) (fun h4 => ?_)
      ·
       refine W3 ?_
       refine W116 ?_
       refine W49 ?_
       refine W252 ?_
       refine W53 ?_
       refine W330 ?_
       refine W53 ?_
       refine WX.meet ((i + 1, a)) ⟨⟨by simp only []; omega, fits_take hft ha (by assumption) (by first | (right; assumption) | (left; simp_all; done))⟩, by simp only []; omega⟩ (fun a w hs => hs.sub xY xT)
      ·
       refine W291 ?_
       refine W0 ?_
       refine W286 ?_
       refine W53 ?_
       refine WX.meet ((i + 1, best)) ⟨⟨by simp only []; omega, fits_keep hft ha (by first | (left; assumption) | (right; refine ⟨by first | assumption | simp_all, by assumption⟩))⟩, by simp only []; omega⟩ (fun a w hs => hs.sub xY xT)
    ·
     refine W255 ?_
     refine W37 ?_
     refine W37 ?_
     refine W37 ?_
     refine W37 ?_
     refine W37 ?_
     refine W6 ?_
     refine W285 ?_
     refine W103 ?_
     refine W281 ?_
     refine W330 ?_
     refine W53 ?_
     refine WX.meet ((i + 1, best)) ⟨⟨by simp only []; omega, fits_keep hft ha (by first | (left; assumption) | (right; refine ⟨by first | assumption | simp_all, by assumption⟩))⟩, by simp only []; omega⟩ (fun a w hs => hs.sub xY xT)
  ·
   refine W264 ?_
   refine W269 ?_
   refine W321 ?_
   refine W85 ?_
   refine W2 ?_
   have hbest : best = Ar.zero := by have hft2 := hft; rw [show i = 2 by omega, hpk] at hft2; exact hft2
   subst hbest
   refine WX.regs (L' := [(9, _), (11, _), (59, _)]) ?_
   refine W0 ?_
   refine WC.condb rfl (fun h5 => ?_) (fun h5 => ?_)
   ·
    refine W240 ?_
    refine W266 ?_
    refine W45 ?_
    refine W263 ?_
    exact Fin.ret3 xI ((A, c)) (trivial) Tryz.results14 rfl (.tmp rfl) (.tmp rfl) (.tmp rfl) xT (by simp)
   ·
    cases h5
end Go.Proofs.YtkjlbedebmffgaaGreat.Sx
namespace Go.Proofs.YtkjlbedebmffgaaGreat.Sx
open Go.RowKit Go.Proofs.YtkjlbedebmffgaaGreat.Ty
attribute [local irreducible] blk own rd rx frameC
theorem Wobs {k : Nat} {N : Int} {D : Dk} {J : Jn} {es : List Sec} {c0 k0 : Nat} {r : Rd} (h : Strong k N D J es c0 k0) (hN : 0 ≤ N ∧ N ≤ 900000) (hs : Same r D) :
  (0 ≤ J.fi ∧ J.fi ≤ 1000 ∧ J.se = k ∧ 8 ≤ k ∧ k ≤ 1000 ∧ J.used = ((1 + needs es : Nat) : Int) ∧ 1 + needs es ≤ k / 2 ∧ 0 ≤ J.gen ∧ J.gen ≤ 900000 ∧ 0 ≤ J.first ∧ J.first ≤ 900000 ∧ es.length ≤ needs es) ∧ J.fi + k ≤ r.ds.length ∧ (r.ds.length ≤ 1000) ∧ J.gen % 2 = J.cur ∧ (J.cur = 0 ∨ J.cur = 1) := by
 have h1 := h.geo.fi
 have h2 := h.geo.top
 have h3 := h.geo.n
 have h4 := h.geo.gb
 have h5 := h.geo.fb
 exact ⟨⟨h1, by have := h.geo.k8; omega, h.geo.se, h.geo.k8, h.geo.k, h.used, h.fit, h4.1, by omega, h5.1, by omega, needs_le es⟩, by rw [hs.n]; exact h2, by rw [hs.n]; exact h3, h.par, h.geo.cur⟩
theorem f26_any {k : Nat} {N : Int} {D : Dk} {J : Jn} {es0 : List Sec} {c0 k0 : Nat} (h : Strong k N D J es0 c0 k0) (hN : 0 ≤ N ∧ N ≤ 900000) (r : Rd) (hs : Same r D) (hw : r.ws.length ≤ 900000) (A : Option Addr) (c : Nat) (es : List Bs) (hes : es.map Bs.s = es0) (Ab : Option Addr) (mb cb : Nat) (p : List UInt8) (hpm : p.length = mb) (hp : mb ≤ 100000) :
  Spec Tryz.prog 26 [.agg r.cells.toArray, .agg (rjc J A c es.length).toArray, .slice Ab mb cb] [own (.slice r.A r.ds.length r.c) 30 1 r.ds.length (r.ds.map Bs.v), rowsC true r.ds, own (.slice r.Aw r.ws.length r.cw) 84 2 r.ws.length (r.ws.flatMap Wb.cells), rowsC true (r.ws.map Wb.b), own (.slice A es.length c) 30 1 es.length (es.map Bs.v), rowsC true es] [rd (.slice Ab mb cb) 1 mb (bvs p)] (R := Rd × Jn × Option Addr × Nat × List Bs × Int × Int)
   (fun q => AppO k J q.2.1 es0 (q.2.2.2.2.1.map Bs.s) p q.2.2.2.2.2.1 q.2.2.2.2.2.2 ∧ q.1.ws.length ≤ r.ws.length + 600 ∧ (1 + needs es0 + need p.length ≤ k / 2 → q.1.Put r (J.fi + J.gen % 2 * (J.se / 2) + J.used) (sects 2 J.gen ((es0.length : Int) + 1) p)) ∧ (k / 2 < 1 + needs es0 + need p.length → q.1 = r))
   (fun q => .tuple #[.agg q.1.cells.toArray, .agg (rjc q.2.1 q.2.2.1 q.2.2.2.1 q.2.2.2.2.1.length).toArray, .int .i64 q.2.2.2.2.2.1, .int .i64 q.2.2.2.2.2.2]) (fun q => [own (.slice q.1.A q.1.ds.length q.1.c) 30 1 q.1.ds.length (q.1.ds.map Bs.v), rowsC true q.1.ds, own (.slice q.1.Aw q.1.ws.length q.1.cw) 84 2 q.1.ws.length (q.1.ws.flatMap Wb.cells), rowsC true (q.1.ws.map Wb.b), own (.slice q.2.2.1 q.2.2.2.2.1.length q.2.2.2.1) 30 1 q.2.2.2.2.1.length (q.2.2.2.2.1.map Bs.v), rowsC true q.2.2.2.2.1]) := by
 subst hpm
 obtain ⟨h1, h2, h3, h4, h5⟩ := Wobs h hN hs
 have hel : es.length = es0.length := by rw [← hes, List.length_map]
 have hnl := need_le (m := p.length) (by omega)
 have hfree : J.se / 2 = ((k / 2 : Nat) : Int) := by rw [h1.2.2.1]; omega
 have hgm : 0 ≤ J.gen % 2 * (J.se / 2) ∧ J.gen % 2 * (J.se / 2) + ((k / 2 : Nat) : Int) ≤ k := by rw [hfree, h4]; rcases h5 with e | e <;> rw [e] <;> omega
 by_cases hfit : 1 + needs es0 + need p.length ≤ k / 2
 ·refine (f26_spec r hs.ok J A c es h.fl ⟨by omega, by omega, by omega, by omega, by omega, by omega, by omega, by omega, by omega, by omega, by omega⟩ Ab cb p hp (by rw [hfree]; omega) (by omega) (by omega)).conseq ?_
  rintro ⟨q, A2, c2, A3, c3⟩ hq
  dsimp only at hq
  rw [hel] at hq
  refine ⟨(q, { J with used := J.used + (need p.length : Nat) }, A2, c2, es ++ [⟨A3, c3, p⟩], J.first + (es.length : Nat), 0), ⟨.inl ⟨hfit, rfl, by rw [List.map_append, hes]; rfl, by simp only []; rw [hel], rfl⟩, by have := hq.m; rw [sects_length] at this; simp only []; omega, fun _ => hq, fun hc => by omega⟩, rfl, weak_refl _⟩
 ·refine (f26_full r hs.ok J A c es h.fl ⟨by omega, by omega, by omega, by omega, by omega, by omega, by omega, by omega, by omega, by omega, by omega⟩ Ab cb p hp (by rw [hfree]; omega)).conseq ?_
  rintro _ _
  exact ⟨(r, J, A, c, es, 0, 9), ⟨.inr ⟨by omega, rfl, hes, rfl, rfl⟩, by simp only []; omega, fun hc => absurd hc hfit, fun _ => rfl⟩, rfl, weak_refl _⟩
theorem f29_any {k : Nat} {N : Int} {D : Dk} {J : Jn} {es0 : List Sec} {c0 k0 : Nat} (h : Strong k N D J es0 c0 k0) (hN : 0 ≤ N ∧ N ≤ 900000) (r : Rd) (hs : Same r D) (hw : r.ws.length ≤ 900000) (A : Option Addr) (c : Nat) (es : List Bs) (hes : es.map Bs.s = es0) (before : Int) :
  Spec Tryz.prog 29 [.agg r.cells.toArray, .agg (rjc J A c es.length).toArray, .int .i64 before] [own (.slice r.A r.ds.length r.c) 30 1 r.ds.length (r.ds.map Bs.v), rowsC true r.ds, own (.slice r.Aw r.ws.length r.cw) 84 2 r.ws.length (r.ws.flatMap Wb.cells), rowsC true (r.ws.map Wb.b), own (.slice A es.length c) 30 1 es.length (es.map Bs.v), rowsC true es] [] (R := Rd × Jn × Option Addr × Nat × List Bs × Int)
   (fun q => TrO k J q.2.1 es0 (q.2.2.2.2.1.map Bs.s) before (nextF (1 - J.gen % 2) (D.seen J.fi k)) q.2.2.2.2.2 ∧ q.1.ws.length ≤ r.ws.length ∧ (before ≤ J.first ∨ J.first + es0.length < before → q.1 = r) ∧
    ∀ m : Nat, 1 ≤ m → m ≤ es0.length → before = J.first + m → q.1.Area r (J.fi + nextF (1 - J.gen % 2) (D.seen J.fi k) % 2 * ((k / 2 : Nat) : Int)) (areaS (nextF (1 - J.gen % 2) (D.seen J.fi k)) before (es0.drop m)))
   (fun q => .tuple #[.agg q.1.cells.toArray, .agg (rjc q.2.1 q.2.2.1 q.2.2.2.1 q.2.2.2.2.1.length).toArray, .int .i64 q.2.2.2.2.2]) (fun q => [own (.slice q.1.A q.1.ds.length q.1.c) 30 1 q.1.ds.length (q.1.ds.map Bs.v), rowsC true q.1.ds, own (.slice q.1.Aw q.1.ws.length q.1.cw) 84 2 q.1.ws.length (q.1.ws.flatMap Wb.cells), rowsC true (q.1.ws.map Wb.b), own (.slice q.2.2.1 q.2.2.2.2.1.length q.2.2.2.1) 30 1 q.2.2.2.2.1.length (q.2.2.2.2.1.map Bs.v), rowsC true q.2.2.2.2.1]) := by
 obtain ⟨h1, h2, h3, h4, h5⟩ := Wobs h hN hs
 have hel : es.length = es0.length := by rw [← hes, List.length_map]
 have hseen := hs.seen (a := J.fi) (k := k) (by have := h.geo.top; omega)
 by_cases ha : before < J.first ∨ J.first + es0.length < before
 ·refine (f29_range r J k A c es h.fl ⟨by omega, by omega, by omega⟩ before (by omega)).conseq ?_
  rintro _ _
  exact ⟨(r, J, A, c, es, 2), ⟨.inl ⟨ha, rfl, hes, rfl⟩, Nat.le_refl _, fun _ => rfl, fun m _ _ _ => by omega⟩, rfl, weak_refl _⟩
 ·by_cases hb : before = J.first
  ·refine (f29_same r J k A c es h.fl ⟨by omega, by omega, by omega⟩ before hb).conseq ?_
   rintro _ _
   exact ⟨(r, J, A, c, es, 0), ⟨.inr (.inl ⟨hb, rfl, hes, rfl⟩), Nat.le_refl _, fun _ => rfl, fun m _ _ _ => by omega⟩, rfl, weak_refl _⟩
  ·obtain ⟨m, hm⟩ : ∃ m : Nat, before = J.first + m := ⟨(before - J.first).toNat, by omega⟩
   obtain ⟨g, hg0, hg2, hg3, hg4, _⟩ := nextM_facts (n := 1 - J.cur) (B := J.gen) (ss := D.seen J.fi k) (by rcases h5 with e | e <;> rw [e] <;> decide) (by omega) (fun s hs g' hg' => by
    obtain ⟨i, hi, rfl⟩ := mem_seen.1 hs
    exact h.gens _ g' (by omega) (by omega) hg')
   have hgn : g = nextF (1 - J.gen % 2) (D.seen J.fi k) := by
    rw [h4]
    unfold nextM at hg0
    split at hg0
    ·simp only [Prod.mk.injEq] at hg0
     omega
    ·simp only [Prod.mk.injEq] at hg0
     exact hg0.1.symm
   rw [← hgn]
   rw [hseen] at hgn
   refine (f29_spec r J k A c es h.fl ⟨by omega, by omega, by omega⟩ hs.ok m ⟨by omega, by omega⟩ before hm h1.2.2.1 ⟨by omega, by omega, by omega⟩ ⟨by omega, by rw [← hgn]; omega⟩ (fun b hb => Nat.le_trans (h.pl _ (by rw [← hes]; exact List.mem_map_of_mem hb)) (by decide)) (by rw [hes]; exact h1.2.2.2.2.2.2.1) (by omega)).conseq ?_
   rintro ⟨q, A2, c2⟩ hq
   dsimp only at hq
   rw [← hgn, List.map_drop, hes, ← hm] at hq
   have hj : rjc (jrr J.fi k (nextF (1 - J.gen % 2) (seenR r.V J.fi k)) (J.first + (m : Nat)) (1 + needs ((es.drop m).map Bs.s)) (es.drop m).length) A2 c2 (es.drop m).length = rjc { J with cur := g % 2, gen := g, first := before, used := ((1 + needs (es0.drop m) : Nat) : Int), synced := before + (es0.drop m).length } A2 c2 (es.drop m).length := by
    rw [← hgn, ← hm, List.map_drop, hes]
    unfold rjc jrr
    simp only [h1.2.2.1, h.fl, List.length_drop, hel]
   refine ⟨(q, { J with cur := g % 2, gen := g, first := before, used := ((1 + needs (es0.drop m) : Nat) : Int), synced := before + (es0.drop m).length }, A2, c2, es.drop m, 0), ⟨.inr (.inr ⟨m, by omega, by omega, hm, rfl, by rw [List.map_drop, hes], rfl⟩), by have := hq.m; simp only []; rw [this]; exact Nat.zero_le _, fun hc => by omega, fun m' _ _ hm' => ?_⟩, by rw [hj], weak_refl _⟩
   obtain rfl : m' = m := by omega
   rw [show ((k / 2 : Nat) : Int) = (k : Int) / 2 by omega]
   exact hq
theorem f35_ok (r : Rd) (hr : r.Ok) (a : Int) (k : Nat) (ha : 0 ≤ a ∧ 8 ≤ k ∧ a + k ≤ r.ds.length) (hw : r.ws.length + 10000 ≤ 1000000) (g f : Int) (es0 : List Sec) (hpk : pkR r.V a k = some (g, f, es0)) (hg : nextF (1 - g % 2) (seenR r.V a k) ≤ 2147483647) :
  Spec Tryz.prog 35 [.agg r.cells.toArray, .int .i64 a, .int .i64 (k : Int)] [own (.slice r.A r.ds.length r.c) 30 1 r.ds.length (r.ds.map Bs.v), rowsC true r.ds, own (.slice r.Aw r.ws.length r.cw) 84 2 r.ws.length (r.ws.flatMap Wb.cells), rowsC true (r.ws.map Wb.b)] [] (R := Rd × Option Addr × Nat × List Bs)
   (fun q => q.2.2.2.map Bs.s = es0 ∧ q.1.Area r (a + nextF (1 - g % 2) (seenR r.V a k) % 2 * ((k / 2 : Nat) : Int)) (areaS (nextF (1 - g % 2) (seenR r.V a k)) f es0))
   (fun q => .tuple #[.agg q.1.cells.toArray, .agg (rjc (jrr a k (nextF (1 - g % 2) (seenR r.V a k)) f (1 + needs es0) q.2.2.2.length) q.2.1 q.2.2.1 q.2.2.2.length).toArray, .int .i64 0]) (fun q => [own (.slice q.1.A q.1.ds.length q.1.c) 30 1 q.1.ds.length (q.1.ds.map Bs.v), rowsC true q.1.ds, own (.slice q.1.Aw q.1.ws.length q.1.cw) 84 2 q.1.ws.length (q.1.ws.flatMap Wb.cells), rowsC true (q.1.ws.map Wb.b), own (.slice q.2.1 q.2.2.2.length q.2.2.1) 30 1 q.2.2.2.length (q.2.2.2.map Bs.v), rowsC true q.2.2.2]) := by
 refine (f35_spec r hr a k ha hw).conseq ?_
 rintro (⟨q, A, c, es, g', f'⟩ | e) hq
 ·dsimp only at hq
  obtain ⟨q1, q2, q3⟩ := hq
  rw [hpk] at q1
  simp only [Option.some.injEq, Prod.mk.injEq] at q1
  obtain ⟨rfl, rfl, rfl⟩ := q1
  refine ⟨(q, A, c, es), ⟨rfl, ?_⟩, rfl, weak_refl _⟩
  rw [show ((k / 2 : Nat) : Int) = (k : Int) / 2 by omega]
  exact q3
 ·exfalso
  rcases hq with ⟨q1, _⟩ | ⟨g', f', es', q1, q2, _⟩
  ·rw [hpk] at q1; cases q1
  ·rw [hpk] at q1
   simp only [Option.some.injEq, Prod.mk.injEq] at q1
   obtain ⟨rfl, rfl, rfl⟩ := q1
   omega
def Bad (V : Int → List UInt8) (a : Int) (k : Nat) (e : Int) : Prop := (pkR V a k = none ∧ e = 3) ∨ ∃ g f es, pkR V a k = some (g, f, es) ∧ 2147483647 < nextF (1 - g % 2) (seenR V a k) ∧ e = 9
theorem f35_bad (r : Rd) (hr : r.Ok) (a : Int) (k : Nat) (ha : 0 ≤ a ∧ 8 ≤ k ∧ a + k ≤ r.ds.length) (hw : r.ws.length + 10000 ≤ 1000000) (e : Int) (hb : Bad r.V a k e) :
  Spec Tryz.prog 35 [.agg r.cells.toArray, .int .i64 a, .int .i64 (k : Int)] [own (.slice r.A r.ds.length r.c) 30 1 r.ds.length (r.ds.map Bs.v), rowsC true r.ds, own (.slice r.Aw r.ws.length r.cw) 84 2 r.ws.length (r.ws.flatMap Wb.cells), rowsC true (r.ws.map Wb.b)] [] (R := Unit) (fun _ => True)
   (fun _ => .tuple #[.agg r.cells.toArray, .agg #[.int .i64 0, .int .i64 0, .int .i64 0, .int .i64 0, .int .i64 0, .int .i64 0, .slice none 0 0, .int .i64 0, .int .i64 0], .int .i64 e]) (fun _ => []) := by
 refine (f35_spec r hr a k ha hw).conseq ?_
 rintro (⟨q, A, c, es, g', f'⟩ | e') hq
 ·exfalso
  dsimp only at hq
  obtain ⟨q1, q2, q3⟩ := hq
  rcases hb with ⟨b1, _⟩ | ⟨g, f, es', b1, b2, _⟩
  ·rw [q1] at b1; cases b1
  ·rw [q1] at b1
   simp only [Option.some.injEq, Prod.mk.injEq] at b1
   obtain ⟨rfl, rfl, rfl⟩ := b1
   omega
 ·have he : e' = e := by
   rcases hb with ⟨b1, b2⟩ | ⟨g, f, es', b1, _, b2⟩ <;> rcases hq with ⟨q1, q2⟩ | ⟨g', f', es'', q1, _, q2⟩
   ·omega
   ·rw [q1] at b1; cases b1
   ·rw [q1] at b1; cases b1
   ·omega
  subst he
  exact ⟨(), trivial, rfl, .nil _⟩
theorem f14_bad (bd bm : Nat) (A : Option Addr) (c : Nat) (D : Dk) (fi : Int) (k : Nat) {r : Rd} (hs : Same r D) (hk : 8 ≤ k ∧ k ≤ 1000) (hfi : 0 ≤ fi ∧ fi + k ≤ D.n) (hd : D.down = false) (hn : D.n ≤ 1000) (hp : D.pend.length ≤ 900000) (e : Int) (hb : Bad r.V fi k e) :
  Spec Tryz.prog 14 [.pointer (some ⟨bd, 0, none⟩), .int .i64 fi, .int .i64 (k : Int)] [blk bd (dcells D bm A c) 77, mapC bm (dmap D.dur), own (.slice A D.pend.length c) 80 257 D.pend.length (D.pend.flatMap wcs)] [] (R := Option Addr × Nat)
   (fun _ => True) (fun q => .tuple #[.pointer none, .slice none 0 0, .int .i64 e]) (fun q => [blk bd (dcells D bm q.1 q.2) 77, mapC bm (dmap D.dur), own (.slice q.1 D.pend.length q.2) 80 257 D.pend.length (D.pend.flatMap wcs)]) := by
 have hpk := hs.pk (a := fi) (k := k) hfi
 have hck := check_zero hk.1 hfi.1 hfi.2 hd
 have hseen := hs.seen (a := fi) (k := k) hfi
 rcases hb with ⟨b1, rfl⟩ | ⟨g, f, es, b1, b2, rfl⟩
 ·exact f14_none bd bm A c D fi k hck (hpk.trans b1) (by omega) (by omega)
 ·obtain ⟨c1, c2, c3, c4⟩ := pkR_bound b1
  have hcm : changeM D (jn0 fi (k : Int) g f) f es = (D, jn0 fi (k : Int) g f, 9) := changeM_next (g := 0) (by
   show ((0 : Int), (9 : Int)) = nextM (1 - g % 2) (D.seen fi ((k : Int)).toNat)
   rw [Int.toNat_natCast, hseen, nextM_of_gt b2]) (by decide)
  refine (f14_err bd bm A c D fi k g f es hck (hpk.trans b1) c1 (by omega) c3 (by omega) (by omega) (by rw [hcm]; show ¬ (9 : Int) = 0; decide)).conseq ?_
  rintro ⟨A9, c9⟩ _
  exact ⟨(A9, c9), trivial, by rw [hcm], by rw [hcm]; exact weak_refl _⟩
end Go.Proofs.YtkjlbedebmffgaaGreat.Sx
namespace Go.Proofs.YtkjlbedebmffgaaGreat.Sx
open Go.RowKit Go.Proofs.YtkjlbedebmffgaaGreat.Ty
attribute [local irreducible] blk own rd rx frameC
section
variable {P : Program} {n : Fr} {L : List (Nat × Value)} {H : List Ch} {d : Nat} {ty t e xt yt : TypeId} {pos : String} {af : Array Edge} {g : Option (Nat × Bool)} {x y : Operand}
theorem op_eqlnil0 (hu : P.underlying t = some (.pointer e)) (hn : d < n.n) (hx : evr L x = some (.pointer none)) (hy : evr L y = some (.pointer none)) :
  Val P ⟨some d, .binOp .eql t x y yt, ty, pos, af, g⟩ n L H d (.bool true) :=
 binop_val hn hx hy (fun _ _ => rfl) fun w => by
  have h : ∀ k, (Op.equalIn (k + 1) t (.pointer none) (.pointer none)).run P w = .ok true w := fun k => by
   simp [Op.equalIn, Sem.run_bind, run_underlying hu]
  have h2 : (Op.equal t (.pointer none) (.pointer none)).run P w = .ok true w := h 9999
  simp only [binOp, Sem.run_bind, h2, Result.andThen]
  rfl
theorem op_neqb {p q : Bool} (hn : d < n.n) (hx : evr L x = some (.bool p)) (hy : evr L y = some (.bool q)) (hu : P.underlying xt = some .bool) : Val P ⟨some d, .binOp .neq xt x y yt, ty, pos, af, g⟩ n L H d (.bool (!(p == q))) :=
 binop_val hn hx hy (fun _ _ => rfl) fun w => by
  have h : ∀ k, (Op.equalIn (k + 1) xt (.bool p) (.bool q)).run P w = .ok (p == q) w := fun k => by
   simp [Op.equalIn, Sem.run_bind, run_underlying hu]
  have h2 : (Op.equal xt (.bool p) (.bool q)).run P w = .ok (p == q) w := h 9999
  simp only [binOp, Sem.run_bind, h2, Result.andThen]
  rfl
end
theorem entC_at {rs : List Bs} {i : Nat} {r : Bs} (h : rs[i]? = some r) (n : Int) : (entC n rs)[i * 2]? = some (.int .i64 (n + i)) ∧ (entC n rs)[i * 2 + 1]? = some r.v := by
 induction rs generalizing i n with
 | nil => simp at h
 | cons x rs ih =>
  cases i with
  | zero =>
   simp only [List.getElem?_cons_zero, Option.some.injEq] at h
   subst h
   exact ⟨by simp [entC], by simp [entC]⟩
  | succ i =>
   rw [List.getElem?_cons_succ] at h
   obtain ⟨h1, h2⟩ := ih h (n + 1)
   rw [show (i + 1) * 2 = i * 2 + 1 + 1 by omega]
   simp only [entC, List.getElem?_cons_succ]
   exact ⟨by rw [h1]; congr 2; omega, h2⟩
theorem entC_length (rs : List Bs) : ∀ n : Int, (entC n rs).length = rs.length * 2 := by
 induction rs with
 | nil => intro n; rfl
 | cons x rs ih => intro n; simp [entC, ih]; omega
def wcl (bd : Nat) (pj : Value) (r : Rd) (jc : List Value) (k : Nat) : List Value := .pointer (some ⟨bd, 0, none⟩) :: pj :: (r.cells ++ (jc ++ [.int .i64 (k : Int)]))
theorem Bad.ne {V : Int → List UInt8} {a : Int} {k : Nat} {e : Int} (h : Bad V a k e) : ¬ e = 0 := by
 rcases h with ⟨_, rfl⟩ | ⟨_, _, _, _, _, rfl⟩ <;> decide
theorem open_or (V : Int → List UInt8) (a : Int) (k : Nat) : (∃ g f es, pkR V a k = some (g, f, es) ∧ nextF (1 - g % 2) (seenR V a k) ≤ 2147483647) ∨ ∃ e, Bad V a k e := by
 cases h : pkR V a k with
 | none => exact .inr ⟨3, .inl ⟨h, rfl⟩⟩
 | some y =>
  obtain ⟨g, f, es⟩ := y
  by_cases hg : nextF (1 - g % 2) (seenR V a k) ≤ 2147483647
  ·exact .inl ⟨g, f, es, rfl, hg⟩
  ·exact .inr ⟨9, .inr ⟨g, f, es, h, by omega, rfl⟩⟩
theorem open_vis {r : Rd} {D : Dk} {a : Int} {k : Nat} {g f : Int} {es : List Sec} (hs : Same r D) (hd : D.down = false) (hl : D.lim = false) (hk : 8 ≤ k ∧ k ≤ 1000) (ha : 0 ≤ a ∧ a + k ≤ D.n) (hpk : pkR r.V a k = some (g, f, es)) (hg : nextF (1 - g % 2) (seenR r.V a k) ≤ 2147483647) :
  D.check a k = 0 ∧ pkM D a k 2 = some (g, f, es) ∧ (0 ≤ g ∧ g ≤ 2147483647) ∧ (0 ≤ f ∧ f ≤ 2147483647) ∧ (∀ p ∈ es, p.length ≤ 131072) ∧ 1 + needs es ≤ k / 2 ∧ (changeM D (jn0 a (k : Int) g f) f es).2.2 = 0 ∧ (changeM D (jn0 a (k : Int) g f) f es).1.n = D.n ∧ (changeM D (jn0 a (k : Int) g f) f es).1.lim = false ∧ (changeM D (jn0 a (k : Int) g f) f es).1.pend = [] ∧
   (∀ q : Rd, q.Area r (a + nextF (1 - g % 2) (seenR r.V a k) % 2 * ((k / 2 : Nat) : Int)) (areaS (nextF (1 - g % 2) (seenR r.V a k)) f es) → Same q (changeM D (jn0 a (k : Int) g f) f es).1) ∧ (changeM D (jn0 a (k : Int) g f) f es).2.1.first = f ∧
   ∀ A c m, m = es.length → rjc (jrr a k (nextF (1 - g % 2) (seenR r.V a k)) f (1 + needs es) m) A c m = rjc (changeM D (jn0 a (k : Int) g f) f es).2.1 A c m := by
 obtain ⟨b1, b2, b3, b4⟩ := pkR_bound hpk
 have hle := needs_le es
 have hseen := hs.seen (a := a) (k := k) ha
 have hpar : (1 : Int) - g % 2 = 0 ∨ (1 : Int) - g % 2 = 1 := by omega
 have hn0 := nextF_ge (1 - g % 2) (seenR r.V a k)
 have hp2 := nextF_par2 hpar (seenR r.V a k)
 obtain ⟨c1, c2, c3, c4, c5, c6⟩ := change_vis (D := D) (J := jn0 a (k : Int) g f) (k := k) (f := f) (es := es) rfl hd hl (by show g % 2 = 0 ∨ g % 2 = 1; omega) ha.1 ha.2 (by show nextM (1 - g % 2) (D.seen a k) = _; rw [hseen]; exact nextM_of_le hg) ⟨by omega, by omega, b3⟩ b4
 refine ⟨check_zero hk.1 ha.1 ha.2 hd, (hs.pk ha).trans hpk, b1, b2, b3, b4, by rw [c1], c2, c4, c5, fun q hq => hs.area hq c2 ?_, by rw [c1], fun A c m hm => ?_⟩
 ·rw [hp2]
  exact c6
 ·subst hm
  rw [c1]
  rfl
set_option maxHeartbeats 400000 in
set_option maxRecDepth 10000 in
theorem f36_spec (J : Jn) (f : Int) (hf : J.first = f) (hb : 0 ≤ f ∧ f ≤ 1000000000000) (A Ax : Option Addr) (c cx : Nat) (es xs : List Bs) (hx : xs.map Bs.s = es.map Bs.s) (hl : xs.length ≤ 100000) :
  Spec Tryz.prog 36 [.slice Ax xs.length cx, .agg (rjc J A c es.length).toArray] [] [rd (.slice A es.length c) 1 es.length (es.map Bs.v), rowsC false es, rd (.slice Ax xs.length cx) 2 xs.length (entC f xs), rowsC false xs] (R := Unit) (fun _ => True) (fun _ => .bool true) (fun _ => []) := by
 subst hf
 have hle : xs.length = es.length := by have := congrArg List.length hx; rw [List.length_map, List.length_map] at this; exact this
 refine Spec.intro Tryz.func36 Tryz.ntmps36 rfl (by simp) (by simp) fun w0 => ?_
 refine W240 ?_
 refine wl1 (op_box (lt_ rfl) rfl rfl) rfl fun b1 => ?_
 refine W241 ?_
 refine W84 ?_
 refine W282 ?_
 refine wlv (op_len Tryz.underlying52 (lt_ rfl) rfl) rfl ?_
 refine wlv (op_fieldAddr fo41_6 (lt_ rfl) rfl) rfl ?_
 refine W65 ?_
 refine W40 ?_
 refine W24 ?_
 refine W2 ?_
 refine WX.regs (L' := [(0, _), (3, _), (11, _)]) ?_
 refine W0 ?_
 refine WC.cond rfl (fun h1 => ?_) (fun h1 => ?_)
 ·
  exfalso; omega
 ·
  refine W262 ?_
  refine W259 ?_
  refine W241 ?_
  refine WX.regs (L' := [(0, _), (3, _), (5, _)]) ?_
  refine W294 ?_
  refine WC.loop (X := Nat) (fun q => xs.length - q) (fun q => q ≤ xs.length) (fun q => [(0, .slice Ax xs.length cx), (3, .pointer (some ⟨b1, 0, none⟩)), (5, .int .i64 (q : Int))]) (fun q => [blk b1 (rjc J A c es.length) 41, rd (.slice A es.length c) 1 es.length (es.map Bs.v), rowsC false es, rd (.slice Ax xs.length cx) 2 xs.length (entC J.first xs), rowsC false xs, frameC w0 (MutF [])]) (0) (Nat.zero_le _) (fun a w hs => hs.sub xY xT) ?_
  rintro i hi
  try dsimp only
  refine W314 ?_
  refine wlv (op_len Tryz.underlying52 (lt_ rfl) rfl) rfl ?_
  refine W265 ?_
  refine WX.regs (L' := [(0, _), (3, _), (5, _), (15, _)]) ?_
  refine W0 ?_
  refine WC.cond rfl (fun h2 => ?_) (fun h2 => ?_)
  ·
   refine W270 ?_
   refine W301 ?_
   obtain ⟨z, hz⟩ : ∃ r, xs[i]? = some r := ⟨xs[i]'(by omega), List.getElem?_eq_getElem _⟩
   obtain ⟨y, hy⟩ : ∃ r, es[i]? = some r := ⟨es[i]'(by omega), List.getElem?_eq_getElem _⟩
   have hze := entC_at hz J.first
   have hzy : z.s = y.s := by have h1 := congrArg (fun l => l[i]?) hx; simpa [hz, hy] using h1
   refine W344 ?_
   refine WA.take (i := 2) rfl (by kernel_rfl) (fun _ _ _ h => h) rfl (op_index Tryz.underlying52 sz100 (lt_ rfl) rfl rfl (by omega) (by omega) (by decide) xS) xT ?_
   refine WA.take (i := 3) rfl (by kernel_rfl) (fun _ _ _ h => h) rfl (op_fieldAddrS fo100_0 (lt_ rfl) rfl xS (by rw [entC_length]; omega)) xT ?_
   refine WA.take (i := 4) rfl (by kernel_rfl) (fun _ _ _ h => h) rfl (op_loadS fl3 (lt_ rfl) rfl xS (by rw [show ((i : Int)).toNat * 2 + 0 = i * 2 + 0 by omega]; exact hze.1)) xT ?_
   refine WA.take (i := 5) rfl (by kernel_rfl) (fun _ _ _ h => h) rfl (op_fieldAddr fo41_5 (lt_ rfl) rfl) xT ?_
   refine W167 ?_
   refine W168 ?_
   refine WA.take (i := 8) rfl (by kernel_rfl) (fun _ _ _ h => h) rfl (op_add (lt_ rfl) rfl rfl (by omega)) xT ?_
   refine WA.take (i := 9) rfl (by kernel_rfl) (fun _ _ _ h => h) rfl (op_neq (lt_ rfl) rfl rfl) xT ?_
   refine W90 ?_
   refine WA.split (t := 28) rfl (fun g28 => ?_) (fun g28 => ?_)
   ·
    exact absurd rfl g28
   ·
    refine WA.takeG (i := 11) rfl (by kernel_rfl) (fun _ _ _ h => h) rfl rfl rfl (op_move (lt_ rfl) rfl) xT ?_
    refine WA.takeG (i := 12) rfl (by kernel_rfl) (fun _ _ _ h => h) rfl rfl rfl (op_move (lt_ rfl) rfl) xT ?_
    refine WA.takeG (i := 13) rfl (by kernel_rfl) (fun _ _ _ h => h) rfl rfl rfl (op_index Tryz.underlying52 sz100 (lt_ rfl) rfl rfl (by omega) (by omega) (by decide) xS) xT ?_
    refine WA.takeG (i := 14) rfl (by kernel_rfl) (fun _ _ _ h => h) rfl rfl rfl (op_fieldAddrS fo100_1 (lt_ rfl) rfl xS (by rw [entC_length]; omega)) xT ?_
    refine WA.takeG (i := 15) rfl (by kernel_rfl) (fun _ _ _ h => h) rfl rfl rfl (op_loadS fl30 (lt_ rfl) rfl xS (by rw [show ((i : Int)).toNat * 2 + 1 = i * 2 + 1 by omega]; exact hze.2)) xT ?_
    refine WA.takeG (i := 16) rfl (by kernel_rfl) (fun _ _ _ h => h) rfl rfl rfl (op_bytesStr Tryz.underlying30 Tryz.underlying5 Tryz.underlying9 (lt_ rfl) rfl ⟨rowsC false xs, xM, rowsC_get (r := z) (List.mem_of_getElem? hz)⟩) xT ?_
    refine WA.takeG (i := 17) rfl (by kernel_rfl) (fun _ _ _ h => h) rfl rfl rfl (op_fieldAddr fo41_6 (lt_ rfl) rfl) xT ?_
    refine WA.takeG (i := 18) rfl (by kernel_rfl) (fun _ _ _ h => h) rfl rfl rfl (op_load1 fl36 (lt_ rfl) rfl xM rfl) xT ?_
    refine WA.takeG (i := 19) rfl (by kernel_rfl) (fun _ _ _ h => h) rfl rfl rfl (op_move (lt_ rfl) rfl) xT ?_
    refine WA.takeG (i := 20) rfl (by kernel_rfl) (fun _ _ _ h => h) rfl rfl rfl (op_index Tryz.underlying36 sz30 (lt_ rfl) rfl rfl (by omega) (by omega) (by decide) xS) xT ?_
    refine WA.takeG (i := 21) rfl (by kernel_rfl) (fun _ _ _ h => h) rfl rfl rfl (op_loadS fl30 (lt_ rfl) rfl xS (rows_at' hy (by omega))) xT ?_
    refine WA.takeG (i := 22) rfl (by kernel_rfl) (fun _ _ _ h => h) rfl rfl rfl (op_bytesStr Tryz.underlying30 Tryz.underlying5 Tryz.underlying9 (lt_ rfl) rfl ⟨rowsC false es, xM, rowsC_get (r := y) (List.mem_of_getElem? hy)⟩) xT ?_
    refine WA.takeG (i := 23) rfl (by kernel_rfl) (fun _ _ _ h => h) rfl rfl rfl (op_neqs (lt_ rfl) rfl rfl) xT ?_
    refine WA.take (i := 24) rfl (by kernel_rfl) (fun _ _ _ h => h) rfl (op_pickF (lt_ rfl) rfl rfl) xT ?_
    refine W19 ?_
    refine WX.regs (L' := [(0, _), (3, _), (5, _), (42, _)]) ?_
    refine W0 ?_
    refine WC.cond rfl (fun h3 => ?_) (fun h3 => ?_)
    ·
     exact (h3 hzy).elim
    ·
     refine W291 ?_
     refine W0 ?_
     refine W329 ?_
     refine WX.regs (L' := [(0, _), (3, _), (5, _)]) ?_
     refine WX.meet (i + 1) ⟨by omega, by omega⟩ (fun a w hs => hs.sub xY xT)
  ·
   refine W284 ?_
   refine W241 ?_
   refine W322 ?_
   exact Fin.ret1 xI (()) (trivial) Tryz.results36 (.tmp rfl) xT (by simp)
end Go.Proofs.YtkjlbedebmffgaaGreat.Sx
namespace Go.Proofs.YtkjlbedebmffgaaGreat.Sx
open Go.RowKit Go.Proofs.YtkjlbedebmffgaaGreat.Ty
attribute [local irreducible] blk own rd rx frameC
structure Wo where
 p : JP
 bj : Nat
 r : Rd
 A : Option Addr
 c : Nat
 es : List Bs
set_option maxHeartbeats 400000 in
set_option maxRecDepth 10000 in
theorem f11_spec (bx bd bm : Nat) (A : Option Addr) (c : Nat) (D : Dk) (pj : Value) (r : Rd) (J0 : Jn) (A0 : Option Addr) (c0 m0 k : Nat) (hs : Same r D) (hd : D.down = false) (hl : D.lim = false) (hk : 8 ≤ k ∧ k ≤ 1000) (ha : (0 : Int) ≤ 3 ∧ (3 : Int) + k ≤ D.n) (hn : D.n ≤ 1000) (hp : D.pend.length ≤ 900000) (hw : r.ws.length ≤ 900000) :
  Spec Tryz.prog 11 [.pointer (some ⟨bx, 0, none⟩)] [blk bx (wcl bd pj r (rjc J0 A0 c0 m0) k) 43, blk bd (dcells D bm A c) 77, mapC bm (dmap D.dur), own (.slice A D.pend.length c) 80 257 D.pend.length (D.pend.flatMap wcs), own (.slice r.A r.ds.length r.c) 30 1 r.ds.length (r.ds.map Bs.v), rowsC true r.ds, own (.slice r.Aw r.ws.length r.cw) 84 2 r.ws.length (r.ws.flatMap Wb.cells), rowsC true (r.ws.map Wb.b)] [] (R := Sum Wo Unit) (fun x : Sum Wo Unit => match x with | .inl s => ∃ g f es0, pkM D 3 k 2 = some (g, f, es0) ∧ s.p.D = (changeM D (jn0 3 (k : Int) g f) f es0).1 ∧ s.p.J = (changeM D (jn0 3 (k : Int) g f) f es0).2.1 ∧ s.p.rs.map Bs.s = es0 ∧ s.es.map Bs.s = es0 ∧ Same s.r s.p.D ∧ s.r.ws = [] | .inr _ => ∃ e, Bad r.V 3 k e) (fun _ => .bool true) (fun x : Sum Wo Unit => match x with | .inl s => [blk bx (wcl bd (.pointer (some ⟨s.bj, 0, none⟩)) s.r (rjc s.p.J s.A s.c s.es.length) k) 43, blk bd (dcells s.p.D bm s.p.A s.p.c) 77, mapC bm (dmap s.p.D.dur), own (.slice s.p.A s.p.D.pend.length s.p.c) 80 257 s.p.D.pend.length (s.p.D.pend.flatMap wcs), blk s.bj (jcells s.p.J bd s.p.Aj s.p.rs.length s.p.cj) 96, own (.slice s.p.Aj s.p.rs.length s.p.cj) 30 1 s.p.rs.length (s.p.rs.map Bs.v), rowsC true s.p.rs, own (.slice s.r.A s.r.ds.length s.r.c) 30 1 s.r.ds.length (s.r.ds.map Bs.v), rowsC true s.r.ds, own (.slice s.r.Aw s.r.ws.length s.r.cw) 84 2 s.r.ws.length (s.r.ws.flatMap Wb.cells), rowsC true (s.r.ws.map Wb.b), own (.slice s.A s.es.length s.c) 30 1 s.es.length (s.es.map Bs.v), rowsC true s.es] | .inr _ => []) := by
 refine Spec.intro Tryz.func11 Tryz.ntmps11 rfl (by simp) (by simp) fun w0 => ?_
 refine W300 ?_
 refine W327 ?_
 refine WC.drawn (Hs := [blk bx (wcl bd pj r (rjc J0 A0 c0 m0) k) 43]) mo 999 ?_
 refine W29 ?_
 refine W69 ?_
 refine WA.take (i := 2) rfl (by kernel_rfl) (fun _ _ _ h => h) rfl (op_fieldAddr fo43_0 (lt_ rfl) rfl) xT ?_
 refine WA.take (i := 3) rfl (by kernel_rfl) (fun _ _ _ h => h) rfl (op_load1 fl34 (lt_ rfl) rfl xM rfl) xT ?_
 refine W51 ?_
 refine W102 ?_
 refine WA.take (i := 6) rfl (by kernel_rfl) (fun _ _ _ h => h) rfl (op_fieldAddr fo43_4 (lt_ rfl) rfl) xT ?_
 refine W171 ?_
 rcases open_or r.V 3 k with ⟨g, f, es0, o1, o2⟩ | ⟨e, hbad⟩
 ·
  obtain ⟨v1, v2, v3, v4, v5, v6, v7, v8, v9, v10, v11, v12, v13⟩ := open_vis hs hd hl hk ha o1 o2
  have hles := needs_le es0
  refine WA.stepx (i := 8) (by kernel_rfl) rfl rfl (op_call (f14_ok bd bm A c D 3 k g f es0 v1 v2 v3 v4 v5 (by omega) (by omega) v7) ca14 (lt_ rfl) rfl) (fun _ r => xT) ?_
  rintro ⟨⟨A9, c9⟩, bj, ⟨Aj, cj⟩, rs, ⟨Ax, cx⟩, xs⟩ ⟨hrs, hxs⟩
  dsimp only at hrs hxs ⊢
  have hxl : xs.length = es0.length := by have := congrArg List.length hxs; rw [List.length_map] at this; exact this
  refine W55 ?_
  refine W64 ?_
  refine W343 ?_
  refine W173 ?_
  refine WA.take (i := 14) rfl (by kernel_rfl) (fun _ _ _ h => h) rfl (op_assign (lt_ rfl) rfl) xT ?_
  refine WA.take (i := 15) rfl (by kernel_rfl) (fun _ _ _ h => h) rfl (op_assign (lt_ rfl) rfl) xT ?_
  refine W19 ?_
  refine WX.regs (L' := [(0, _), (3, _), (4, _), (5, _)]) ?_
  refine W327 ?_
  refine WC.drawn (Hs := [blk bx (wcl bd pj r (rjc J0 A0 c0 m0) k) 43]) mo 999 ?_
  refine W29 ?_
  refine W69 ?_
  refine W174 ?_
  refine W175 ?_
  refine W51 ?_
  refine W102 ?_
  refine WA.take (i := 6) rfl (by kernel_rfl) (fun _ _ _ h => h) rfl (op_fieldAddr fo43_4 (lt_ rfl) rfl) xT ?_
  refine W171 ?_
  refine WA.abs (fun W hW => ?_)
  have st111111111111111000 : ∀ (q : Rd) (Ar : Option Addr) (cr : Nat) (es : List Bs) (hes : es.map Bs.s = es0) (hq : q.Area r (3 + (nextF (1 - g % 2) (seenR r.V 3 k)) % 2 * ((k / 2 : Nat) : Int)) (areaS (nextF (1 - g % 2) (seenR r.V 3 k)) f es0)) (b6 : Nat) (b7 : Nat), W 3 #[true, true, true, true, true, true, true, true, true, true, true, true, true, true, true, false, false, false] ⟨73, []⟩ [(0, .pointer (some ⟨bx, 0, none⟩)), (3, .pointer (some ⟨bj, 0, none⟩)), (4, .slice Ax xs.length cx), (5, .int .i64 0), (6, .pointer (some ⟨b6, 0, none⟩)), (7, .pointer (some ⟨b7, 0, none⟩)), (32, .agg q.cells.toArray), (33, .agg (rjc (jrr 3 k (nextF (1 - g % 2) (seenR r.V 3 k)) f (1 + needs es0) es.length) Ar cr es.length).toArray), (34, .int .i64 0)] [blk b7 [.int .i64 0, .int .i64 0, .int .i64 0, .int .i64 0, .int .i64 0, .int .i64 0, .slice none 0 0, .int .i64 0, .int .i64 0] 41, blk b6 [.slice none 0 0, .slice none 0 0, .int .i64 0, .bool false, .int .i64 0] 39, own (.slice q.A q.ds.length q.c) 30 1 q.ds.length (q.ds.map Bs.v), rowsC true q.ds, own (.slice q.Aw q.ws.length q.cw) 84 2 q.ws.length (q.ws.flatMap Wb.cells), rowsC true (q.ws.map Wb.b), own (.slice Ar es.length cr) 30 1 es.length (es.map Bs.v), rowsC true es, blk bx (wcl bd pj r (rjc J0 A0 c0 m0) k) 43, blk bd (dcells (changeM D (jn0 3 (k : Int) g f) f es0).1 bm A9 c9) 77, mapC bm (dmap (changeM D (jn0 3 (k : Int) g f) f es0).1.dur), own (.slice A9 (changeM D (jn0 3 (k : Int) g f) f es0).1.pend.length c9) 80 257 (changeM D (jn0 3 (k : Int) g f) f es0).1.pend.length ((changeM D (jn0 3 (k : Int) g f) f es0).1.pend.flatMap wcs), blk bj (jcells (changeM D (jn0 3 (k : Int) g f) f es0).2.1 bd Aj rs.length cj) 96, own (.slice Aj rs.length cj) 30 1 rs.length (rs.map Bs.v), rowsC true rs, own (.slice Ax xs.length cx) 100 2 xs.length (entC f xs), rowsC true xs, frameC w0 (MutF [blk bx (wcl bd pj r (rjc J0 A0 c0 m0) k) 43, blk bd (dcells D bm A c) 77, mapC bm (dmap D.dur), own (.slice A D.pend.length c) 80 257 D.pend.length (D.pend.flatMap wcs), own (.slice r.A r.ds.length r.c) 30 1 r.ds.length (r.ds.map Bs.v), rowsC true r.ds, own (.slice r.Aw r.ws.length r.cw) 84 2 r.ws.length (r.ws.flatMap Wb.cells), rowsC true (r.ws.map Wb.b)])] := by
   intro q Ar cr es hes hq b6 b7
   subst hW
   refine W153 ?_
   refine W154 ?_
   refine W155 ?_
   refine W19 ?_
   have hel : es.length = es0.length := by have := congrArg List.length hes; rw [List.length_map] at this; exact this
   refine WX.blkEq (b := b6) q.cells xK (by rfl) ?_
   refine WX.blkEq (b := b7) (rjc (changeM D (jn0 3 (k : Int) g f) f es0).2.1 Ar cr es.length) xK (v13 Ar cr es.length hel) ?_
   refine W357 ?_
   refine WC.drawn (Hs := [blk b6 q.cells 39, blk b7 (rjc (changeM D (jn0 3 (k : Int) g f) f es0).2.1 Ar cr es.length) 41]) mo 999 ?_
   refine W344 ?_
   refine W60 ?_
   refine W77 ?_
   refine W201 ?_
   refine W202 ?_
   refine W140 ?_
   refine W203 ?_
   refine W204 ?_
   refine W172 ?_
   refine W205 ?_
   refine W206 ?_
   refine W170 ?_
   refine W207 ?_
   refine W208 ?_
   refine W19 ?_
   refine WX.blkEq (b := bx) (wcl bd (.pointer (some ⟨bj, 0, none⟩)) q (rjc (changeM D (jn0 3 (k : Int) g f) f es0).2.1 Ar cr es.length) k) xK (by rfl) ?_
   refine WX.regs (L' := [(3, _), (4, _), (5, _), (7, _), (8, _)]) ?_
   refine W269 ?_
   refine W244 ?_
   refine W24 ?_
   refine W361 ?_
   refine wlgv (op_eqlnil Tryz.underlying35 (lt_ rfl) rfl rfl) rfl rfl rfl ?_
   refine W13 ?_
   refine W44 ?_
   refine wlgv (op_neqb (lt_ rfl) rfl rfl Tryz.underlying4) rfl rfl rfl ?_
   refine W15 ?_
   refine W361 ?_
   refine W44 ?_
   refine W13 ?_
   refine W243 ?_
   refine W6 ?_
   refine W57 ?_
   refine W285 ?_
   refine WX.regs (L' := [(4, _), (7, _), (8, _), (65, _)]) ?_
   refine W281 ?_
   refine W249 ?_
   refine W256 ?_
   refine W361 ?_
   refine W346 ?_
   rintro _ _
   refine W15 ?_
   refine W260 ?_
   exact Fin.ret1 xI ((.inl ⟨⟨(changeM D (jn0 3 (k : Int) g f) f es0).1, A9, c9, (changeM D (jn0 3 (k : Int) g f) f es0).2.1, Aj, cj, rs⟩, bj, q, Ar, cr, es⟩)) (⟨g, f, es0, v2, rfl, rfl, hrs, hes, v11 q hq, hq.m⟩) Tryz.results11 (.tmp rfl) xT (by simp)
  have st111111111111110000 : ∀ (q : Rd) (Ar : Option Addr) (cr : Nat) (es : List Bs) (hes : es.map Bs.s = es0) (hq : q.Area r (3 + (nextF (1 - g % 2) (seenR r.V 3 k)) % 2 * ((k / 2 : Nat) : Int)) (areaS (nextF (1 - g % 2) (seenR r.V 3 k)) f es0)) (b6 : Nat), W 4 #[true, true, true, true, true, true, true, true, true, true, true, true, true, true, false, false, false, false] ⟨73, []⟩ [(0, .pointer (some ⟨bx, 0, none⟩)), (3, .pointer (some ⟨bj, 0, none⟩)), (4, .slice Ax xs.length cx), (5, .int .i64 0), (6, .pointer (some ⟨b6, 0, none⟩)), (32, .agg q.cells.toArray), (33, .agg (rjc (jrr 3 k (nextF (1 - g % 2) (seenR r.V 3 k)) f (1 + needs es0) es.length) Ar cr es.length).toArray), (34, .int .i64 0)] [blk b6 [.slice none 0 0, .slice none 0 0, .int .i64 0, .bool false, .int .i64 0] 39, own (.slice q.A q.ds.length q.c) 30 1 q.ds.length (q.ds.map Bs.v), rowsC true q.ds, own (.slice q.Aw q.ws.length q.cw) 84 2 q.ws.length (q.ws.flatMap Wb.cells), rowsC true (q.ws.map Wb.b), own (.slice Ar es.length cr) 30 1 es.length (es.map Bs.v), rowsC true es, blk bx (wcl bd pj r (rjc J0 A0 c0 m0) k) 43, blk bd (dcells (changeM D (jn0 3 (k : Int) g f) f es0).1 bm A9 c9) 77, mapC bm (dmap (changeM D (jn0 3 (k : Int) g f) f es0).1.dur), own (.slice A9 (changeM D (jn0 3 (k : Int) g f) f es0).1.pend.length c9) 80 257 (changeM D (jn0 3 (k : Int) g f) f es0).1.pend.length ((changeM D (jn0 3 (k : Int) g f) f es0).1.pend.flatMap wcs), blk bj (jcells (changeM D (jn0 3 (k : Int) g f) f es0).2.1 bd Aj rs.length cj) 96, own (.slice Aj rs.length cj) 30 1 rs.length (rs.map Bs.v), rowsC true rs, own (.slice Ax xs.length cx) 100 2 xs.length (entC f xs), rowsC true xs, frameC w0 (MutF [blk bx (wcl bd pj r (rjc J0 A0 c0 m0) k) 43, blk bd (dcells D bm A c) 77, mapC bm (dmap D.dur), own (.slice A D.pend.length c) 80 257 D.pend.length (D.pend.flatMap wcs), own (.slice r.A r.ds.length r.c) 30 1 r.ds.length (r.ds.map Bs.v), rowsC true r.ds, own (.slice r.Aw r.ws.length r.cw) 84 2 r.ws.length (r.ws.flatMap Wb.cells), rowsC true (r.ws.map Wb.b)])] := by
   intro q Ar cr es hes hq b6
   subst hW
   refine WA.pick (l := [14]) (by kernel_rfl) rfl (fun i hi => ?_)
   simp only [List.mem_cons, List.not_mem_nil, or_false] at hi
   subst hi
   ·
    refine WA.one1 rfl rfl (op_alloc ti41 (lt_ rfl)) (fun _ b => xT) fun b7 => ?_
    exact WA.conv (by first | rfl | kernel_rfl) xR xT (st111111111111111000 q Ar cr es hes hq b6 b7)
  have st111111111111101000 : ∀ (q : Rd) (Ar : Option Addr) (cr : Nat) (es : List Bs) (hes : es.map Bs.s = es0) (hq : q.Area r (3 + (nextF (1 - g % 2) (seenR r.V 3 k)) % 2 * ((k / 2 : Nat) : Int)) (areaS (nextF (1 - g % 2) (seenR r.V 3 k)) f es0)) (b7 : Nat), W 4 #[true, true, true, true, true, true, true, true, true, true, true, true, true, false, true, false, false, false] ⟨73, []⟩ [(0, .pointer (some ⟨bx, 0, none⟩)), (3, .pointer (some ⟨bj, 0, none⟩)), (4, .slice Ax xs.length cx), (5, .int .i64 0), (7, .pointer (some ⟨b7, 0, none⟩)), (32, .agg q.cells.toArray), (33, .agg (rjc (jrr 3 k (nextF (1 - g % 2) (seenR r.V 3 k)) f (1 + needs es0) es.length) Ar cr es.length).toArray), (34, .int .i64 0)] [blk b7 [.int .i64 0, .int .i64 0, .int .i64 0, .int .i64 0, .int .i64 0, .int .i64 0, .slice none 0 0, .int .i64 0, .int .i64 0] 41, own (.slice q.A q.ds.length q.c) 30 1 q.ds.length (q.ds.map Bs.v), rowsC true q.ds, own (.slice q.Aw q.ws.length q.cw) 84 2 q.ws.length (q.ws.flatMap Wb.cells), rowsC true (q.ws.map Wb.b), own (.slice Ar es.length cr) 30 1 es.length (es.map Bs.v), rowsC true es, blk bx (wcl bd pj r (rjc J0 A0 c0 m0) k) 43, blk bd (dcells (changeM D (jn0 3 (k : Int) g f) f es0).1 bm A9 c9) 77, mapC bm (dmap (changeM D (jn0 3 (k : Int) g f) f es0).1.dur), own (.slice A9 (changeM D (jn0 3 (k : Int) g f) f es0).1.pend.length c9) 80 257 (changeM D (jn0 3 (k : Int) g f) f es0).1.pend.length ((changeM D (jn0 3 (k : Int) g f) f es0).1.pend.flatMap wcs), blk bj (jcells (changeM D (jn0 3 (k : Int) g f) f es0).2.1 bd Aj rs.length cj) 96, own (.slice Aj rs.length cj) 30 1 rs.length (rs.map Bs.v), rowsC true rs, own (.slice Ax xs.length cx) 100 2 xs.length (entC f xs), rowsC true xs, frameC w0 (MutF [blk bx (wcl bd pj r (rjc J0 A0 c0 m0) k) 43, blk bd (dcells D bm A c) 77, mapC bm (dmap D.dur), own (.slice A D.pend.length c) 80 257 D.pend.length (D.pend.flatMap wcs), own (.slice r.A r.ds.length r.c) 30 1 r.ds.length (r.ds.map Bs.v), rowsC true r.ds, own (.slice r.Aw r.ws.length r.cw) 84 2 r.ws.length (r.ws.flatMap Wb.cells), rowsC true (r.ws.map Wb.b)])] := by
   intro q Ar cr es hes hq b7
   subst hW
   refine WA.pick (l := [13]) (by kernel_rfl) rfl (fun i hi => ?_)
   simp only [List.mem_cons, List.not_mem_nil, or_false] at hi
   subst hi
   ·
    refine WA.one1 rfl rfl (op_alloc ti39 (lt_ rfl)) (fun _ b => xT) fun b6 => ?_
    exact WA.conv (by first | rfl | kernel_rfl) xR xT (st111111111111111000 q Ar cr es hes hq b6 b7)
  have st111111111000000000 : ∀ (q : Rd) (Ar : Option Addr) (cr : Nat) (es : List Bs) (hes : es.map Bs.s = es0) (hq : q.Area r (3 + (nextF (1 - g % 2) (seenR r.V 3 k)) % 2 * ((k / 2 : Nat) : Int)) (areaS (nextF (1 - g % 2) (seenR r.V 3 k)) f es0)), W 9 #[true, true, true, true, true, true, true, true, true, false, false, false, false, false, false, false, false, false] ⟨73, []⟩ [(0, .pointer (some ⟨bx, 0, none⟩)), (3, .pointer (some ⟨bj, 0, none⟩)), (4, .slice Ax xs.length cx), (5, .int .i64 0), (31, .tuple #[.agg q.cells.toArray, .agg (rjc (jrr 3 k (nextF (1 - g % 2) (seenR r.V 3 k)) f (1 + needs es0) es.length) Ar cr es.length).toArray, .int .i64 0])] [own (.slice q.A q.ds.length q.c) 30 1 q.ds.length (q.ds.map Bs.v), rowsC true q.ds, own (.slice q.Aw q.ws.length q.cw) 84 2 q.ws.length (q.ws.flatMap Wb.cells), rowsC true (q.ws.map Wb.b), own (.slice Ar es.length cr) 30 1 es.length (es.map Bs.v), rowsC true es, blk bx (wcl bd pj r (rjc J0 A0 c0 m0) k) 43, blk bd (dcells (changeM D (jn0 3 (k : Int) g f) f es0).1 bm A9 c9) 77, mapC bm (dmap (changeM D (jn0 3 (k : Int) g f) f es0).1.dur), own (.slice A9 (changeM D (jn0 3 (k : Int) g f) f es0).1.pend.length c9) 80 257 (changeM D (jn0 3 (k : Int) g f) f es0).1.pend.length ((changeM D (jn0 3 (k : Int) g f) f es0).1.pend.flatMap wcs), blk bj (jcells (changeM D (jn0 3 (k : Int) g f) f es0).2.1 bd Aj rs.length cj) 96, own (.slice Aj rs.length cj) 30 1 rs.length (rs.map Bs.v), rowsC true rs, own (.slice Ax xs.length cx) 100 2 xs.length (entC f xs), rowsC true xs, frameC w0 (MutF [blk bx (wcl bd pj r (rjc J0 A0 c0 m0) k) 43, blk bd (dcells D bm A c) 77, mapC bm (dmap D.dur), own (.slice A D.pend.length c) 80 257 D.pend.length (D.pend.flatMap wcs), own (.slice r.A r.ds.length r.c) 30 1 r.ds.length (r.ds.map Bs.v), rowsC true r.ds, own (.slice r.Aw r.ws.length r.cw) 84 2 r.ws.length (r.ws.flatMap Wb.cells), rowsC true (r.ws.map Wb.b)])] := by
   intro q Ar cr es hes hq
   subst hW
   refine W55 ?_
   refine W64 ?_
   refine W343 ?_
   refine WA.pick (l := [13, 14]) (by kernel_rfl) rfl (fun i hi => ?_)
   simp only [List.mem_cons, List.not_mem_nil, or_false] at hi
   rcases hi with rfl | rfl
   ·
    refine WA.one1 rfl rfl (op_alloc ti39 (lt_ rfl)) (fun _ b => xT) fun b6 => ?_
    exact WA.conv (by first | rfl | kernel_rfl) xR xT (st111111111111110000 q Ar cr es hes hq b6)
   ·
    refine WA.one1 rfl rfl (op_alloc ti41 (lt_ rfl)) (fun _ b => xT) fun b7 => ?_
    exact WA.conv (by first | rfl | kernel_rfl) xR xT (st111111111111101000 q Ar cr es hes hq b7)
  have st111111111000010000 : ∀ (q : Rd) (Ar : Option Addr) (cr : Nat) (es : List Bs) (hes : es.map Bs.s = es0) (hq : q.Area r (3 + (nextF (1 - g % 2) (seenR r.V 3 k)) % 2 * ((k / 2 : Nat) : Int)) (areaS (nextF (1 - g % 2) (seenR r.V 3 k)) f es0)) (b6 : Nat), W 8 #[true, true, true, true, true, true, true, true, true, false, false, false, false, true, false, false, false, false] ⟨73, []⟩ [(0, .pointer (some ⟨bx, 0, none⟩)), (3, .pointer (some ⟨bj, 0, none⟩)), (4, .slice Ax xs.length cx), (5, .int .i64 0), (6, .pointer (some ⟨b6, 0, none⟩)), (31, .tuple #[.agg q.cells.toArray, .agg (rjc (jrr 3 k (nextF (1 - g % 2) (seenR r.V 3 k)) f (1 + needs es0) es.length) Ar cr es.length).toArray, .int .i64 0])] [blk b6 [.slice none 0 0, .slice none 0 0, .int .i64 0, .bool false, .int .i64 0] 39, own (.slice q.A q.ds.length q.c) 30 1 q.ds.length (q.ds.map Bs.v), rowsC true q.ds, own (.slice q.Aw q.ws.length q.cw) 84 2 q.ws.length (q.ws.flatMap Wb.cells), rowsC true (q.ws.map Wb.b), own (.slice Ar es.length cr) 30 1 es.length (es.map Bs.v), rowsC true es, blk bx (wcl bd pj r (rjc J0 A0 c0 m0) k) 43, blk bd (dcells (changeM D (jn0 3 (k : Int) g f) f es0).1 bm A9 c9) 77, mapC bm (dmap (changeM D (jn0 3 (k : Int) g f) f es0).1.dur), own (.slice A9 (changeM D (jn0 3 (k : Int) g f) f es0).1.pend.length c9) 80 257 (changeM D (jn0 3 (k : Int) g f) f es0).1.pend.length ((changeM D (jn0 3 (k : Int) g f) f es0).1.pend.flatMap wcs), blk bj (jcells (changeM D (jn0 3 (k : Int) g f) f es0).2.1 bd Aj rs.length cj) 96, own (.slice Aj rs.length cj) 30 1 rs.length (rs.map Bs.v), rowsC true rs, own (.slice Ax xs.length cx) 100 2 xs.length (entC f xs), rowsC true xs, frameC w0 (MutF [blk bx (wcl bd pj r (rjc J0 A0 c0 m0) k) 43, blk bd (dcells D bm A c) 77, mapC bm (dmap D.dur), own (.slice A D.pend.length c) 80 257 D.pend.length (D.pend.flatMap wcs), own (.slice r.A r.ds.length r.c) 30 1 r.ds.length (r.ds.map Bs.v), rowsC true r.ds, own (.slice r.Aw r.ws.length r.cw) 84 2 r.ws.length (r.ws.flatMap Wb.cells), rowsC true (r.ws.map Wb.b)])] := by
   intro q Ar cr es hes hq b6
   subst hW
   refine W55 ?_
   refine W64 ?_
   refine W343 ?_
   refine WA.pick (l := [14]) (by kernel_rfl) rfl (fun i hi => ?_)
   simp only [List.mem_cons, List.not_mem_nil, or_false] at hi
   subst hi
   ·
    refine WA.one1 rfl rfl (op_alloc ti41 (lt_ rfl)) (fun _ b => xT) fun b7 => ?_
    exact WA.conv (by first | rfl | kernel_rfl) xR xT (st111111111111111000 q Ar cr es hes hq b6 b7)
  have st111111111000011000 : ∀ (q : Rd) (Ar : Option Addr) (cr : Nat) (es : List Bs) (hes : es.map Bs.s = es0) (hq : q.Area r (3 + (nextF (1 - g % 2) (seenR r.V 3 k)) % 2 * ((k / 2 : Nat) : Int)) (areaS (nextF (1 - g % 2) (seenR r.V 3 k)) f es0)) (b6 : Nat) (b7 : Nat), W 7 #[true, true, true, true, true, true, true, true, true, false, false, false, false, true, true, false, false, false] ⟨73, []⟩ [(0, .pointer (some ⟨bx, 0, none⟩)), (3, .pointer (some ⟨bj, 0, none⟩)), (4, .slice Ax xs.length cx), (5, .int .i64 0), (6, .pointer (some ⟨b6, 0, none⟩)), (7, .pointer (some ⟨b7, 0, none⟩)), (31, .tuple #[.agg q.cells.toArray, .agg (rjc (jrr 3 k (nextF (1 - g % 2) (seenR r.V 3 k)) f (1 + needs es0) es.length) Ar cr es.length).toArray, .int .i64 0])] [blk b7 [.int .i64 0, .int .i64 0, .int .i64 0, .int .i64 0, .int .i64 0, .int .i64 0, .slice none 0 0, .int .i64 0, .int .i64 0] 41, blk b6 [.slice none 0 0, .slice none 0 0, .int .i64 0, .bool false, .int .i64 0] 39, own (.slice q.A q.ds.length q.c) 30 1 q.ds.length (q.ds.map Bs.v), rowsC true q.ds, own (.slice q.Aw q.ws.length q.cw) 84 2 q.ws.length (q.ws.flatMap Wb.cells), rowsC true (q.ws.map Wb.b), own (.slice Ar es.length cr) 30 1 es.length (es.map Bs.v), rowsC true es, blk bx (wcl bd pj r (rjc J0 A0 c0 m0) k) 43, blk bd (dcells (changeM D (jn0 3 (k : Int) g f) f es0).1 bm A9 c9) 77, mapC bm (dmap (changeM D (jn0 3 (k : Int) g f) f es0).1.dur), own (.slice A9 (changeM D (jn0 3 (k : Int) g f) f es0).1.pend.length c9) 80 257 (changeM D (jn0 3 (k : Int) g f) f es0).1.pend.length ((changeM D (jn0 3 (k : Int) g f) f es0).1.pend.flatMap wcs), blk bj (jcells (changeM D (jn0 3 (k : Int) g f) f es0).2.1 bd Aj rs.length cj) 96, own (.slice Aj rs.length cj) 30 1 rs.length (rs.map Bs.v), rowsC true rs, own (.slice Ax xs.length cx) 100 2 xs.length (entC f xs), rowsC true xs, frameC w0 (MutF [blk bx (wcl bd pj r (rjc J0 A0 c0 m0) k) 43, blk bd (dcells D bm A c) 77, mapC bm (dmap D.dur), own (.slice A D.pend.length c) 80 257 D.pend.length (D.pend.flatMap wcs), own (.slice r.A r.ds.length r.c) 30 1 r.ds.length (r.ds.map Bs.v), rowsC true r.ds, own (.slice r.Aw r.ws.length r.cw) 84 2 r.ws.length (r.ws.flatMap Wb.cells), rowsC true (r.ws.map Wb.b)])] := by
   intro q Ar cr es hes hq b6 b7
   subst hW
   refine W55 ?_
   refine W64 ?_
   refine W343 ?_
   refine W153 ?_
   refine W154 ?_
   refine W155 ?_
   refine W19 ?_
   have hel : es.length = es0.length := by have := congrArg List.length hes; rw [List.length_map] at this; exact this
   refine WX.blkEq (b := b6) q.cells xK (by rfl) ?_
   refine WX.blkEq (b := b7) (rjc (changeM D (jn0 3 (k : Int) g f) f es0).2.1 Ar cr es.length) xK (v13 Ar cr es.length hel) ?_
   refine W357 ?_
   refine WC.drawn (Hs := [blk b6 q.cells 39, blk b7 (rjc (changeM D (jn0 3 (k : Int) g f) f es0).2.1 Ar cr es.length) 41]) mo 999 ?_
   refine W344 ?_
   refine W60 ?_
   refine W77 ?_
   refine W201 ?_
   refine W202 ?_
   refine W140 ?_
   refine W203 ?_
   refine W204 ?_
   refine W172 ?_
   refine W205 ?_
   refine W206 ?_
   refine W170 ?_
   refine W207 ?_
   refine W208 ?_
   refine W19 ?_
   refine WX.blkEq (b := bx) (wcl bd (.pointer (some ⟨bj, 0, none⟩)) q (rjc (changeM D (jn0 3 (k : Int) g f) f es0).2.1 Ar cr es.length) k) xK (by rfl) ?_
   refine WX.regs (L' := [(3, _), (4, _), (5, _), (7, _), (8, _)]) ?_
   refine W269 ?_
   refine W244 ?_
   refine W24 ?_
   refine W361 ?_
   refine wlgv (op_eqlnil Tryz.underlying35 (lt_ rfl) rfl rfl) rfl rfl rfl ?_
   refine W13 ?_
   refine W44 ?_
   refine wlgv (op_neqb (lt_ rfl) rfl rfl Tryz.underlying4) rfl rfl rfl ?_
   refine W15 ?_
   refine W361 ?_
   refine W44 ?_
   refine W13 ?_
   refine W243 ?_
   refine W6 ?_
   refine W57 ?_
   refine W285 ?_
   refine WX.regs (L' := [(4, _), (7, _), (8, _), (65, _)]) ?_
   refine W281 ?_
   refine W249 ?_
   refine W256 ?_
   refine W361 ?_
   refine W346 ?_
   rintro _ _
   refine W15 ?_
   refine W260 ?_
   exact Fin.ret1 xI ((.inl ⟨⟨(changeM D (jn0 3 (k : Int) g f) f es0).1, A9, c9, (changeM D (jn0 3 (k : Int) g f) f es0).2.1, Aj, cj, rs⟩, bj, q, Ar, cr, es⟩)) (⟨g, f, es0, v2, rfl, rfl, hrs, hes, v11 q hq, hq.m⟩) Tryz.results11 (.tmp rfl) xT (by simp)
  have st111111110000011000 : ∀ (b6 : Nat) (b7 : Nat), W 8 #[true, true, true, true, true, true, true, true, false, false, false, false, false, true, true, false, false, false] ⟨73, []⟩ [(0, .pointer (some ⟨bx, 0, none⟩)), (3, .pointer (some ⟨bj, 0, none⟩)), (4, .slice Ax xs.length cx), (5, .int .i64 0), (6, .pointer (some ⟨b6, 0, none⟩)), (7, .pointer (some ⟨b7, 0, none⟩)), (26, .agg r.cells.toArray), (30, .int .i64 (k : Int))] [blk b7 [.int .i64 0, .int .i64 0, .int .i64 0, .int .i64 0, .int .i64 0, .int .i64 0, .slice none 0 0, .int .i64 0, .int .i64 0] 41, blk b6 [.slice none 0 0, .slice none 0 0, .int .i64 0, .bool false, .int .i64 0] 39, blk bx (wcl bd pj r (rjc J0 A0 c0 m0) k) 43, blk bd (dcells (changeM D (jn0 3 (k : Int) g f) f es0).1 bm A9 c9) 77, mapC bm (dmap (changeM D (jn0 3 (k : Int) g f) f es0).1.dur), own (.slice A9 (changeM D (jn0 3 (k : Int) g f) f es0).1.pend.length c9) 80 257 (changeM D (jn0 3 (k : Int) g f) f es0).1.pend.length ((changeM D (jn0 3 (k : Int) g f) f es0).1.pend.flatMap wcs), blk bj (jcells (changeM D (jn0 3 (k : Int) g f) f es0).2.1 bd Aj rs.length cj) 96, own (.slice Aj rs.length cj) 30 1 rs.length (rs.map Bs.v), rowsC true rs, own (.slice Ax xs.length cx) 100 2 xs.length (entC f xs), rowsC true xs, own (.slice r.A r.ds.length r.c) 30 1 r.ds.length (r.ds.map Bs.v), rowsC true r.ds, own (.slice r.Aw r.ws.length r.cw) 84 2 r.ws.length (r.ws.flatMap Wb.cells), rowsC true (r.ws.map Wb.b), frameC w0 (MutF [blk bx (wcl bd pj r (rjc J0 A0 c0 m0) k) 43, blk bd (dcells D bm A c) 77, mapC bm (dmap D.dur), own (.slice A D.pend.length c) 80 257 D.pend.length (D.pend.flatMap wcs), own (.slice r.A r.ds.length r.c) 30 1 r.ds.length (r.ds.map Bs.v), rowsC true r.ds, own (.slice r.Aw r.ws.length r.cw) 84 2 r.ws.length (r.ws.flatMap Wb.cells), rowsC true (r.ws.map Wb.b)])] := by
   intro b6 b7
   subst hW
   refine WA.pick (l := [8]) (by kernel_rfl) rfl (fun i hi => ?_)
   simp only [List.mem_cons, List.not_mem_nil, or_false] at hi
   subst hi
   ·
    refine W209 ?_
    rintro ⟨q, Ar, cr, es⟩ ⟨hes, hq⟩
    dsimp only at hes hq
    exact WA.conv (by first | rfl | kernel_rfl) xR xT (st111111111000011000 q Ar cr es hes hq b6 b7)
  have st111111110000010000 : ∀ (b6 : Nat), W 9 #[true, true, true, true, true, true, true, true, false, false, false, false, false, true, false, false, false, false] ⟨73, []⟩ [(0, .pointer (some ⟨bx, 0, none⟩)), (3, .pointer (some ⟨bj, 0, none⟩)), (4, .slice Ax xs.length cx), (5, .int .i64 0), (6, .pointer (some ⟨b6, 0, none⟩)), (26, .agg r.cells.toArray), (30, .int .i64 (k : Int))] [blk b6 [.slice none 0 0, .slice none 0 0, .int .i64 0, .bool false, .int .i64 0] 39, blk bx (wcl bd pj r (rjc J0 A0 c0 m0) k) 43, blk bd (dcells (changeM D (jn0 3 (k : Int) g f) f es0).1 bm A9 c9) 77, mapC bm (dmap (changeM D (jn0 3 (k : Int) g f) f es0).1.dur), own (.slice A9 (changeM D (jn0 3 (k : Int) g f) f es0).1.pend.length c9) 80 257 (changeM D (jn0 3 (k : Int) g f) f es0).1.pend.length ((changeM D (jn0 3 (k : Int) g f) f es0).1.pend.flatMap wcs), blk bj (jcells (changeM D (jn0 3 (k : Int) g f) f es0).2.1 bd Aj rs.length cj) 96, own (.slice Aj rs.length cj) 30 1 rs.length (rs.map Bs.v), rowsC true rs, own (.slice Ax xs.length cx) 100 2 xs.length (entC f xs), rowsC true xs, own (.slice r.A r.ds.length r.c) 30 1 r.ds.length (r.ds.map Bs.v), rowsC true r.ds, own (.slice r.Aw r.ws.length r.cw) 84 2 r.ws.length (r.ws.flatMap Wb.cells), rowsC true (r.ws.map Wb.b), frameC w0 (MutF [blk bx (wcl bd pj r (rjc J0 A0 c0 m0) k) 43, blk bd (dcells D bm A c) 77, mapC bm (dmap D.dur), own (.slice A D.pend.length c) 80 257 D.pend.length (D.pend.flatMap wcs), own (.slice r.A r.ds.length r.c) 30 1 r.ds.length (r.ds.map Bs.v), rowsC true r.ds, own (.slice r.Aw r.ws.length r.cw) 84 2 r.ws.length (r.ws.flatMap Wb.cells), rowsC true (r.ws.map Wb.b)])] := by
   intro b6
   subst hW
   refine WA.pick (l := [8, 14]) (by kernel_rfl) rfl (fun i hi => ?_)
   simp only [List.mem_cons, List.not_mem_nil, or_false] at hi
   rcases hi with rfl | rfl
   ·
    refine W209 ?_
    rintro ⟨q, Ar, cr, es⟩ ⟨hes, hq⟩
    dsimp only at hes hq
    exact WA.conv (by first | rfl | kernel_rfl) xR xT (st111111111000010000 q Ar cr es hes hq b6)
   ·
    refine WA.one1 rfl rfl (op_alloc ti41 (lt_ rfl)) (fun _ b => xT) fun b7 => ?_
    exact WA.conv (by first | rfl | kernel_rfl) xR xT (st111111110000011000 b6 b7)
  have st111111111000001000 : ∀ (q : Rd) (Ar : Option Addr) (cr : Nat) (es : List Bs) (hes : es.map Bs.s = es0) (hq : q.Area r (3 + (nextF (1 - g % 2) (seenR r.V 3 k)) % 2 * ((k / 2 : Nat) : Int)) (areaS (nextF (1 - g % 2) (seenR r.V 3 k)) f es0)) (b7 : Nat), W 8 #[true, true, true, true, true, true, true, true, true, false, false, false, false, false, true, false, false, false] ⟨73, []⟩ [(0, .pointer (some ⟨bx, 0, none⟩)), (3, .pointer (some ⟨bj, 0, none⟩)), (4, .slice Ax xs.length cx), (5, .int .i64 0), (7, .pointer (some ⟨b7, 0, none⟩)), (31, .tuple #[.agg q.cells.toArray, .agg (rjc (jrr 3 k (nextF (1 - g % 2) (seenR r.V 3 k)) f (1 + needs es0) es.length) Ar cr es.length).toArray, .int .i64 0])] [blk b7 [.int .i64 0, .int .i64 0, .int .i64 0, .int .i64 0, .int .i64 0, .int .i64 0, .slice none 0 0, .int .i64 0, .int .i64 0] 41, own (.slice q.A q.ds.length q.c) 30 1 q.ds.length (q.ds.map Bs.v), rowsC true q.ds, own (.slice q.Aw q.ws.length q.cw) 84 2 q.ws.length (q.ws.flatMap Wb.cells), rowsC true (q.ws.map Wb.b), own (.slice Ar es.length cr) 30 1 es.length (es.map Bs.v), rowsC true es, blk bx (wcl bd pj r (rjc J0 A0 c0 m0) k) 43, blk bd (dcells (changeM D (jn0 3 (k : Int) g f) f es0).1 bm A9 c9) 77, mapC bm (dmap (changeM D (jn0 3 (k : Int) g f) f es0).1.dur), own (.slice A9 (changeM D (jn0 3 (k : Int) g f) f es0).1.pend.length c9) 80 257 (changeM D (jn0 3 (k : Int) g f) f es0).1.pend.length ((changeM D (jn0 3 (k : Int) g f) f es0).1.pend.flatMap wcs), blk bj (jcells (changeM D (jn0 3 (k : Int) g f) f es0).2.1 bd Aj rs.length cj) 96, own (.slice Aj rs.length cj) 30 1 rs.length (rs.map Bs.v), rowsC true rs, own (.slice Ax xs.length cx) 100 2 xs.length (entC f xs), rowsC true xs, frameC w0 (MutF [blk bx (wcl bd pj r (rjc J0 A0 c0 m0) k) 43, blk bd (dcells D bm A c) 77, mapC bm (dmap D.dur), own (.slice A D.pend.length c) 80 257 D.pend.length (D.pend.flatMap wcs), own (.slice r.A r.ds.length r.c) 30 1 r.ds.length (r.ds.map Bs.v), rowsC true r.ds, own (.slice r.Aw r.ws.length r.cw) 84 2 r.ws.length (r.ws.flatMap Wb.cells), rowsC true (r.ws.map Wb.b)])] := by
   intro q Ar cr es hes hq b7
   subst hW
   refine W55 ?_
   refine W64 ?_
   refine W343 ?_
   refine WA.pick (l := [13]) (by kernel_rfl) rfl (fun i hi => ?_)
   simp only [List.mem_cons, List.not_mem_nil, or_false] at hi
   subst hi
   ·
    refine WA.one1 rfl rfl (op_alloc ti39 (lt_ rfl)) (fun _ b => xT) fun b6 => ?_
    exact WA.conv (by first | rfl | kernel_rfl) xR xT (st111111111111111000 q Ar cr es hes hq b6 b7)
  have st111111110000001000 : ∀ (b7 : Nat), W 9 #[true, true, true, true, true, true, true, true, false, false, false, false, false, false, true, false, false, false] ⟨73, []⟩ [(0, .pointer (some ⟨bx, 0, none⟩)), (3, .pointer (some ⟨bj, 0, none⟩)), (4, .slice Ax xs.length cx), (5, .int .i64 0), (7, .pointer (some ⟨b7, 0, none⟩)), (26, .agg r.cells.toArray), (30, .int .i64 (k : Int))] [blk b7 [.int .i64 0, .int .i64 0, .int .i64 0, .int .i64 0, .int .i64 0, .int .i64 0, .slice none 0 0, .int .i64 0, .int .i64 0] 41, blk bx (wcl bd pj r (rjc J0 A0 c0 m0) k) 43, blk bd (dcells (changeM D (jn0 3 (k : Int) g f) f es0).1 bm A9 c9) 77, mapC bm (dmap (changeM D (jn0 3 (k : Int) g f) f es0).1.dur), own (.slice A9 (changeM D (jn0 3 (k : Int) g f) f es0).1.pend.length c9) 80 257 (changeM D (jn0 3 (k : Int) g f) f es0).1.pend.length ((changeM D (jn0 3 (k : Int) g f) f es0).1.pend.flatMap wcs), blk bj (jcells (changeM D (jn0 3 (k : Int) g f) f es0).2.1 bd Aj rs.length cj) 96, own (.slice Aj rs.length cj) 30 1 rs.length (rs.map Bs.v), rowsC true rs, own (.slice Ax xs.length cx) 100 2 xs.length (entC f xs), rowsC true xs, own (.slice r.A r.ds.length r.c) 30 1 r.ds.length (r.ds.map Bs.v), rowsC true r.ds, own (.slice r.Aw r.ws.length r.cw) 84 2 r.ws.length (r.ws.flatMap Wb.cells), rowsC true (r.ws.map Wb.b), frameC w0 (MutF [blk bx (wcl bd pj r (rjc J0 A0 c0 m0) k) 43, blk bd (dcells D bm A c) 77, mapC bm (dmap D.dur), own (.slice A D.pend.length c) 80 257 D.pend.length (D.pend.flatMap wcs), own (.slice r.A r.ds.length r.c) 30 1 r.ds.length (r.ds.map Bs.v), rowsC true r.ds, own (.slice r.Aw r.ws.length r.cw) 84 2 r.ws.length (r.ws.flatMap Wb.cells), rowsC true (r.ws.map Wb.b)])] := by
   intro b7
   subst hW
   refine WA.pick (l := [8, 13]) (by kernel_rfl) rfl (fun i hi => ?_)
   simp only [List.mem_cons, List.not_mem_nil, or_false] at hi
   rcases hi with rfl | rfl
   ·
    refine W209 ?_
    rintro ⟨q, Ar, cr, es⟩ ⟨hes, hq⟩
    dsimp only at hes hq
    exact WA.conv (by first | rfl | kernel_rfl) xR xT (st111111111000001000 q Ar cr es hes hq b7)
   ·
    refine WA.one1 rfl rfl (op_alloc ti39 (lt_ rfl)) (fun _ b => xT) fun b6 => ?_
    exact WA.conv (by first | rfl | kernel_rfl) xR xT (st111111110000011000 b6 b7)
  subst hW
  refine WA.pick (l := [8, 13, 14]) (by kernel_rfl) rfl (fun i hi => ?_)
  simp only [List.mem_cons, List.not_mem_nil, or_false] at hi
  rcases hi with rfl | rfl | rfl
  ·
   refine W209 ?_
   rintro ⟨q, Ar, cr, es⟩ ⟨hes, hq⟩
   dsimp only at hes hq
   exact WA.conv (by first | rfl | kernel_rfl) xR xT (st111111111000000000 q Ar cr es hes hq)
  ·
   refine WA.one1 rfl rfl (op_alloc ti39 (lt_ rfl)) (fun _ b => xT) fun b6 => ?_
   exact WA.conv (by first | rfl | kernel_rfl) xR xT (st111111110000010000 b6)
  ·
   refine WA.one1 rfl rfl (op_alloc ti41 (lt_ rfl)) (fun _ b => xT) fun b7 => ?_
   exact WA.conv (by first | rfl | kernel_rfl) xR xT (st111111110000001000 b7)
 ·
  have he0 := hbad.ne
  refine WA.stepx (i := 8) (by kernel_rfl) rfl rfl (op_call (f14_bad bd bm A c D 3 k hs hk ha hd hn (by omega) e hbad) ca14 (lt_ rfl) rfl) (fun _ r => xT) ?_
  rintro ⟨A9, c9⟩ _
  refine W55 ?_
  refine W64 ?_
  refine W343 ?_
  refine W173 ?_
  refine WA.take (i := 14) rfl (by kernel_rfl) (fun _ _ _ h => h) rfl (op_assign (lt_ rfl) rfl) xT ?_
  refine WA.take (i := 15) rfl (by kernel_rfl) (fun _ _ _ h => h) rfl (op_assign (lt_ rfl) rfl) xT ?_
  refine W19 ?_
  refine WX.regs (L' := [(0, _), (3, _), (4, _), (5, _)]) ?_
  refine W327 ?_
  refine WC.drawn (Hs := [blk bx (wcl bd pj r (rjc J0 A0 c0 m0) k) 43]) mo 999 ?_
  refine W29 ?_
  refine W69 ?_
  refine W174 ?_
  refine W175 ?_
  refine W51 ?_
  refine W102 ?_
  refine WA.take (i := 6) rfl (by kernel_rfl) (fun _ _ _ h => h) rfl (op_fieldAddr fo43_4 (lt_ rfl) rfl) xT ?_
  refine W171 ?_
  refine WA.abs (fun W hW => ?_)
  have st111111111111111000 : ∀ (b6 : Nat) (b7 : Nat), W 3 #[true, true, true, true, true, true, true, true, true, true, true, true, true, true, true, false, false, false] ⟨73, []⟩ [(0, .pointer (some ⟨bx, 0, none⟩)), (3, .pointer none), (4, .slice none 0 0), (5, .int .i64 e), (6, .pointer (some ⟨b6, 0, none⟩)), (7, .pointer (some ⟨b7, 0, none⟩)), (32, .agg r.cells.toArray), (33, .agg #[.int .i64 0, .int .i64 0, .int .i64 0, .int .i64 0, .int .i64 0, .int .i64 0, .slice none 0 0, .int .i64 0, .int .i64 0]), (34, .int .i64 e)] [blk b7 [.int .i64 0, .int .i64 0, .int .i64 0, .int .i64 0, .int .i64 0, .int .i64 0, .slice none 0 0, .int .i64 0, .int .i64 0] 41, blk b6 [.slice none 0 0, .slice none 0 0, .int .i64 0, .bool false, .int .i64 0] 39, blk bx (wcl bd pj r (rjc J0 A0 c0 m0) k) 43, blk bd (dcells D bm A9 c9) 77, mapC bm (dmap D.dur), own (.slice A9 D.pend.length c9) 80 257 D.pend.length (D.pend.flatMap wcs), frameC w0 (MutF [blk bx (wcl bd pj r (rjc J0 A0 c0 m0) k) 43, blk bd (dcells D bm A c) 77, mapC bm (dmap D.dur), own (.slice A D.pend.length c) 80 257 D.pend.length (D.pend.flatMap wcs), own (.slice r.A r.ds.length r.c) 30 1 r.ds.length (r.ds.map Bs.v), rowsC true r.ds, own (.slice r.Aw r.ws.length r.cw) 84 2 r.ws.length (r.ws.flatMap Wb.cells), rowsC true (r.ws.map Wb.b)])] := by
   intro b6 b7
   subst hW
   refine W153 ?_
   refine W154 ?_
   refine W155 ?_
   refine W19 ?_
   refine WX.blkEq (b := b6) r.cells xK (by rfl) ?_
   refine WX.blkEq (b := b7) [.int .i64 0, .int .i64 0, .int .i64 0, .int .i64 0, .int .i64 0, .int .i64 0, .slice none 0 0, .int .i64 0, .int .i64 0] xK (by rfl) ?_
   refine W357 ?_
   refine WC.drawn (Hs := [blk b6 r.cells 39, blk b7 [.int .i64 0, .int .i64 0, .int .i64 0, .int .i64 0, .int .i64 0, .int .i64 0, .slice none 0 0, .int .i64 0, .int .i64 0] 41]) mo 999 ?_
   refine W344 ?_
   refine W60 ?_
   refine W77 ?_
   refine W201 ?_
   refine W202 ?_
   refine W140 ?_
   refine W203 ?_
   refine W204 ?_
   refine W172 ?_
   refine W205 ?_
   refine W206 ?_
   refine W170 ?_
   refine W207 ?_
   refine W208 ?_
   refine W19 ?_
   refine WX.regs (L' := [(3, _), (4, _), (5, _), (7, _), (8, _)]) ?_
   refine W269 ?_
   refine W244 ?_
   refine W24 ?_
   rw [show decide (¬ e = e) = false from decide_eq_false (fun k => k rfl)]
   refine W361 ?_
   refine wlgv (op_eqlnil0 Tryz.underlying35 (lt_ rfl) rfl rfl) rfl rfl rfl ?_
   refine W13 ?_
   refine W44 ?_
   rw [show decide (¬ e = 0) = true from decide_eq_true he0]
   refine wlgv (op_neqb (lt_ rfl) rfl rfl Tryz.underlying4) rfl rfl rfl ?_
   refine W15 ?_
   refine W361 ?_
   refine W44 ?_
   rw [show decide (¬ e = 0) = true from decide_eq_true he0]
   refine W345 ?_
   refine wlgv (op_len Tryz.underlying52 (lt_ rfl) rfl) rfl rfl rfl ?_
   refine W44 ?_
   refine W68 ?_
   refine W285 ?_
   refine WX.regs (L' := [(4, _), (7, _), (8, _), (65, _)]) ?_
   refine W281 ?_
   refine W249 ?_
   refine W256 ?_
   rw [show decide (¬ e = 0) = true from decide_eq_true he0]
   refine W4 ?_
   refine W302 ?_
   refine W260 ?_
   exact Fin.ret1 xI ((.inr ())) (⟨e, hbad⟩) Tryz.results11 (.tmp rfl) xT (by simp)
  have st111111111111110000 : ∀ (b6 : Nat), W 4 #[true, true, true, true, true, true, true, true, true, true, true, true, true, true, false, false, false, false] ⟨73, []⟩ [(0, .pointer (some ⟨bx, 0, none⟩)), (3, .pointer none), (4, .slice none 0 0), (5, .int .i64 e), (6, .pointer (some ⟨b6, 0, none⟩)), (32, .agg r.cells.toArray), (33, .agg #[.int .i64 0, .int .i64 0, .int .i64 0, .int .i64 0, .int .i64 0, .int .i64 0, .slice none 0 0, .int .i64 0, .int .i64 0]), (34, .int .i64 e)] [blk b6 [.slice none 0 0, .slice none 0 0, .int .i64 0, .bool false, .int .i64 0] 39, blk bx (wcl bd pj r (rjc J0 A0 c0 m0) k) 43, blk bd (dcells D bm A9 c9) 77, mapC bm (dmap D.dur), own (.slice A9 D.pend.length c9) 80 257 D.pend.length (D.pend.flatMap wcs), frameC w0 (MutF [blk bx (wcl bd pj r (rjc J0 A0 c0 m0) k) 43, blk bd (dcells D bm A c) 77, mapC bm (dmap D.dur), own (.slice A D.pend.length c) 80 257 D.pend.length (D.pend.flatMap wcs), own (.slice r.A r.ds.length r.c) 30 1 r.ds.length (r.ds.map Bs.v), rowsC true r.ds, own (.slice r.Aw r.ws.length r.cw) 84 2 r.ws.length (r.ws.flatMap Wb.cells), rowsC true (r.ws.map Wb.b)])] := by
   intro b6
   subst hW
   refine WA.pick (l := [14]) (by kernel_rfl) rfl (fun i hi => ?_)
   simp only [List.mem_cons, List.not_mem_nil, or_false] at hi
   subst hi
   ·
    refine WA.one1 rfl rfl (op_alloc ti41 (lt_ rfl)) (fun _ b => xT) fun b7 => ?_
    exact WA.conv (by first | rfl | kernel_rfl) xR xT (st111111111111111000 b6 b7)
  have st111111111111101000 : ∀ (b7 : Nat), W 4 #[true, true, true, true, true, true, true, true, true, true, true, true, true, false, true, false, false, false] ⟨73, []⟩ [(0, .pointer (some ⟨bx, 0, none⟩)), (3, .pointer none), (4, .slice none 0 0), (5, .int .i64 e), (7, .pointer (some ⟨b7, 0, none⟩)), (32, .agg r.cells.toArray), (33, .agg #[.int .i64 0, .int .i64 0, .int .i64 0, .int .i64 0, .int .i64 0, .int .i64 0, .slice none 0 0, .int .i64 0, .int .i64 0]), (34, .int .i64 e)] [blk b7 [.int .i64 0, .int .i64 0, .int .i64 0, .int .i64 0, .int .i64 0, .int .i64 0, .slice none 0 0, .int .i64 0, .int .i64 0] 41, blk bx (wcl bd pj r (rjc J0 A0 c0 m0) k) 43, blk bd (dcells D bm A9 c9) 77, mapC bm (dmap D.dur), own (.slice A9 D.pend.length c9) 80 257 D.pend.length (D.pend.flatMap wcs), frameC w0 (MutF [blk bx (wcl bd pj r (rjc J0 A0 c0 m0) k) 43, blk bd (dcells D bm A c) 77, mapC bm (dmap D.dur), own (.slice A D.pend.length c) 80 257 D.pend.length (D.pend.flatMap wcs), own (.slice r.A r.ds.length r.c) 30 1 r.ds.length (r.ds.map Bs.v), rowsC true r.ds, own (.slice r.Aw r.ws.length r.cw) 84 2 r.ws.length (r.ws.flatMap Wb.cells), rowsC true (r.ws.map Wb.b)])] := by
   intro b7
   subst hW
   refine WA.pick (l := [13]) (by kernel_rfl) rfl (fun i hi => ?_)
   simp only [List.mem_cons, List.not_mem_nil, or_false] at hi
   subst hi
   ·
    refine WA.one1 rfl rfl (op_alloc ti39 (lt_ rfl)) (fun _ b => xT) fun b6 => ?_
    exact WA.conv (by first | rfl | kernel_rfl) xR xT (st111111111111111000 b6 b7)
  have st111111111000000000 : ∀ (_u : Unit), W 9 #[true, true, true, true, true, true, true, true, true, false, false, false, false, false, false, false, false, false] ⟨73, []⟩ [(0, .pointer (some ⟨bx, 0, none⟩)), (3, .pointer none), (4, .slice none 0 0), (5, .int .i64 e), (31, .tuple #[.agg r.cells.toArray, .agg #[.int .i64 0, .int .i64 0, .int .i64 0, .int .i64 0, .int .i64 0, .int .i64 0, .slice none 0 0, .int .i64 0, .int .i64 0], .int .i64 e])] [blk bx (wcl bd pj r (rjc J0 A0 c0 m0) k) 43, blk bd (dcells D bm A9 c9) 77, mapC bm (dmap D.dur), own (.slice A9 D.pend.length c9) 80 257 D.pend.length (D.pend.flatMap wcs), frameC w0 (MutF [blk bx (wcl bd pj r (rjc J0 A0 c0 m0) k) 43, blk bd (dcells D bm A c) 77, mapC bm (dmap D.dur), own (.slice A D.pend.length c) 80 257 D.pend.length (D.pend.flatMap wcs), own (.slice r.A r.ds.length r.c) 30 1 r.ds.length (r.ds.map Bs.v), rowsC true r.ds, own (.slice r.Aw r.ws.length r.cw) 84 2 r.ws.length (r.ws.flatMap Wb.cells), rowsC true (r.ws.map Wb.b)])] := by
   intro _u
   subst hW
   refine W55 ?_
   refine W64 ?_
   refine W343 ?_
   refine WA.pick (l := [13, 14]) (by kernel_rfl) rfl (fun i hi => ?_)
   simp only [List.mem_cons, List.not_mem_nil, or_false] at hi
   rcases hi with rfl | rfl
   ·
    refine WA.one1 rfl rfl (op_alloc ti39 (lt_ rfl)) (fun _ b => xT) fun b6 => ?_
    exact WA.conv (by first | rfl | kernel_rfl) xR xT (st111111111111110000 b6)
   ·
    refine WA.one1 rfl rfl (op_alloc ti41 (lt_ rfl)) (fun _ b => xT) fun b7 => ?_
    exact WA.conv (by first | rfl | kernel_rfl) xR xT (st111111111111101000 b7)
  have st111111111000010000 : ∀ (b6 : Nat), W 8 #[true, true, true, true, true, true, true, true, true, false, false, false, false, true, false, false, false, false] ⟨73, []⟩ [(0, .pointer (some ⟨bx, 0, none⟩)), (3, .pointer none), (4, .slice none 0 0), (5, .int .i64 e), (6, .pointer (some ⟨b6, 0, none⟩)), (31, .tuple #[.agg r.cells.toArray, .agg #[.int .i64 0, .int .i64 0, .int .i64 0, .int .i64 0, .int .i64 0, .int .i64 0, .slice none 0 0, .int .i64 0, .int .i64 0], .int .i64 e])] [blk b6 [.slice none 0 0, .slice none 0 0, .int .i64 0, .bool false, .int .i64 0] 39, blk bx (wcl bd pj r (rjc J0 A0 c0 m0) k) 43, blk bd (dcells D bm A9 c9) 77, mapC bm (dmap D.dur), own (.slice A9 D.pend.length c9) 80 257 D.pend.length (D.pend.flatMap wcs), frameC w0 (MutF [blk bx (wcl bd pj r (rjc J0 A0 c0 m0) k) 43, blk bd (dcells D bm A c) 77, mapC bm (dmap D.dur), own (.slice A D.pend.length c) 80 257 D.pend.length (D.pend.flatMap wcs), own (.slice r.A r.ds.length r.c) 30 1 r.ds.length (r.ds.map Bs.v), rowsC true r.ds, own (.slice r.Aw r.ws.length r.cw) 84 2 r.ws.length (r.ws.flatMap Wb.cells), rowsC true (r.ws.map Wb.b)])] := by
   intro b6
   subst hW
   refine W55 ?_
   refine W64 ?_
   refine W343 ?_
   refine WA.pick (l := [14]) (by kernel_rfl) rfl (fun i hi => ?_)
   simp only [List.mem_cons, List.not_mem_nil, or_false] at hi
   subst hi
   ·
    refine WA.one1 rfl rfl (op_alloc ti41 (lt_ rfl)) (fun _ b => xT) fun b7 => ?_
    exact WA.conv (by first | rfl | kernel_rfl) xR xT (st111111111111111000 b6 b7)
  have st111111111000011000 : ∀ (b6 : Nat) (b7 : Nat), W 7 #[true, true, true, true, true, true, true, true, true, false, false, false, false, true, true, false, false, false] ⟨73, []⟩ [(0, .pointer (some ⟨bx, 0, none⟩)), (3, .pointer none), (4, .slice none 0 0), (5, .int .i64 e), (6, .pointer (some ⟨b6, 0, none⟩)), (7, .pointer (some ⟨b7, 0, none⟩)), (31, .tuple #[.agg r.cells.toArray, .agg #[.int .i64 0, .int .i64 0, .int .i64 0, .int .i64 0, .int .i64 0, .int .i64 0, .slice none 0 0, .int .i64 0, .int .i64 0], .int .i64 e])] [blk b7 [.int .i64 0, .int .i64 0, .int .i64 0, .int .i64 0, .int .i64 0, .int .i64 0, .slice none 0 0, .int .i64 0, .int .i64 0] 41, blk b6 [.slice none 0 0, .slice none 0 0, .int .i64 0, .bool false, .int .i64 0] 39, blk bx (wcl bd pj r (rjc J0 A0 c0 m0) k) 43, blk bd (dcells D bm A9 c9) 77, mapC bm (dmap D.dur), own (.slice A9 D.pend.length c9) 80 257 D.pend.length (D.pend.flatMap wcs), frameC w0 (MutF [blk bx (wcl bd pj r (rjc J0 A0 c0 m0) k) 43, blk bd (dcells D bm A c) 77, mapC bm (dmap D.dur), own (.slice A D.pend.length c) 80 257 D.pend.length (D.pend.flatMap wcs), own (.slice r.A r.ds.length r.c) 30 1 r.ds.length (r.ds.map Bs.v), rowsC true r.ds, own (.slice r.Aw r.ws.length r.cw) 84 2 r.ws.length (r.ws.flatMap Wb.cells), rowsC true (r.ws.map Wb.b)])] := by
   intro b6 b7
   subst hW
   refine W55 ?_
   refine W64 ?_
   refine W343 ?_
   refine W153 ?_
   refine W154 ?_
   refine W155 ?_
   refine W19 ?_
   refine WX.blkEq (b := b6) r.cells xK (by rfl) ?_
   refine WX.blkEq (b := b7) [.int .i64 0, .int .i64 0, .int .i64 0, .int .i64 0, .int .i64 0, .int .i64 0, .slice none 0 0, .int .i64 0, .int .i64 0] xK (by rfl) ?_
   refine W357 ?_
   refine WC.drawn (Hs := [blk b6 r.cells 39, blk b7 [.int .i64 0, .int .i64 0, .int .i64 0, .int .i64 0, .int .i64 0, .int .i64 0, .slice none 0 0, .int .i64 0, .int .i64 0] 41]) mo 999 ?_
   refine W344 ?_
   refine W60 ?_
   refine W77 ?_
   refine W201 ?_
   refine W202 ?_
   refine W140 ?_
   refine W203 ?_
   refine W204 ?_
   refine W172 ?_
   refine W205 ?_
   refine W206 ?_
   refine W170 ?_
   refine W207 ?_
   refine W208 ?_
   refine W19 ?_
   refine WX.regs (L' := [(3, _), (4, _), (5, _), (7, _), (8, _)]) ?_
   refine W269 ?_
   refine W244 ?_
   refine W24 ?_
   rw [show decide (¬ e = e) = false from decide_eq_false (fun k => k rfl)]
   refine W361 ?_
   refine wlgv (op_eqlnil0 Tryz.underlying35 (lt_ rfl) rfl rfl) rfl rfl rfl ?_
   refine W13 ?_
   refine W44 ?_
   rw [show decide (¬ e = 0) = true from decide_eq_true he0]
   refine wlgv (op_neqb (lt_ rfl) rfl rfl Tryz.underlying4) rfl rfl rfl ?_
   refine W15 ?_
   refine W361 ?_
   refine W44 ?_
   rw [show decide (¬ e = 0) = true from decide_eq_true he0]
   refine W345 ?_
   refine wlgv (op_len Tryz.underlying52 (lt_ rfl) rfl) rfl rfl rfl ?_
   refine W44 ?_
   refine W68 ?_
   refine W285 ?_
   refine WX.regs (L' := [(4, _), (7, _), (8, _), (65, _)]) ?_
   refine W281 ?_
   refine W249 ?_
   refine W256 ?_
   rw [show decide (¬ e = 0) = true from decide_eq_true he0]
   refine W4 ?_
   refine W302 ?_
   refine W260 ?_
   exact Fin.ret1 xI ((.inr ())) (⟨e, hbad⟩) Tryz.results11 (.tmp rfl) xT (by simp)
  have st111111110000011000 : ∀ (b6 : Nat) (b7 : Nat), W 8 #[true, true, true, true, true, true, true, true, false, false, false, false, false, true, true, false, false, false] ⟨73, []⟩ [(0, .pointer (some ⟨bx, 0, none⟩)), (3, .pointer none), (4, .slice none 0 0), (5, .int .i64 e), (6, .pointer (some ⟨b6, 0, none⟩)), (7, .pointer (some ⟨b7, 0, none⟩)), (26, .agg r.cells.toArray), (30, .int .i64 (k : Int))] [blk b7 [.int .i64 0, .int .i64 0, .int .i64 0, .int .i64 0, .int .i64 0, .int .i64 0, .slice none 0 0, .int .i64 0, .int .i64 0] 41, blk b6 [.slice none 0 0, .slice none 0 0, .int .i64 0, .bool false, .int .i64 0] 39, blk bx (wcl bd pj r (rjc J0 A0 c0 m0) k) 43, blk bd (dcells D bm A9 c9) 77, mapC bm (dmap D.dur), own (.slice A9 D.pend.length c9) 80 257 D.pend.length (D.pend.flatMap wcs), own (.slice r.A r.ds.length r.c) 30 1 r.ds.length (r.ds.map Bs.v), rowsC true r.ds, own (.slice r.Aw r.ws.length r.cw) 84 2 r.ws.length (r.ws.flatMap Wb.cells), rowsC true (r.ws.map Wb.b), frameC w0 (MutF [blk bx (wcl bd pj r (rjc J0 A0 c0 m0) k) 43, blk bd (dcells D bm A c) 77, mapC bm (dmap D.dur), own (.slice A D.pend.length c) 80 257 D.pend.length (D.pend.flatMap wcs), own (.slice r.A r.ds.length r.c) 30 1 r.ds.length (r.ds.map Bs.v), rowsC true r.ds, own (.slice r.Aw r.ws.length r.cw) 84 2 r.ws.length (r.ws.flatMap Wb.cells), rowsC true (r.ws.map Wb.b)])] := by
   intro b6 b7
   subst hW
   refine WA.pick (l := [8]) (by kernel_rfl) rfl (fun i hi => ?_)
   simp only [List.mem_cons, List.not_mem_nil, or_false] at hi
   subst hi
   ·
    refine W210 ?_
    rintro _ _
    exact WA.conv (by first | rfl | kernel_rfl) xR xT (st111111111000011000 b6 b7)
  have st111111110000010000 : ∀ (b6 : Nat), W 9 #[true, true, true, true, true, true, true, true, false, false, false, false, false, true, false, false, false, false] ⟨73, []⟩ [(0, .pointer (some ⟨bx, 0, none⟩)), (3, .pointer none), (4, .slice none 0 0), (5, .int .i64 e), (6, .pointer (some ⟨b6, 0, none⟩)), (26, .agg r.cells.toArray), (30, .int .i64 (k : Int))] [blk b6 [.slice none 0 0, .slice none 0 0, .int .i64 0, .bool false, .int .i64 0] 39, blk bx (wcl bd pj r (rjc J0 A0 c0 m0) k) 43, blk bd (dcells D bm A9 c9) 77, mapC bm (dmap D.dur), own (.slice A9 D.pend.length c9) 80 257 D.pend.length (D.pend.flatMap wcs), own (.slice r.A r.ds.length r.c) 30 1 r.ds.length (r.ds.map Bs.v), rowsC true r.ds, own (.slice r.Aw r.ws.length r.cw) 84 2 r.ws.length (r.ws.flatMap Wb.cells), rowsC true (r.ws.map Wb.b), frameC w0 (MutF [blk bx (wcl bd pj r (rjc J0 A0 c0 m0) k) 43, blk bd (dcells D bm A c) 77, mapC bm (dmap D.dur), own (.slice A D.pend.length c) 80 257 D.pend.length (D.pend.flatMap wcs), own (.slice r.A r.ds.length r.c) 30 1 r.ds.length (r.ds.map Bs.v), rowsC true r.ds, own (.slice r.Aw r.ws.length r.cw) 84 2 r.ws.length (r.ws.flatMap Wb.cells), rowsC true (r.ws.map Wb.b)])] := by
   intro b6
   subst hW
   refine WA.pick (l := [8, 14]) (by kernel_rfl) rfl (fun i hi => ?_)
   simp only [List.mem_cons, List.not_mem_nil, or_false] at hi
   rcases hi with rfl | rfl
   ·
    refine W210 ?_
    rintro _ _
    exact WA.conv (by first | rfl | kernel_rfl) xR xT (st111111111000010000 b6)
   ·
    refine WA.one1 rfl rfl (op_alloc ti41 (lt_ rfl)) (fun _ b => xT) fun b7 => ?_
    exact WA.conv (by first | rfl | kernel_rfl) xR xT (st111111110000011000 b6 b7)
  have st111111111000001000 : ∀ (b7 : Nat), W 8 #[true, true, true, true, true, true, true, true, true, false, false, false, false, false, true, false, false, false] ⟨73, []⟩ [(0, .pointer (some ⟨bx, 0, none⟩)), (3, .pointer none), (4, .slice none 0 0), (5, .int .i64 e), (7, .pointer (some ⟨b7, 0, none⟩)), (31, .tuple #[.agg r.cells.toArray, .agg #[.int .i64 0, .int .i64 0, .int .i64 0, .int .i64 0, .int .i64 0, .int .i64 0, .slice none 0 0, .int .i64 0, .int .i64 0], .int .i64 e])] [blk b7 [.int .i64 0, .int .i64 0, .int .i64 0, .int .i64 0, .int .i64 0, .int .i64 0, .slice none 0 0, .int .i64 0, .int .i64 0] 41, blk bx (wcl bd pj r (rjc J0 A0 c0 m0) k) 43, blk bd (dcells D bm A9 c9) 77, mapC bm (dmap D.dur), own (.slice A9 D.pend.length c9) 80 257 D.pend.length (D.pend.flatMap wcs), frameC w0 (MutF [blk bx (wcl bd pj r (rjc J0 A0 c0 m0) k) 43, blk bd (dcells D bm A c) 77, mapC bm (dmap D.dur), own (.slice A D.pend.length c) 80 257 D.pend.length (D.pend.flatMap wcs), own (.slice r.A r.ds.length r.c) 30 1 r.ds.length (r.ds.map Bs.v), rowsC true r.ds, own (.slice r.Aw r.ws.length r.cw) 84 2 r.ws.length (r.ws.flatMap Wb.cells), rowsC true (r.ws.map Wb.b)])] := by
   intro b7
   subst hW
   refine W55 ?_
   refine W64 ?_
   refine W343 ?_
   refine WA.pick (l := [13]) (by kernel_rfl) rfl (fun i hi => ?_)
   simp only [List.mem_cons, List.not_mem_nil, or_false] at hi
   subst hi
   ·
    refine WA.one1 rfl rfl (op_alloc ti39 (lt_ rfl)) (fun _ b => xT) fun b6 => ?_
    exact WA.conv (by first | rfl | kernel_rfl) xR xT (st111111111111111000 b6 b7)
  have st111111110000001000 : ∀ (b7 : Nat), W 9 #[true, true, true, true, true, true, true, true, false, false, false, false, false, false, true, false, false, false] ⟨73, []⟩ [(0, .pointer (some ⟨bx, 0, none⟩)), (3, .pointer none), (4, .slice none 0 0), (5, .int .i64 e), (7, .pointer (some ⟨b7, 0, none⟩)), (26, .agg r.cells.toArray), (30, .int .i64 (k : Int))] [blk b7 [.int .i64 0, .int .i64 0, .int .i64 0, .int .i64 0, .int .i64 0, .int .i64 0, .slice none 0 0, .int .i64 0, .int .i64 0] 41, blk bx (wcl bd pj r (rjc J0 A0 c0 m0) k) 43, blk bd (dcells D bm A9 c9) 77, mapC bm (dmap D.dur), own (.slice A9 D.pend.length c9) 80 257 D.pend.length (D.pend.flatMap wcs), own (.slice r.A r.ds.length r.c) 30 1 r.ds.length (r.ds.map Bs.v), rowsC true r.ds, own (.slice r.Aw r.ws.length r.cw) 84 2 r.ws.length (r.ws.flatMap Wb.cells), rowsC true (r.ws.map Wb.b), frameC w0 (MutF [blk bx (wcl bd pj r (rjc J0 A0 c0 m0) k) 43, blk bd (dcells D bm A c) 77, mapC bm (dmap D.dur), own (.slice A D.pend.length c) 80 257 D.pend.length (D.pend.flatMap wcs), own (.slice r.A r.ds.length r.c) 30 1 r.ds.length (r.ds.map Bs.v), rowsC true r.ds, own (.slice r.Aw r.ws.length r.cw) 84 2 r.ws.length (r.ws.flatMap Wb.cells), rowsC true (r.ws.map Wb.b)])] := by
   intro b7
   subst hW
   refine WA.pick (l := [8, 13]) (by kernel_rfl) rfl (fun i hi => ?_)
   simp only [List.mem_cons, List.not_mem_nil, or_false] at hi
   rcases hi with rfl | rfl
   ·
    refine W210 ?_
    rintro _ _
    exact WA.conv (by first | rfl | kernel_rfl) xR xT (st111111111000001000 b7)
   ·
    refine WA.one1 rfl rfl (op_alloc ti39 (lt_ rfl)) (fun _ b => xT) fun b6 => ?_
    exact WA.conv (by first | rfl | kernel_rfl) xR xT (st111111110000011000 b6 b7)
  subst hW
  refine WA.pick (l := [8, 13, 14]) (by kernel_rfl) rfl (fun i hi => ?_)
  simp only [List.mem_cons, List.not_mem_nil, or_false] at hi
  rcases hi with rfl | rfl | rfl
  ·
   refine W210 ?_
   rintro _ _
   exact WA.conv (by first | rfl | kernel_rfl) xR xT (st111111111000000000 ())
  ·
   refine WA.one1 rfl rfl (op_alloc ti39 (lt_ rfl)) (fun _ b => xT) fun b6 => ?_
   exact WA.conv (by first | rfl | kernel_rfl) xR xT (st111111110000010000 b6)
  ·
   refine WA.one1 rfl rfl (op_alloc ti41 (lt_ rfl)) (fun _ b => xT) fun b7 => ?_
   exact WA.conv (by first | rfl | kernel_rfl) xR xT (st111111110000001000 b7)
end Go.Proofs.YtkjlbedebmffgaaGreat.Sx
