import Derived.Test.YtkjlbedebmffgaaGreatNi
set_option linter.unusedVariables false
set_option linter.unusedSimpArgs false
namespace Go.Proofs.YtkjlbedebmffgaaGreat.Sx
open Go.RowKit Go.Proofs.YtkjlbedebmffgaaGreat.Ty
attribute [local irreducible] blk own rd rx frameC
abbrev Ara := Option (Int × Int × List (List UInt8))
def pickM (a b : Ara) : Ara := match b with
 | none => a
 | some y => match a with
  | none => some y
  | some x => if y.1 > x.1 then some y else some x
def arM (D : Dk) (fi : Int) (k n : Nat) : Ara := areaM n (D.seen (fi + (n : Int) * ((k / 2 : Nat) : Int)) (k / 2))
def pkM (D : Dk) (fi : Int) (k : Nat) : Nat → Ara
 | 0 => none
 | n + 1 => pickM (pkM D fi k n) (arM D fi k n)
def jn0 (fi se g f : Int) : Jn := ⟨fi, se, g % 2, 0, f, 0, 0, 0⟩
theorem fits_ok {a : Ar} {x : Ara} (h : a.fits x) : a.ok = x.isSome := by
 cases x with
 | none => rw [show a = Ar.zero from h]; rfl
 | some y => exact h.1
theorem fits_take {a b : Ar} {x y : Ara} (ha : a.fits x) (hb : b.fits y) (h1 : b.ok = true) (h2 : a.ok = false ∨ b.g > a.g) : b.fits (pickM x y) := by
 cases y with
 | none => rw [fits_ok hb] at h1; cases h1
 | some y =>
  cases x with
  | none => exact hb
  | some x =>
   have h3 : a.ok = true := ha.1
   have h4 : b.g > a.g := h2.resolve_left (by rw [h3]; simp)
   have h5 : y.1 > x.1 := by rw [← hb.2.1, ← ha.2.1]; exact h4
   simp only [pickM]
   rw [if_pos h5]
   exact hb
theorem fits_keep {a b : Ar} {x y : Ara} (ha : a.fits x) (hb : b.fits y) (h : b.ok = false ∨ a.ok = true ∧ ¬ b.g > a.g) : a.fits (pickM x y) := by
 cases y with
 | none => exact ha
 | some y =>
  have h1 : b.ok = true := hb.1
  obtain ⟨h2, h3⟩ := h.resolve_left (by rw [h1]; simp)
  cases x with
  | none => rw [fits_ok ha] at h2; cases h2
  | some x =>
   have h5 : ¬ y.1 > x.1 := by rw [← hb.2.1, ← ha.2.1]; exact h3
   simp only [pickM]
   rw [if_neg h5]
   exact ha
def entC : Int → List Bs → List Value
 | _, [] => []
 | n, r :: rs => .int .i64 n :: r.v :: entC (n + 1) rs
theorem entC_snoc (rs : List Bs) (r : Bs) : ∀ n : Int, entC n (rs ++ [r]) = entC n rs ++ [.int .i64 (n + rs.length), r.v] := by
 induction rs with
 | nil => intro n; simp [entC]
 | cons x rs ih =>
  intro n
  simp only [List.cons_append, entC, ih, List.length_cons]
  congr 5
  omega
set_option maxHeartbeats 400000 in
set_option maxRecDepth 10000 in
theorem f14_ok (bd bm : Nat) (A : Option Addr) (c : Nat) (D : Dk) (fi : Int) (k : Nat) (g f : Int) (es : List (List UInt8)) (hck : D.check fi (k : Int) = 0) (hpk : pkM D fi k 2 = some (g, f, es)) (hg : 0 ≤ g ∧ g ≤ 2147483647) (hf : 0 ≤ f ∧ f ≤ 2147483647) (hes : ∀ p ∈ es, p.length ≤ 131072) (hn : D.n ≤ 1000000) (hmx : D.pend.length + (1 + needs es) ≤ 1000000) (hch : (changeM D (jn0 fi (k : Int) g f) f es).2.2 = 0) :
  Spec Tryz.prog 14 [.pointer (some ⟨bd, 0, none⟩), .int .i64 fi, .int .i64 (k : Int)] [blk bd (dcells D bm A c) 77, mapC bm (dmap D.dur), own (.slice A D.pend.length c) 80 257 D.pend.length (D.pend.flatMap wcs)] [] (R := (Option Addr × Nat) × Nat × (Option Addr × Nat) × List Bs × (Option Addr × Nat) × List Bs)
   (fun q => q.2.2.2.1.map Bs.s = es ∧ q.2.2.2.2.2.map Bs.s = es) (fun q => .tuple #[.pointer (some ⟨q.2.1, 0, none⟩), .slice q.2.2.2.2.1.1 q.2.2.2.2.2.length q.2.2.2.2.1.2, .int .i64 0])
   (fun q => [blk bd (dcells (changeM D (jn0 fi (k : Int) g f) f es).1 bm q.1.1 q.1.2) 77, mapC bm (dmap (changeM D (jn0 fi (k : Int) g f) f es).1.dur), own (.slice q.1.1 (changeM D (jn0 fi (k : Int) g f) f es).1.pend.length q.1.2) 80 257 (changeM D (jn0 fi (k : Int) g f) f es).1.pend.length ((changeM D (jn0 fi (k : Int) g f) f es).1.pend.flatMap wcs), blk q.2.1 (jcells (changeM D (jn0 fi (k : Int) g f) f es).2.1 bd q.2.2.1.1 q.2.2.2.1.length q.2.2.1.2) 96, own (.slice q.2.2.1.1 q.2.2.2.1.length q.2.2.1.2) 30 1 q.2.2.2.1.length (q.2.2.2.1.map Bs.v), rowsC true q.2.2.2.1, own (.slice q.2.2.2.2.1.1 q.2.2.2.2.2.length q.2.2.2.2.1.2) 100 2 q.2.2.2.2.2.length (entC f q.2.2.2.2.2), rowsC true q.2.2.2.2.2]) := by
 have hck2 := check_ok hck
 refine Spec.intro Tryz.func14 Tryz.ntmps14 rfl (by simp) (by simp) fun w0 => ?_
 refine W240 ?_
 refine W266 ?_
 refine W111 ?_
 refine W299 ?_
 refine W4 ?_
 refine W222 ?_
 refine wl1 (op_alloc ti88 (lt_ rfl)) rfl fun b1 => ?_
 refine wl (op_storeAll sz88 rfl rfl xK xL xO xL) rfl ?_
 refine W252 ?_
 refine WX.regs (L' := [(9, _)]) ?_
 refine W269 ?_
 refine W93 ?_
 refine wlx (op_call (f37_spec bd bm A c D fi (k : Int) hn (by omega)) ca37 (lt_ rfl) rfl) rfl ?_
 rintro _ _
 refine W241 ?_
 refine WX.regs (L' := [(9, _), (10, _)]) ?_
 refine W359 ?_
 refine WX.regs (L' := [(9, _), (10, _), (27, _)]) ?_
 refine W0 ?_
 refine WC.cond rfl (fun h1 => ?_) (fun h1 => ?_)
 ·
  exact absurd hck h1
 ·
  refine W274 ?_
  refine wl1 (op_alloc ti92 (lt_ rfl)) rfl fun b2 => ?_
  refine W2 ?_
  refine WX.regs (L' := [(9, _), (11, _)]) ?_
  refine W269 ?_
  refine W272 ?_
  refine W53 ?_
  refine W294 ?_
  refine W293 ?_
  refine W223 ?_
  rintro ⟨i, best⟩ ⟨hi, hft⟩
  try dsimp only at hi hft ⊢
  refine W312 ?_
  refine WX.regs (L' := [(9, _), (11, _), (29, _), (30, _)]) ?_
  refine W327 ?_
  refine WC.cond rfl (fun h2 => ?_) (fun h2 => ?_)
  ·
   refine W298 ?_
   refine W4 ?_
   refine W241 ?_
   refine WX.regs (L' := [(9, _), (11, _), (12, _), (29, _)]) ?_
   refine W249 ?_
   refine W93 ?_
   refine W4 ?_
   refine W224 ?_
   rintro a ha
   refine W296 ?_
   refine wl1 (op_alloc ti92 (lt_ rfl)) rfl fun b3 => ?_
   refine W49 ?_
   refine W271 ?_
   refine WX.regs (L' := [(9, _), (11, _), (13, _), (14, _), (29, _)]) ?_
   refine W332 ?_
   refine WX.regs (L' := [(9, _), (11, _), (13, _), (14, _), (29, _), (39, _)]) ?_
   refine W0 ?_
   refine WC.cond rfl (fun h3 => ?_) (fun h3 => ?_)
   ·
    exact absurd rfl h3
   ·
    refine W274 ?_
    refine W321 ?_
    refine W4 ?_
    refine WL.splitb (t := 43) rfl (fun g43 => ?_) (fun g43 => ?_)
    ·
     refine wlgv (op_fieldAddr fo92_0 (lt_ rfl) rfl) rfl rfl rfl ?_
     refine wlgv (op_load1 fl4 (lt_ rfl) rfl xM rfl) rfl rfl rfl ?_
     refine W113 ?_
     refine W13 ?_
     refine WL.splitb (t := 47) rfl (fun g47 => ?_) (fun g47 => ?_)
     ·
      refine W255 ?_
      refine W6 ?_
      refine W68 ?_
      refine W313 ?_
      refine W103 ?_
      refine W362 ?_
      refine W3 ?_
      refine W116 ?_
      refine W49 ?_
      refine W252 ?_
      refine W53 ?_
      refine W330 ?_
      refine W53 ?_
      refine WX.meet ((i + 1, a)) ⟨⟨by simp only []; omega, fits_take hft ha (by assumption) (by first | (right; assumption) | (left; simp_all; done))⟩, by simp only []; omega⟩ (fun a w hs => hs.sub xY xT)
     ·
      refine W147 ?_
      refine W28 ?_
      refine W147 ?_
      refine W28 ?_
      refine W36 ?_
      refine W57 ?_
      refine W313 ?_
      refine W103 ?_
      refine W0 ?_
      refine WC.cond rfl (fun h4 => ?_) (fun h4 => ?_)
      ·
       refine W3 ?_
       refine W116 ?_
       refine W49 ?_
       refine W252 ?_
       refine W53 ?_
       refine W330 ?_
       refine W53 ?_
       refine WX.meet ((i + 1, a)) ⟨⟨by simp only []; omega, fits_take hft ha (by assumption) (by first | (right; assumption) | (left; simp_all; done))⟩, by simp only []; omega⟩ (fun a w hs => hs.sub xY xT)
      ·
       refine W291 ?_
       refine W0 ?_
       refine W286 ?_
       refine W53 ?_
       refine WX.meet ((i + 1, best)) ⟨⟨by simp only []; omega, fits_keep hft ha (by first | (left; assumption) | (right; refine ⟨by first | assumption | simp_all, by assumption⟩))⟩, by simp only []; omega⟩ (fun a w hs => hs.sub xY xT)
    ·
     refine W255 ?_
     refine W37 ?_
     refine W37 ?_
     refine W37 ?_
     refine W37 ?_
     refine W37 ?_
     refine W6 ?_
     refine W285 ?_
     refine W103 ?_
     refine W281 ?_
     refine W330 ?_
     refine W53 ?_
     refine WX.meet ((i + 1, best)) ⟨⟨by simp only []; omega, fits_keep hft ha (by first | (left; assumption) | (right; refine ⟨by first | assumption | simp_all, by assumption⟩))⟩, by simp only []; omega⟩ (fun a w hs => hs.sub xY xT)
  ·
   refine W264 ?_
   refine W269 ?_
   refine W321 ?_
   refine W85 ?_
   refine W2 ?_
   have hbest : best.ok = true ∧ best.g = g ∧ best.f = f ∧ best.es.map Bs.s = es := by have hft2 := hft; rw [show i = 2 by omega, hpk] at hft2; exact hft2
   obtain ⟨hbok, rfl, rfl, rfl⟩ := hbest
   have hesl : best.es.length ≤ 1000000 := by have := needs_le (best.es.map Bs.s); rw [List.length_map] at this; omega
   refine WX.regs (L' := [(9, _), (11, _), (59, _)]) ?_
   refine W0 ?_
   refine WC.condb rfl (fun h5 => ?_) (fun h5 => ?_)
   ·
    rw [hbok] at h5; cases h5
   ·
    refine W274 ?_
    refine W93 ?_
    refine wlv (op_fieldAddr fo92_1 (lt_ rfl) rfl) rfl ?_
    refine W21 ?_
    refine W78 ?_
    refine wlv (op_fieldAddr fo92_2 (lt_ rfl) rfl) rfl ?_
    refine W21 ?_
    refine W234 ?_
    refine wl1 (op_box (lt_ rfl) rfl rfl) rfl fun b4 => ?_
    refine W241 ?_
    refine WX.blkEq (b := b4) (jcells (jn0 fi (k : Int) best.g best.f) bd none 0 0) xK (by rfl) ?_
    refine WX.regs (L' := [(11, _), (15, _)]) ?_
    refine W282 ?_
    refine wlv (op_fieldAddr fo92_2 (lt_ rfl) rfl) rfl ?_
    refine W21 ?_
    refine W133 ?_
    refine W65 ?_
    refine W235 ?_
    rintro ⟨⟨A9, c9⟩, ⟨Aj2, mj2, cj2⟩, A8, c8, es8, rw8⟩ hq
    dsimp only at hq
    obtain ⟨hch2, h8, h9⟩ := hq.resolve_right (fun h => h.1 hch)
    simp only [Prod.mk.injEq] at h8 h9
    obtain ⟨rfl, rfl⟩ := h8
    obtain ⟨rfl, rfl, rfl⟩ := h9
    dsimp only
    refine W241 ?_
    refine WX.regs (L' := [(11, _), (15, _), (16, _)]) ?_
    refine W359 ?_
    refine WX.regs (L' := [(11, _), (15, _), (16, _), (75, _)]) ?_
    refine W0 ?_
    refine WC.cond rfl (fun h6 => ?_) (fun h6 => ?_)
    ·
     exact absurd hch h6
    ·
     refine W274 ?_
     refine W241 ?_
     refine WX.regs (L' := [(11, _), (15, _), (17, _)]) ?_
     refine W269 ?_
     refine W133 ?_
     refine W65 ?_
     refine W40 ?_
     refine W272 ?_
     refine WX.regs (L' := [(11, _), (15, _), (17, _), (78, _), (79, _), (80, _)]) ?_
     refine W294 ?_
     refine WC.nilrows true ?_
     refine WC.nilslice 100 2 ?_
     refine WC.loop (X := Nat × Option Addr × Nat × List Bs) (fun q => best.es.length - q.1) (fun q => q.1 ≤ best.es.length ∧ q.2.2.2.map Bs.s = (best.es.map Bs.s).take q.1) (fun q => [(11, .pointer (some ⟨b2, 0, none⟩)), (15, .pointer (some ⟨b4, 0, none⟩)), (17, .slice q.2.1 q.2.2.2.length q.2.2.1), (78, .slice best.A best.es.length best.c), (79, .int .i64 (best.es.length : Int)), (80, .int .i64 (q.1 : Int))]) (fun q => [own (.slice q.2.1 q.2.2.2.length q.2.2.1) 100 2 q.2.2.2.length (entC best.f q.2.2.2), rowsC true q.2.2.2, rowsC true best.es, own (.slice best.A best.es.length best.c) 30 1 best.es.length (best.es.map Bs.v), own (.slice Aj2 best.es.length cj2) 30 1 best.es.length (best.es.map Bs.v), blk b2 best.cells 92, blk b4 (jcells (changeM D (jn0 fi (k : Int) best.g best.f) best.f (best.es.map Bs.s)).2.1 bd Aj2 best.es.length cj2) 96, blk bd (dcells (changeM D (jn0 fi (k : Int) best.g best.f) best.f (best.es.map Bs.s)).1 bm A9 c9) 77, mapC bm (dmap (changeM D (jn0 fi (k : Int) best.g best.f) best.f (best.es.map Bs.s)).1.dur), own (.slice A9 (changeM D (jn0 fi (k : Int) best.g best.f) best.f (best.es.map Bs.s)).1.pend.length c9) 80 257 (changeM D (jn0 fi (k : Int) best.g best.f) best.f (best.es.map Bs.s)).1.pend.length ((changeM D (jn0 fi (k : Int) best.g best.f) best.f (best.es.map Bs.s)).1.pend.flatMap wcs), frameC w0 (MutF [blk bd (dcells D bm A c) 77, mapC bm (dmap D.dur), own (.slice A D.pend.length c) 80 257 D.pend.length (D.pend.flatMap wcs)])]) ((0, none, 0, [])) (⟨Nat.zero_le _, by rfl⟩) (fun a w hs => hs.sub xY xT) ?_
     rintro ⟨i, Ao, co, rs⟩ ⟨hi, hrs⟩
     try dsimp only at hi hrs ⊢
     refine W312 ?_
     refine WX.regs (L' := [(11, _), (15, _), (17, _), (78, _), (79, _), (80, _), (81, _)]) ?_
     refine W327 ?_
     refine WC.cond rfl (fun h7 => ?_) (fun h7 => ?_)
     ·
      refine W298 ?_
      obtain ⟨ri, hri⟩ : ∃ r, best.es[i]? = some r := ⟨best.es[i]'(by omega), List.getElem?_eq_getElem _⟩
      have hrl : rs.length = i := by have := congrArg List.length hrs; simp only [List.length_map, List.length_take] at this; omega
      refine W4 ?_
      refine W95 ?_
      refine W141 ?_
      refine W251 ?_
      refine WX.regs (L' := [(11, _), (15, _), (17, _), (18, _), (19, _), (78, _), (79, _), (80, _)]) ?_
      refine W0 ?_
      refine WC.drawn (Hs := [blk b2 best.cells 92]) mo 999 ?_
      refine W29 ?_
      refine WA.take (i := 1) rfl (by kernel_rfl) (fun _ _ _ h => h) rfl (op_fieldAddr fo92_2 (lt_ rfl) rfl) xT ?_
      refine W130 ?_
      refine W77 ?_
      refine WA.take (i := 4) rfl (by kernel_rfl) (fun _ _ _ h => h) rfl (op_add (lt_ rfl) rfl rfl (by omega)) xT ?_
      refine W67 ?_
      refine WA.stepx (i := 6) (by kernel_rfl) rfl rfl (op_call (f42_spec ri.A ri.s.length ri.c ri.s rfl (by have := hes _ (List.mem_map_of_mem (f := Bs.s) (List.mem_of_getElem? hri)); omega)) ca42 (lt_ rfl) rfl (by apply Give.mk; (focus (repeat (first | exact Takes.nil | exact Take.here | apply Takes.cons | apply Take.there))); exact Reads.cons (c := rowsC true best.es) xM (by simp) (rowsC_get (r := ri) (List.mem_of_getElem? hri)) Reads.nil)) (fun _ r => xT) ?_
      rintro ⟨Ax, cx⟩ _
      refine WA.take (i := 7) rfl (by kernel_rfl) (fun _ _ _ h => h) rfl (op_build (cs := [.int .i64 (best.f + (i : Int)), .slice Ax ri.s.length cx]) (pv := [(0, _), (1, _)]) (lt_ rfl) rfl (by kernel_rfl)) xT ?_
      refine WA.step1 (i := 8) (by kernel_rfl) rfl rfl (op_lit1 Tryz.underlying52 ti100 rfl (by decide) (lt_ rfl) rfl rfl) (fun _ b => xT) fun b5 => ?_
      refine WA.step2 (i := 9) (by kernel_rfl) rfl rfl (op_append Tryz.underlying52 ti100 rfl (by decide) (lt_ rfl) rfl rfl xK xS xO (by omega) (by omega)) (fun _ A c => xT) fun A1 c1 => ?_
      refine W163 ?_
      refine W19 ?_
      refine WX.regs (L' := [(11, _), (15, _), (17, _), (78, _), (79, _), (80, _)]) ?_
      refine W330 ?_
      refine WX.regs (L' := [(11, _), (15, _), (17, _), (78, _), (79, _), (80, _)]) ?_
      refine WX.ownEq (v := .slice A1 (rs.length + 1) c1) (entC best.f (rs ++ [(⟨Ax, cx, ri.s⟩ : Bs)])) xK (by rw [entC_snoc, hrl]; rfl) ?_
      refine WX.merge2 (c1 := rowsC true rs) (c2 := own (.slice Ax ri.s.length cx) 5 1 ri.s.length (bvs ri.s)) (d := rowsC true (rs ++ [(⟨Ax, cx, ri.s⟩ : Bs)])) xK xK (rowsC_snoc (own_le_bs rfl) (fun _ => by simp)) ?_
      rw [len_push rs ⟨Ax, cx, ri.s⟩]
      refine WX.meet ((i + 1, A1, c1, rs ++ [⟨Ax, cx, ri.s⟩])) ⟨⟨by simp only []; omega, by rw [take_snoc (x := ri.s) (by simp [hri]), List.map_append, hrs]; rfl⟩, by simp only []; omega⟩ (fun a w hs => hs.sub xY xT)
     ·
      refine W284 ?_
      refine W244 ?_
      refine W266 ?_
      refine W45 ?_
      refine W242 ?_
      exact Fin.ret3 xI (((A9, c9), b4, (Aj2, cj2), best.es, (Ao, co), rs)) (⟨rfl, by rw [hrs, List.take_of_length_le (by rw [List.length_map]; omega)]⟩) Tryz.results14 rfl (.tmp rfl) (.tmp rfl) (.tmp rfl) xT (by simp)
set_option maxHeartbeats 400000 in
set_option maxRecDepth 10000 in
theorem f14_err (bd bm : Nat) (A : Option Addr) (c : Nat) (D : Dk) (fi : Int) (k : Nat) (g f : Int) (es : List (List UInt8)) (hck : D.check fi (k : Int) = 0) (hpk : pkM D fi k 2 = some (g, f, es)) (hg : 0 ≤ g ∧ g ≤ 2147483647) (hf : 0 ≤ f ∧ f ≤ 2147483647) (hes : ∀ p ∈ es, p.length ≤ 131072) (hn : D.n ≤ 1000000) (hmx : D.pend.length + (1 + needs es) ≤ 1000000) (hch : ¬ (changeM D (jn0 fi (k : Int) g f) f es).2.2 = 0) :
  Spec Tryz.prog 14 [.pointer (some ⟨bd, 0, none⟩), .int .i64 fi, .int .i64 (k : Int)] [blk bd (dcells D bm A c) 77, mapC bm (dmap D.dur), own (.slice A D.pend.length c) 80 257 D.pend.length (D.pend.flatMap wcs)] [] (R := Option Addr × Nat)
   (fun _ => True) (fun q => .tuple #[.pointer none, .slice none 0 0, .int .i64 (changeM D (jn0 fi (k : Int) g f) f es).2.2])
   (fun q => [blk bd (dcells (changeM D (jn0 fi (k : Int) g f) f es).1 bm q.1 q.2) 77, mapC bm (dmap (changeM D (jn0 fi (k : Int) g f) f es).1.dur), own (.slice q.1 (changeM D (jn0 fi (k : Int) g f) f es).1.pend.length q.2) 80 257 (changeM D (jn0 fi (k : Int) g f) f es).1.pend.length ((changeM D (jn0 fi (k : Int) g f) f es).1.pend.flatMap wcs)]) := by
 have hck2 := check_ok hck
 refine Spec.intro Tryz.func14 Tryz.ntmps14 rfl (by simp) (by simp) fun w0 => ?_
 refine W240 ?_
 refine W266 ?_
 refine W111 ?_
 refine W299 ?_
 refine W4 ?_
 refine W222 ?_
 refine wl1 (op_alloc ti88 (lt_ rfl)) rfl fun b1 => ?_
 refine wl (op_storeAll sz88 rfl rfl xK xL xO xL) rfl ?_
 refine W252 ?_
 refine WX.regs (L' := [(9, _)]) ?_
 refine W269 ?_
 refine W93 ?_
 refine wlx (op_call (f37_spec bd bm A c D fi (k : Int) hn (by omega)) ca37 (lt_ rfl) rfl) rfl ?_
 rintro _ _
 refine W241 ?_
 refine WX.regs (L' := [(9, _), (10, _)]) ?_
 refine W359 ?_
 refine WX.regs (L' := [(9, _), (10, _), (27, _)]) ?_
 refine W0 ?_
 refine WC.cond rfl (fun h1 => ?_) (fun h1 => ?_)
 ·
  exact absurd hck h1
 ·
  refine W274 ?_
  refine wl1 (op_alloc ti92 (lt_ rfl)) rfl fun b2 => ?_
  refine W2 ?_
  refine WX.regs (L' := [(9, _), (11, _)]) ?_
  refine W269 ?_
  refine W272 ?_
  refine W53 ?_
  refine W294 ?_
  refine W293 ?_
  refine W223 ?_
  rintro ⟨i, best⟩ ⟨hi, hft⟩
  try dsimp only at hi hft ⊢
  refine W312 ?_
  refine WX.regs (L' := [(9, _), (11, _), (29, _), (30, _)]) ?_
  refine W327 ?_
  refine WC.cond rfl (fun h2 => ?_) (fun h2 => ?_)
  ·
   refine W298 ?_
   refine W4 ?_
   refine W241 ?_
   refine WX.regs (L' := [(9, _), (11, _), (12, _), (29, _)]) ?_
   refine W249 ?_
   refine W93 ?_
   refine W4 ?_
   refine W224 ?_
   rintro a ha
   refine W296 ?_
   refine wl1 (op_alloc ti92 (lt_ rfl)) rfl fun b3 => ?_
   refine W49 ?_
   refine W271 ?_
   refine WX.regs (L' := [(9, _), (11, _), (13, _), (14, _), (29, _)]) ?_
   refine W332 ?_
   refine WX.regs (L' := [(9, _), (11, _), (13, _), (14, _), (29, _), (39, _)]) ?_
   refine W0 ?_
   refine WC.cond rfl (fun h3 => ?_) (fun h3 => ?_)
   ·
    exact absurd rfl h3
   ·
    refine W274 ?_
    refine W321 ?_
    refine W4 ?_
    refine WL.splitb (t := 43) rfl (fun g43 => ?_) (fun g43 => ?_)
    ·
     refine wlgv (op_fieldAddr fo92_0 (lt_ rfl) rfl) rfl rfl rfl ?_
     refine wlgv (op_load1 fl4 (lt_ rfl) rfl xM rfl) rfl rfl rfl ?_
     refine W113 ?_
     refine W13 ?_
     refine WL.splitb (t := 47) rfl (fun g47 => ?_) (fun g47 => ?_)
     ·
      refine W255 ?_
      refine W6 ?_
      refine W68 ?_
      refine W313 ?_
      refine W103 ?_
      refine W362 ?_
      refine W3 ?_
      refine W116 ?_
      refine W49 ?_
      refine W252 ?_
      refine W53 ?_
      refine W330 ?_
      refine W53 ?_
      refine WX.meet ((i + 1, a)) ⟨⟨by simp only []; omega, fits_take hft ha (by assumption) (by first | (right; assumption) | (left; simp_all; done))⟩, by simp only []; omega⟩ (fun a w hs => hs.sub xY xT)
     ·
      refine W147 ?_
      refine W28 ?_
      refine W147 ?_
      refine W28 ?_
      refine W36 ?_
      refine W57 ?_
      refine W313 ?_
      refine W103 ?_
      refine W0 ?_
      refine WC.cond rfl (fun h4 => ?_) (fun h4 => ?_)
      ·
       refine W3 ?_
       refine W116 ?_
       refine W49 ?_
       refine W252 ?_
       refine W53 ?_
       refine W330 ?_
       refine W53 ?_
       refine WX.meet ((i + 1, a)) ⟨⟨by simp only []; omega, fits_take hft ha (by assumption) (by first | (right; assumption) | (left; simp_all; done))⟩, by simp only []; omega⟩ (fun a w hs => hs.sub xY xT)
      ·
       refine W291 ?_
       refine W0 ?_
       refine W286 ?_
       refine W53 ?_
       refine WX.meet ((i + 1, best)) ⟨⟨by simp only []; omega, fits_keep hft ha (by first | (left; assumption) | (right; refine ⟨by first | assumption | simp_all, by assumption⟩))⟩, by simp only []; omega⟩ (fun a w hs => hs.sub xY xT)
    ·
     refine W255 ?_
     refine W37 ?_
     refine W37 ?_
     refine W37 ?_
     refine W37 ?_
     refine W37 ?_
     refine W6 ?_
     refine W285 ?_
     refine W103 ?_
     refine W281 ?_
     refine W330 ?_
     refine W53 ?_
     refine WX.meet ((i + 1, best)) ⟨⟨by simp only []; omega, fits_keep hft ha (by first | (left; assumption) | (right; refine ⟨by first | assumption | simp_all, by assumption⟩))⟩, by simp only []; omega⟩ (fun a w hs => hs.sub xY xT)
  ·
   refine W264 ?_
   refine W269 ?_
   refine W321 ?_
   refine W85 ?_
   refine W2 ?_
   have hbest : best.ok = true ∧ best.g = g ∧ best.f = f ∧ best.es.map Bs.s = es := by have hft2 := hft; rw [show i = 2 by omega, hpk] at hft2; exact hft2
   obtain ⟨hbok, rfl, rfl, rfl⟩ := hbest
   have hesl : best.es.length ≤ 1000000 := by have := needs_le (best.es.map Bs.s); rw [List.length_map] at this; omega
   refine WX.regs (L' := [(9, _), (11, _), (59, _)]) ?_
   refine W0 ?_
   refine WC.condb rfl (fun h5 => ?_) (fun h5 => ?_)
   ·
    rw [hbok] at h5; cases h5
   ·
    refine W274 ?_
    refine W93 ?_
    refine wlv (op_fieldAddr fo92_1 (lt_ rfl) rfl) rfl ?_
    refine W21 ?_
    refine W78 ?_
    refine wlv (op_fieldAddr fo92_2 (lt_ rfl) rfl) rfl ?_
    refine W21 ?_
    refine W234 ?_
    refine wl1 (op_box (lt_ rfl) rfl rfl) rfl fun b4 => ?_
    refine W241 ?_
    refine WX.blkEq (b := b4) (jcells (jn0 fi (k : Int) best.g best.f) bd none 0 0) xK (by rfl) ?_
    refine WX.regs (L' := [(11, _), (15, _)]) ?_
    refine W282 ?_
    refine wlv (op_fieldAddr fo92_2 (lt_ rfl) rfl) rfl ?_
    refine W21 ?_
    refine W133 ?_
    refine W65 ?_
    refine W235 ?_
    rintro ⟨⟨A9, c9⟩, ⟨Aj2, mj2, cj2⟩, A8, c8, es8, rw8⟩ hq
    dsimp only at hq
    obtain ⟨hch2, h8, h9⟩ := hq.resolve_left (fun h => hch h.1)
    simp only [Prod.mk.injEq] at h8 h9
    obtain ⟨rfl, rfl, rfl⟩ := h8
    obtain ⟨rfl, rfl⟩ := h9
    dsimp only
    refine W241 ?_
    refine WX.regs (L' := [(11, _), (15, _), (16, _)]) ?_
    refine W359 ?_
    refine WX.regs (L' := [(11, _), (15, _), (16, _), (75, _)]) ?_
    refine W0 ?_
    refine WC.cond rfl (fun h6 => ?_) (fun h6 => ?_)
    ·
     refine W351 ?_
     refine W266 ?_
     refine W45 ?_
     refine W263 ?_
     exact Fin.ret3 xI ((A9, c9)) (trivial) Tryz.results14 rfl (.tmp rfl) (.tmp rfl) (.tmp rfl) xT (by simp)
    ·
     exact absurd hch h6
end Go.Proofs.YtkjlbedebmffgaaGreat.Sx
namespace Go.Proofs.YtkjlbedebmffgaaGreat.Sx
open Go.RowKit Go.Proofs.YtkjlbedebmffgaaGreat.Ty
attribute [local irreducible] blk own rd rx frameC
def Jn.watch (J : Jn) (e : Int) : Jn := if e = 28 then { J with failed := e } else J
def syncM (D : Dk) (J : Jn) (m : Nat) : Dk × Jn × Int :=
 if ¬ J.failed = 0 then (D, J, J.failed) else if ¬ D.flush.2 = 0 then (D.flush.1, J.watch D.flush.2, D.flush.2) else (D.flush.1, { J with synced := J.first + m }, 0)
theorem Spec.conseq {P : Program} {f : FuncId} {args : List Value} {T D : List Ch} {R R' : Type} {φ : R → Prop} {ret : R → Value} {B : R → List Ch} {φ' : R' → Prop} {ret' : R' → Value} {B' : R' → List Ch} (h : Spec P f args T D φ ret B)
  (k : ∀ r, φ r → ∃ r', φ' r' ∧ ret r = ret' r' ∧ Weak (B r) (B' r')) : Spec P f args T D φ' ret' B' := fun w hw => (h w hw).mono fun e w' ⟨r, he, hφ, hB, hc, hn⟩ => by
 obtain ⟨r', h1, h2, h3⟩ := k r hφ
 refine ⟨r', by rw [he, h2], h1, hB.weak h3, hc, fun c hc b hb => ?_⟩
 obtain ⟨c', hc', hl⟩ := h3.mem c hc
 exact hn c' hc' b (hl.2 b hb)
def truncM (D : Dk) (J : Jn) (before : Int) (es : List (List UInt8)) : Dk × Jn × List (List UInt8) × Int :=
 if ¬ J.failed = 0 then (D, J, es, J.failed)
 else if before < J.first ∨ before > J.first + es.length then (D, J, es, 2)
 else if before = J.first then (D, J, es, 0)
 else if (changeM D J before (es.drop (before - J.first).toNat)).2.2 = 0 then ((changeM D J before (es.drop (before - J.first).toNat)).1, (changeM D J before (es.drop (before - J.first).toNat)).2.1, es.drop (before - J.first).toNat, 0)
 else ((changeM D J before (es.drop (before - J.first).toNat)).1, (changeM D J before (es.drop (before - J.first).toNat)).2.1.watch (changeM D J before (es.drop (before - J.first).toNat)).2.2, es, (changeM D J before (es.drop (before - J.first).toNat)).2.2)
theorem needs_drop (es : List (List UInt8)) (i : Nat) : needs (es.drop i) ≤ needs es := by
 have := needs_append (es.take i) (es.drop i)
 rw [List.take_append_drop] at this
 omega
theorem watch0 (J : Jn) : J.watch 0 = J := if_neg (by decide)
set_option maxHeartbeats 400000 in
set_option maxRecDepth 10000 in
theorem f46_spec (bj bd : Nat) (J : Jn) (Ae : Option Addr) (me ce : Nat) (be : Nat) (e : Int) :
  SpecD Tryz.prog 46 [.pointer (some ⟨bj, 0, none⟩), .pointer (some ⟨be, 0, none⟩)] [blk bj (jcells J bd Ae me ce) 96, blk be [.int .i64 e] 44] [] (R := Unit) (fun _ => True) (fun _ => .tuple #[]) (fun _ => [blk bj (jcells (J.watch e) bd Ae me ce) 96, blk be [.int .i64 e] 44]) := by
 refine SpecD.intro Tryz.func46 Tryz.ntmps46 rfl (by simp) (by simp) fun w0 => ?_
 refine W351 ?_
 refine W27 ?_
 refine W115 ?_
 refine W42 ?_
 refine W2 ?_
 refine WX.regs (L' := [(0, _), (1, _), (7, _)]) ?_
 refine W0 ?_
 refine WC.cond rfl (fun h1 => ?_) (fun h1 => ?_)
 ·
  rw [show J.watch e = { J with failed := e } from if_pos h1]
  refine W334 ?_
  refine W27 ?_
  refine W115 ?_
  refine W27 ?_
  refine wlv (op_fieldAddr fo96_7 (lt_ rfl) rfl) rfl ?_
  refine wl (op_store sz44 rfl rfl xK xL xO (by first | exact Nat.le_of_ble_eq_true rfl | (simp; omega))) rfl ?_
  refine W252 ?_
  refine WX.blkEq (b := bj) (jcells { J with failed := e } bd Ae me ce) xK (by simp [jcells, pset, Value.cells]) ?_
  refine WX.regs (L' := []) ?_
  exact Fin.ret0 xI (()) (trivial) Tryz.results46 rfl  xT (by simp)
 ·
  rw [show J.watch e = J from if_neg h1]
  refine W8 ?_
  exact Fin.ret0 xI (()) (trivial) Tryz.results46 rfl  xT (by simp)
set_option maxHeartbeats 400000 in
set_option maxRecDepth 10000 in
theorem f27_spec (bd bm : Nat) (A : Option Addr) (c : Nat) (D : Dk) (bj : Nat) (J : Jn) (Ae : Option Addr) (me ce : Nat) (hmx : D.pend.length ≤ 1000000) (hJ : -1000000000000 ≤ J.first ∧ J.first ≤ 1000000000000 ∧ me ≤ 1000000) :
  Spec Tryz.prog 27 [.pointer (some ⟨bj, 0, none⟩)] [blk bd (dcells D bm A c) 77, mapC bm (dmap D.dur), own (.slice A D.pend.length c) 80 257 D.pend.length (D.pend.flatMap wcs), blk bj (jcells J bd Ae me ce) 96] [] (R := Option Addr × Nat) (fun _ => True) (fun _ => .int .i64 (syncM D J me).2.2) (fun q => [blk bd (dcells (syncM D J me).1 bm q.1 q.2) 77, mapC bm (dmap (syncM D J me).1.dur), own (.slice q.1 (syncM D J me).1.pend.length q.2) 80 257 (syncM D J me).1.pend.length ((syncM D J me).1.pend.flatMap wcs), blk bj (jcells (syncM D J me).2.1 bd Ae me ce) 96]) := by
 refine Spec.introD Tryz.func27 Tryz.ntmps27 rfl (by simp) (by simp) fun w0 => ?_
 refine W240 ?_
 refine wl1 (op_alloc ti44 (lt_ rfl)) rfl fun b1 => ?_
 refine W2 ?_
 refine W63 ?_
 refine W282 ?_
 refine wlx (op_call (f44_spec bj bd J Ae me ce) ca44 (lt_ rfl) rfl) rfl ?_
 rintro _ _
 refine W241 ?_
 refine WX.regs (L' := [(0, _), (2, _), (3, _)]) ?_
 refine W359 ?_
 refine WX.regs (L' := [(0, _), (2, _), (3, _), (7, _)]) ?_
 refine W0 ?_
 refine WC.cond rfl (fun h1 => ?_) (fun h1 => ?_)
 ·
  refine W351 ?_
  refine W82 ?_
  refine W252 ?_
  refine W250 ?_
  refine W9 ?_
  have hs : syncM D J me = (D, J, J.failed) := if_pos h1
  rw [hs]
  dsimp only
  exact FinD.ret1 xI ((A, c)) (trivial) Tryz.results27 (.cell1 rfl fl44 xM rfl) xT (by simp)
 ·
  refine W8 ?_
  refine W261 ?_
  refine wl (op_defer (vs := [.pointer (some ⟨bj, 0, none⟩), .pointer (some ⟨b1, 0, none⟩)]) rfl) rfl ?_
  refine W252 ?_
  refine W63 ?_
  refine W282 ?_
  refine W27 ?_
  refine wlv (op_fieldAddr fo96_0 (lt_ rfl) rfl) rfl ?_
  refine W316 ?_
  refine wlx (op_call (f56_spec bd bm A c D hmx) ca56 (lt_ rfl) rfl) rfl ?_
  rintro ⟨A9, c9⟩ _
  refine W82 ?_
  refine W252 ?_
  refine W63 ?_
  refine W249 ?_
  refine W115 ?_
  refine W24 ?_
  refine W2 ?_
  refine WX.regs (L' := [(0, _), (2, _), (17, _)]) ?_
  refine W0 ?_
  refine WC.cond rfl (fun h2 => ?_) (fun h2 => ?_)
  ·
   refine W240 ?_
   refine W115 ?_
   refine W82 ?_
   refine W252 ?_
   refine W250 ?_
   refine W9 ?_
   have hs : syncM D J me = (D.flush.1, J.watch D.flush.2, D.flush.2) := by unfold syncM; rw [if_neg h1, if_pos h2]
   refine FinD.one xI (f46_spec bj bd J Ae me ce b1 (D.flush.2)) ca46 (by apply Give.mk; (focus (repeat (first | exact Takes.nil | exact Take.here | apply Takes.cons | apply Take.there))); exact Reads.nil) (fun _ _ => ?_)
   rw [hs]
   dsimp only
   exact FinD.ret1 xI ((A9, c9)) (trivial) Tryz.results27 (.cell1 rfl fl44 xM rfl) xT (by simp)
  ·
   refine W274 ?_
   refine W244 ?_
   refine wlx (op_call (f48_spec bj bd J Ae me ce hJ) ca48 (lt_ rfl) rfl) rfl ?_
   rintro _ _
   refine W27 ?_
   refine wlv (op_fieldAddr fo96_6 (lt_ rfl) rfl) rfl ?_
   refine W61 ?_
   refine W252 ?_
   refine W14 ?_
   refine W249 ?_
   refine W82 ?_
   refine W252 ?_
   refine W250 ?_
   have hs : syncM D J me = (D.flush.1, { J with synced := J.first + me }, 0) := by unfold syncM; rw [if_neg h1, if_neg h2]
   refine WX.blkEq (b := bj) (jcells { J with synced := J.first + me } bd Ae me ce) xK (by simp [jcells, pset, Value.cells]) ?_
   refine FinD.one xI (f46_spec bj bd { J with synced := J.first + me } Ae me ce b1 (0)) ca46 (by apply Give.mk; (focus (repeat (first | exact Takes.nil | exact Take.here | apply Takes.cons | apply Take.there))); exact Reads.nil) (fun _ _ => ?_)
   rw [hs, watch0]
   dsimp only
   exact FinD.ret1 xI ((A9, c9)) (trivial) Tryz.results27 (.cell1 rfl fl44 xM rfl) xT (by simp)
theorem f41t_spec (bd bm : Nat) (A : Option Addr) (c : Nat) (D : Dk) (bj : Nat) (J : Jn) (A0 : Option Addr) (c0 k : Nat) (before : Int) (olds : List Bs) (hk : k ≤ olds.length)
  (hdn : D.down = false) (hfs : 0 ≤ J.fi ∧ 8 ≤ J.se ∧ J.fi + J.se ≤ D.n) (hcur : 0 ≤ J.cur ∧ J.cur ≤ 1) (hn : D.n ≤ 1000000) (hf0 : 0 ≤ before ∧ before ≤ 1000000000000) (hrs : ∀ r ∈ olds, r.s.length ≤ 131072) (hMx : olds.length ≤ 1000000) (hmx : D.pend.length + (1 + needs (olds.map Bs.s)) ≤ 1000000) :
  Spec Tryz.prog 41 [.pointer (some ⟨bj, 0, none⟩), .int .i64 before, sliced A0 k olds.length c0 1] [blk bj (jcells J bd A0 olds.length c0) 96, blk bd (dcells D bm A c) 77, mapC bm (dmap D.dur), own (.slice A D.pend.length c) 80 257 D.pend.length (D.pend.flatMap wcs), own (.slice A0 olds.length c0) 30 1 olds.length (olds.map Bs.v), rowsC true olds] [] (R := (Option Addr × Nat) × (Option Addr × Nat) × List Bs)
   (fun q => q.2.2 = if (changeM D J before ((olds.drop k).map Bs.s)).2.2 = 0 then olds.drop k else olds) (fun _ => .int .i64 (changeM D J before ((olds.drop k).map Bs.s)).2.2)
   (fun q => [blk bj (jcells (changeM D J before ((olds.drop k).map Bs.s)).2.1 bd q.2.1.1 q.2.2.length q.2.1.2) 96, blk bd (dcells (changeM D J before ((olds.drop k).map Bs.s)).1 bm q.1.1 q.1.2) 77, mapC bm (dmap (changeM D J before ((olds.drop k).map Bs.s)).1.dur), own (.slice q.1.1 (changeM D J before ((olds.drop k).map Bs.s)).1.pend.length q.1.2) 80 257 (changeM D J before ((olds.drop k).map Bs.s)).1.pend.length ((changeM D J before ((olds.drop k).map Bs.s)).1.pend.flatMap wcs), own (.slice q.2.1.1 q.2.2.length q.2.1.2) 30 1 q.2.2.length (q.2.2.map Bs.v), rowsC true q.2.2]) := by
 have hmd : (olds.drop k).map Bs.s = (olds.map Bs.s).drop k := List.map_drop
 refine (f41_spec bd bm A c D bj J A0 A0 _ olds.length c0 olds.length c0 (olds.length - k) _ before olds (olds.drop k) (Ch.Le.trans (rd_dropR rfl hk) own_le_rd) (fun _ h => List.mem_of_mem_drop h) rfl (by rw [List.length_drop]) hdn hfs hcur hn hf0 (fun r hr => hrs r (List.mem_of_mem_drop hr)) (by omega)
  (by have := needs_drop (olds.map Bs.s) k; rw [hmd]; omega)).conseq ?_
 rintro ⟨⟨A9, c9⟩, ⟨Aj2, mj2, cj2⟩, A8, c8, es8, rw8⟩ hq
 dsimp only at hq
 rcases hq with ⟨h1, h2, h3⟩ | ⟨h1, h2, h3⟩
 ·simp only [Prod.mk.injEq] at h2 h3
  obtain ⟨rfl, rfl⟩ := h2
  obtain ⟨rfl, rfl, rfl⟩ := h3
  exact ⟨((A9, c9), (Aj2, cj2), olds.drop k), by dsimp only; rw [if_pos h1], rfl, .keep (.refl _) (.keep (.refl _) (.keep (.refl _) (.keep (.refl _) (.drop (.keep (.refl _) (.keep (.refl _) (.nil _)))))))⟩
 ·simp only [Prod.mk.injEq] at h2 h3
  obtain ⟨rfl, rfl, rfl⟩ := h2
  obtain ⟨rfl, rfl⟩ := h3
  exact ⟨((A9, c9), (Aj2, cj2), rw8), by dsimp only; rw [if_neg h1], rfl, .keep (.refl _) (.keep (.refl _) (.keep (.refl _) (.keep (.refl _) (.keep (.refl _) (.drop (.keep (.refl _) (.nil _)))))))⟩
set_option maxHeartbeats 400000 in
set_option maxRecDepth 10000 in
theorem f18_spec (bd bm : Nat) (A : Option Addr) (c : Nat) (D : Dk) (bj : Nat) (J : Jn) (A0 : Option Addr) (c0 : Nat) (before : Int) (rs : List Bs)
  (hdn : J.failed = 0 → D.down = false) (hfs : 0 ≤ J.fi ∧ 8 ≤ J.se ∧ J.fi + J.se ≤ D.n) (hcur : 0 ≤ J.cur ∧ J.cur ≤ 1) (hn : D.n ≤ 1000000) (hf0 : 0 ≤ J.first ∧ J.first ≤ 100000000000) (hrs : ∀ r ∈ rs, r.s.length ≤ 131072) (hMx : rs.length ≤ 1000000) (hmx : D.pend.length + (1 + needs (rs.map Bs.s)) ≤ 1000000) :
  Spec Tryz.prog 18 [.pointer (some ⟨bj, 0, none⟩), .int .i64 before] [blk bd (dcells D bm A c) 77, mapC bm (dmap D.dur), own (.slice A D.pend.length c) 80 257 D.pend.length (D.pend.flatMap wcs), blk bj (jcells J bd A0 rs.length c0) 96, own (.slice A0 rs.length c0) 30 1 rs.length (rs.map Bs.v), rowsC true rs] [] (R := (Option Addr × Nat) × (Option Addr × Nat) × List Bs)
   (fun q => q.2.2.map Bs.s = (truncM D J before (rs.map Bs.s)).2.2.1) (fun _ => .int .i64 (truncM D J before (rs.map Bs.s)).2.2.2)
   (fun q => [blk bd (dcells (truncM D J before (rs.map Bs.s)).1 bm q.1.1 q.1.2) 77, mapC bm (dmap (truncM D J before (rs.map Bs.s)).1.dur), own (.slice q.1.1 (truncM D J before (rs.map Bs.s)).1.pend.length q.1.2) 80 257 (truncM D J before (rs.map Bs.s)).1.pend.length ((truncM D J before (rs.map Bs.s)).1.pend.flatMap wcs), blk bj (jcells (truncM D J before (rs.map Bs.s)).2.1 bd q.2.1.1 q.2.2.length q.2.1.2) 96, own (.slice q.2.1.1 q.2.2.length q.2.1.2) 30 1 q.2.2.length (q.2.2.map Bs.v), rowsC true q.2.2]) := by
 have hrl : ((rs.map Bs.s).length : Int) = rs.length := by rw [List.length_map]
 have hmd : (rs.drop (before - J.first).toNat).map Bs.s = (rs.map Bs.s).drop (before - J.first).toNat := List.map_drop
 refine Spec.introD Tryz.func18 Tryz.ntmps18 rfl (by simp) (by simp) fun w0 => ?_
 refine W240 ?_
 refine wl1 (op_alloc ti44 (lt_ rfl)) rfl fun b1 => ?_
 refine W2 ?_
 refine WX.regs (L' := [(0, _), (1, _), (4, _)]) ?_
 refine W282 ?_
 refine wlx (op_call (f44_spec bj bd J A0 rs.length c0) ca44 (lt_ rfl) rfl) rfl ?_
 rintro _ _
 refine W241 ?_
 refine WX.regs (L' := [(0, _), (1, _), (4, _), (5, _)]) ?_
 refine W359 ?_
 refine WX.regs (L' := [(0, _), (1, _), (4, _), (5, _), (9, _)]) ?_
 refine W0 ?_
 refine WC.cond rfl (fun h1 => ?_) (fun h1 => ?_)
 ·
  refine W351 ?_
  refine W82 ?_
  refine W252 ?_
  refine W35 ?_
  refine W263 ?_
  have hs : truncM D J before (rs.map Bs.s) = (D, J, rs.map Bs.s, J.failed) := if_pos h1
  rw [hs]
  dsimp only
  exact FinD.ret1 xI (((A, c), (A0, c0), rs)) (rfl) Tryz.results18 (.cell1 rfl fl44 xM rfl) xT (by simp)
 ·
  refine W298 ?_
  refine W244 ?_
  refine W27 ?_
  refine wlv (op_fieldAddr fo96_3 (lt_ rfl) rfl) rfl ?_
  refine W21 ?_
  refine W25 ?_
  refine W4 ?_
  refine WL.split (t := 18) rfl (fun g18 => ?_) (fun g18 => ?_)
  ·
   refine W255 ?_
   refine W17 ?_
   refine W241 ?_
   refine WX.regs (L' := [(0, _), (1, _), (4, _), (11, _)]) ?_
   refine W353 ?_
   refine W82 ?_
   refine W252 ?_
   refine W35 ?_
   refine W275 ?_
   have hs : truncM D J before (rs.map Bs.s) = (D, J, rs.map Bs.s, 2) := by unfold truncM; rw [if_neg h1, if_pos (by omega)]
   rw [hs]
   dsimp only
   exact FinD.ret1 xI (((A, c), (A0, c0), rs)) (rfl) Tryz.results18 (.cell1 rfl fl44 xM rfl) xT (by simp)
  ·
   refine W345 ?_
   refine wlgx (op_call (f48_spec bj bd J A0 rs.length c0 (by omega)) ca48 (lt_ rfl) rfl) rfl rfl rfl ?_
   rintro _ _
   refine W36 ?_
   refine W15 ?_
   refine W241 ?_
   refine WX.regs (L' := [(0, _), (1, _), (4, _), (11, _)]) ?_
   refine W0 ?_
   refine WC.cond rfl (fun h2 => ?_) (fun h2 => ?_)
   ·
    refine W240 ?_
    refine W82 ?_
    refine W252 ?_
    refine W35 ?_
    refine W275 ?_
    have hs : truncM D J before (rs.map Bs.s) = (D, J, rs.map Bs.s, 2) := by unfold truncM; rw [if_neg h1, if_pos (by omega)]
    rw [hs]
    dsimp only
    exact FinD.ret1 xI (((A, c), (A0, c0), rs)) (rfl) Tryz.results18 (.cell1 rfl fl44 xM rfl) xT (by simp)
   ·
    refine W240 ?_
    refine W244 ?_
    refine W27 ?_
    refine wlv (op_fieldAddr fo96_3 (lt_ rfl) rfl) rfl ?_
    refine W21 ?_
    refine W42 ?_
    refine W241 ?_
    refine WX.regs (L' := [(0, _), (1, _), (4, _), (24, _)]) ?_
    refine W0 ?_
    refine WC.cond rfl (fun h3 => ?_) (fun h3 => ?_)
    ·
     refine W240 ?_
     refine W82 ?_
     refine W252 ?_
     refine W35 ?_
     refine W275 ?_
     have hs : truncM D J before (rs.map Bs.s) = (D, J, rs.map Bs.s, 0) := by unfold truncM; rw [if_neg h1, if_neg (by omega), if_pos (by omega)]
     rw [hs]
     dsimp only
     exact FinD.ret1 xI (((A, c), (A0, c0), rs)) (rfl) Tryz.results18 (.cell1 rfl fl44 xM rfl) xT (by simp)
    ·
     refine W291 ?_
     refine W261 ?_
     refine wl (op_defer (vs := [.pointer (some ⟨bj, 0, none⟩), .pointer (some ⟨b1, 0, none⟩)]) rfl) rfl ?_
     refine W252 ?_
     refine WX.regs (L' := [(0, _), (1, _), (4, _)]) ?_
     refine W327 ?_
     refine WC.drawnH mo 13 ?_
     refine W344 ?_
     refine W60 ?_
     refine WA.take (i := 3) rfl (by kernel_rfl) (fun _ _ _ h => h) rfl (op_nilCheck (lt_ rfl) rfl) xT ?_
     refine WA.take (i := 4) rfl (by kernel_rfl) (fun _ _ _ h => h) rfl (op_fieldAddr fo96_4 (lt_ rfl) rfl) xT ?_
     refine WA.take (i := 5) rfl (by kernel_rfl) (fun _ _ _ h => h) rfl (op_load1 fl36 (lt_ rfl) rfl xM rfl) xT ?_
     refine W107 ?_
     refine W168 ?_
     refine WA.take (i := 8) rfl (by kernel_rfl) (fun _ _ _ h => h) rfl (op_nilCheck (lt_ rfl) rfl) xT ?_
     refine WA.take (i := 9) rfl (by kernel_rfl) (fun _ _ _ h => h) rfl (op_fieldAddr fo96_3 (lt_ rfl) rfl) xT ?_
     refine WA.take (i := 10) rfl (by kernel_rfl) (fun _ _ _ h => h) rfl (op_load1 fl3 (lt_ rfl) rfl xM rfl) xT ?_
     refine WA.take (i := 11) rfl (by kernel_rfl) (fun _ _ _ h => h) rfl (op_sub (lt_ rfl) rfl rfl (by omega)) xT ?_
     refine WA.take (i := 12) rfl (by kernel_rfl) (fun _ _ _ h => h) rfl (op_slice_l Tryz.underlying36 sz30 (lt_ rfl) rfl rfl (by omega) (by omega)) xT ?_
     refine WA.stepx (G := fun _ => []) (i := 13) (by kernel_rfl) rfl rfl (op_call (f41t_spec bd bm A c D bj J A0 c0 (before - J.first).toNat before rs (by omega) (hdn (by omega)) hfs hcur hn (by omega) hrs hMx hmx) ca41 (lt_ rfl) rfl) (fun h => absurd rfl h) ?_
     rintro ⟨⟨A9, c9⟩, ⟨Aj2, cj2⟩, rs2⟩ hrs2
     dsimp only at hrs2
     refine WA.stepoA (i := 14) (by kernel_rfl) rfl rfl (by kernel_rfl) (op_storeAll sz44 rfl rfl xK xL xO xL) ?_
     refine W19 ?_
     refine W35 ?_
     refine W249 ?_
     refine W115 ?_
     refine W82 ?_
     refine W252 ?_
     refine W322 ?_
     have hs : truncM D J before (rs.map Bs.s) = ((changeM D J before ((rs.drop (before - J.first).toNat).map Bs.s)).1, (changeM D J before ((rs.drop (before - J.first).toNat).map Bs.s)).2.1.watch (changeM D J before ((rs.drop (before - J.first).toNat).map Bs.s)).2.2, (if (changeM D J before ((rs.drop (before - J.first).toNat).map Bs.s)).2.2 = 0 then (rs.map Bs.s).drop (before - J.first).toNat else rs.map Bs.s), (changeM D J before ((rs.drop (before - J.first).toNat).map Bs.s)).2.2) := by
      unfold truncM
      rw [if_neg h1, if_neg (by omega), if_neg (by omega), ← hmd]
      split
      ·rename_i h0; rw [h0, watch0]
      ·rename_i h0; simp
     refine FinD.one xI (f46_spec bj bd (changeM D J before ((rs.drop (before - J.first).toNat).map Bs.s)).2.1 Aj2 rs2.length cj2 b1 ((changeM D J before ((rs.drop (before - J.first).toNat).map Bs.s)).2.2)) ca46 (by apply Give.mk; (focus (repeat (first | exact Takes.nil | exact Take.here | apply Takes.cons | apply Take.there))); exact Reads.nil) (fun _ _ => ?_)
     rw [hs]
     dsimp only
     exact FinD.ret1 xI (((A9, c9), (Aj2, cj2), rs2)) (by show rs2.map Bs.s = _; rw [hrs2]; split <;> simp [hmd, *]) Tryz.results18 (.cell1 rfl fl44 xM rfl) xT (by simp)
end Go.Proofs.YtkjlbedebmffgaaGreat.Sx
namespace Go.Proofs.YtkjlbedebmffgaaGreat.Sx
open Go.RowKit Go.Proofs.YtkjlbedebmffgaaGreat.Ty
attribute [local irreducible] blk own rd rx frameC
def appendM (D : Dk) (J : Jn) (es : List (List UInt8)) (p : List UInt8) : Dk × Jn × List (List UInt8) × Int × Int :=
 if ¬ J.failed = 0 then (D, J, es, 0, J.failed)
 else if p.length > 100000 then (D, J, es, 0, 5)
 else if ((need p.length : Nat) : Int) > J.se / 2 - J.used then (D, J, es, 0, 9)
 else if ¬ (putM D (J.fi + (J.cur * (J.se / 2) + J.used)) (sects 2 J.gen ((es.length : Int) + 1) p)).2 = 0 then
  ((putM D (J.fi + (J.cur * (J.se / 2) + J.used)) (sects 2 J.gen ((es.length : Int) + 1) p)).1, J.watch (putM D (J.fi + (J.cur * (J.se / 2) + J.used)) (sects 2 J.gen ((es.length : Int) + 1) p)).2, es, 0, (putM D (J.fi + (J.cur * (J.se / 2) + J.used)) (sects 2 J.gen ((es.length : Int) + 1) p)).2)
 else ((putM D (J.fi + (J.cur * (J.se / 2) + J.used)) (sects 2 J.gen ((es.length : Int) + 1) p)).1, { J with used := J.used + (need p.length : Nat) }, es ++ [p], J.first + es.length, 0)
set_option maxHeartbeats 400000 in
set_option maxRecDepth 10000 in
theorem f17_spec (bd bm : Nat) (A : Option Addr) (c : Nat) (D : Dk) (bj : Nat) (J : Jn) (A0 : Option Addr) (c0 : Nat) (rs : List Bs) (Ab : Option Addr) (mb cb : Nat) (p : List UInt8) (hp : p.length = mb)
  (hfs : 0 ≤ J.fi ∧ 8 ≤ J.se ∧ J.fi + J.se ≤ 1000000) (hcur : 0 ≤ J.cur ∧ J.cur ≤ 1) (hg : 0 ≤ J.gen ∧ J.gen ≤ 2147483647) (hu : 0 ≤ J.used ∧ J.used ≤ 1000000) (hf0 : 0 ≤ J.first ∧ J.first ≤ 100000000000) (hMx : rs.length ≤ 100000) (hmx : D.pend.length + 1000 ≤ 1000000) :
  Spec Tryz.prog 17 [.pointer (some ⟨bj, 0, none⟩), .slice Ab mb cb] [blk bd (dcells D bm A c) 77, mapC bm (dmap D.dur), own (.slice A D.pend.length c) 80 257 D.pend.length (D.pend.flatMap wcs), blk bj (jcells J bd A0 rs.length c0) 96, own (.slice A0 rs.length c0) 30 1 rs.length (rs.map Bs.v), rowsC true rs] [rd (.slice Ab mb cb) 1 mb (bvs p)] (R := (Option Addr × Nat) × (Option Addr × Nat) × List Bs)
   (fun q => q.2.2.map Bs.s = (appendM D J (rs.map Bs.s) p).2.2.1) (fun _ => .tuple #[.int .i64 (appendM D J (rs.map Bs.s) p).2.2.2.1, .int .i64 (appendM D J (rs.map Bs.s) p).2.2.2.2])
   (fun q => [blk bd (dcells (appendM D J (rs.map Bs.s) p).1 bm q.1.1 q.1.2) 77, mapC bm (dmap (appendM D J (rs.map Bs.s) p).1.dur), own (.slice q.1.1 (appendM D J (rs.map Bs.s) p).1.pend.length q.1.2) 80 257 (appendM D J (rs.map Bs.s) p).1.pend.length ((appendM D J (rs.map Bs.s) p).1.pend.flatMap wcs), blk bj (jcells (appendM D J (rs.map Bs.s) p).2.1 bd q.2.1.1 q.2.2.length q.2.1.2) 96, own (.slice q.2.1.1 q.2.2.length q.2.1.2) 30 1 q.2.2.length (q.2.2.map Bs.v), rowsC true q.2.2]) := by
 have hrl : ((rs.map Bs.s).length : Int) = rs.length := by rw [List.length_map]
 have hcs : 0 ≤ J.cur * (J.se / 2) ∧ J.cur * (J.se / 2) ≤ J.se / 2 := by
  rcases (show J.cur = 0 ∨ J.cur = 1 by omega) with h | h
  ·rw [h, Int.zero_mul]; omega
  ·rw [h, Int.one_mul]; omega
 refine Spec.introD Tryz.func17 Tryz.ntmps17 rfl (by simp) (by simp) fun w0 => ?_
 refine W240 ?_
 refine W5 ?_
 refine wl1 (op_alloc ti44 (lt_ rfl)) rfl fun b1 => ?_
 refine W2 ?_
 refine WX.regs (L' := [(0, _), (1, _), (5, _)]) ?_
 refine W282 ?_
 refine wlx (op_call (f44_spec bj bd J A0 rs.length c0) ca44 (lt_ rfl) rfl) rfl ?_
 rintro _ _
 refine W241 ?_
 refine WX.regs (L' := [(0, _), (1, _), (5, _), (6, _)]) ?_
 refine W359 ?_
 refine WX.regs (L' := [(0, _), (1, _), (5, _), (6, _), (11, _)]) ?_
 refine W0 ?_
 refine WC.cond rfl (fun h1 => ?_) (fun h1 => ?_)
 ·
  refine W351 ?_
  refine W5 ?_
  refine W82 ?_
  refine W252 ?_
  refine W48 ?_
  refine W263 ?_
  have hs : appendM D J (rs.map Bs.s) p = (D, J, rs.map Bs.s, 0, J.failed) := if_pos h1
  rw [hs]
  dsimp only
  exact FinD.ret2 xI (((A, c), (A0, c0), rs)) (rfl) Tryz.results17 rfl (.tmp rfl) (.cell1 rfl fl44 xM rfl) xT (by simp)
 ·
  refine W262 ?_
  refine W328 ?_
  refine W38 ?_
  refine W56 ?_
  refine W2 ?_
  refine WX.regs (L' := [(0, _), (1, _), (5, _), (15, _)]) ?_
  refine W0 ?_
  refine WC.cond rfl (fun h2 => ?_) (fun h2 => ?_)
  ·
   refine W240 ?_
   refine W5 ?_
   refine W82 ?_
   refine W252 ?_
   refine W48 ?_
   refine W263 ?_
   have hs : appendM D J (rs.map Bs.s) p = (D, J, rs.map Bs.s, 0, 5) := by unfold appendM; rw [if_neg h1, if_pos (by omega)]
   rw [hs]
   dsimp only
   exact FinD.ret2 xI (((A, c), (A0, c0), rs)) (rfl) Tryz.results17 rfl (.tmp rfl) (.cell1 rfl fl44 xM rfl) xT (by simp)
  ·
   refine W262 ?_
   refine W1 ?_
   refine WC.drawnH mo 17 ?_
   refine W29 ?_
   refine W69 ?_
   refine WA.take (i := 2) rfl (by kernel_rfl) (fun _ _ _ h => h) rfl (op_fieldAddr fo96_2 (lt_ rfl) rfl) xT ?_
   refine W198 ?_
   refine W51 ?_
   refine W102 ?_
   refine WA.take (i := 6) rfl (by kernel_rfl) (fun _ _ _ h => h) rfl (op_fieldAddr fo96_4 (lt_ rfl) rfl) xT ?_
   refine WA.take (i := 7) rfl (by kernel_rfl) (fun _ _ _ h => h) rfl (op_load1 fl36 (lt_ rfl) rfl xM rfl) xT ?_
   refine WA.take (i := 8) rfl (by kernel_rfl) (fun _ _ _ h => h) rfl (op_len Tryz.underlying36 (lt_ rfl) rfl) xT ?_
   refine WA.take (i := 9) rfl (by kernel_rfl) (fun _ _ _ h => h) rfl (op_add (lt_ rfl) rfl rfl (by omega)) xT ?_
   refine W90 ?_
   refine WA.take (i := 11) rfl (by kernel_rfl) (fun _ _ _ h => h) rfl (op_build (cs := [.int .i64 2, .int .i64 J.gen, .int .i64 ((rs.length : Int) + 1), .slice Ab mb cb]) (pv := [(0, _), (1, _), (2, _), (3, _)]) (lt_ rfl) rfl (by kernel_rfl)) xT ?_
   refine WA.stepx (i := 12) (by kernel_rfl) rfl rfl (op_call (f45_spec 2 J.gen ((rs.length : Int) + 1) Ab mb cb p hp) ca45 (lt_ rfl) rfl) (fun _ r => xT) ?_
   rintro ⟨Ax, cx, xs, ex⟩ hxs
   dsimp only at hxs
   rw [split_ok (fine_of (.inr rfl) hg (by omega)) (by omega), Prod.mk.injEq] at hxs
   obtain ⟨hxs, rfl⟩ := hxs
   have hxl : xs.length = need p.length := by have := congrArg List.length hxs; rwa [List.length_map, sects_length] at this
   have hnl := need_le (show p.length ≤ 131072 by omega)
   dsimp only
   refine WA.take (i := 13) rfl (by kernel_rfl) (fun _ _ _ h => h) rfl (op_move (lt_ rfl) rfl) xT ?_
   refine W148 ?_
   refine W104 ?_
   refine WA.take (i := 16) rfl (by kernel_rfl) (fun _ _ _ h => h) rfl (op_assign (lt_ rfl) rfl) xT ?_
   refine WA.stepo (G := []) (i := 17) (by kernel_rfl) rfl rfl (op_storeAll sz44 rfl rfl xK xL xO xL) (fun h => absurd rfl h) ?_
   refine W19 ?_
   refine WX.regs (L' := [(0, _), (1, _), (5, _), (7, _)]) ?_
   refine W269 ?_
   refine W115 ?_
   refine W24 ?_
   refine W2 ?_
   refine WX.regs (L' := [(0, _), (1, _), (5, _), (7, _), (33, _)]) ?_
   refine W0 ?_
   refine WC.cond rfl (fun h3 => ?_) (fun h3 => ?_)
   ·
    exact absurd rfl h3
   ·
    refine W262 ?_
    refine W328 ?_
    refine W40 ?_
    refine W4 ?_
    refine wlx (op_call (f16_spec bj bd J A0 rs.length c0 (by omega)) ca16 (lt_ rfl) rfl) rfl ?_
    rintro _ _
    refine W56 ?_
    refine W2 ?_
    refine WX.regs (L' := [(0, _), (1, _), (5, _), (7, _), (39, _)]) ?_
    refine W0 ?_
    refine WC.cond rfl (fun h4 => ?_) (fun h4 => ?_)
    ·
     refine W240 ?_
     refine W5 ?_
     refine W82 ?_
     refine W252 ?_
     refine W48 ?_
     refine W263 ?_
     have hs : appendM D J (rs.map Bs.s) p = (D, J, rs.map Bs.s, 0, 9) := by unfold appendM; rw [if_neg h1, if_neg (by omega), if_pos (by omega)]
     rw [hs]
     dsimp only
     exact FinD.ret2 xI (((A, c), (A0, c0), rs)) (rfl) Tryz.results17 rfl (.tmp rfl) (.cell1 rfl fl44 xM rfl) xT (by simp)
    ·
     refine W8 ?_
     refine W261 ?_
     refine wl (op_defer (vs := [.pointer (some ⟨bj, 0, none⟩), .pointer (some ⟨b1, 0, none⟩)]) rfl) rfl ?_
     refine W252 ?_
     refine WX.regs (L' := [(0, _), (1, _), (5, _), (7, _)]) ?_
     refine W327 ?_
     refine W1 ?_
     refine WC.drawn (Hs := [blk bj (jcells J bd A0 rs.length c0) 96]) mo 21 ?_
     refine W29 ?_
     refine W69 ?_
     refine WA.take (i := 2) rfl (by kernel_rfl) (fun _ _ _ h => h) rfl (op_fieldAddr fo96_0 (lt_ rfl) rfl) xT ?_
     refine WA.take (i := 3) rfl (by kernel_rfl) (fun _ _ _ h => h) rfl (op_loadN ag88 (lt_ rfl) rfl xM rfl) xT ?_
     refine W51 ?_
     refine W102 ?_
     refine WA.take (i := 6) rfl (by kernel_rfl) (fun _ _ _ h => h) rfl (op_fieldAddr fo96_1 (lt_ rfl) rfl) xT ?_
     refine W171 ?_
     refine W71 ?_
     refine W172 ?_
     refine WA.take (i := 10) rfl (by kernel_rfl) (fun _ _ _ h => h) rfl (op_fieldAddr fo96_0 (lt_ rfl) rfl) xT ?_
     refine WA.take (i := 11) rfl (by kernel_rfl) (fun _ _ _ h => h) rfl (op_loadN ag88 (lt_ rfl) rfl xM rfl) xT ?_
     refine W123 ?_
     refine WA.take (i := 15) rfl (by kernel_rfl) (fun _ _ _ h => h) rfl (op_nilCheck (lt_ rfl) rfl) xT ?_
     refine WA.take (i := 16) rfl (by kernel_rfl) (fun _ _ _ h => h) rfl (op_fieldAddr fo96_5 (lt_ rfl) rfl) xT ?_
     refine WA.take (i := 17) rfl (by kernel_rfl) (fun _ _ _ h => h) rfl (op_load1 fl3 (lt_ rfl) rfl xM rfl) xT ?_
     refine WA.take (i := 19) rfl (by kernel_rfl) (fun _ _ _ h => h) rfl (op_move (lt_ rfl) rfl) xT ?_
     refine WA.stepx (i := 12) (by kernel_rfl) rfl rfl (op_call (f43_spec bd J.fi J.se (by omega) (by omega)) ca43 (lt_ rfl) rfl) (fun _ r => xT) ?_
     rintro _ _
     refine WA.take (i := 13) rfl (by kernel_rfl) (fun _ _ _ h => h) rfl (op_mul (lt_ rfl) rfl rfl (by omega)) xT ?_
     refine WA.take (i := 18) rfl (by kernel_rfl) (fun _ _ _ h => h) rfl (op_add (lt_ rfl) rfl rfl (by omega)) xT ?_
     refine WA.stepx (i := 20) (by kernel_rfl) rfl rfl (op_call (f47_spec bd bm A c D J.fi J.se (J.cur * (J.se / 2) + J.used) Ax xs.length cx xs rfl (by omega) (by omega)) ca47 (lt_ rfl) rfl) (fun _ r => xT) ?_
     rintro ⟨A9, c9⟩ _
     rw [hxs]
     refine WA.stepo (G := []) (i := 21) (by kernel_rfl) rfl rfl (op_storeAll sz44 rfl rfl xK xL xO xL) (fun h => absurd rfl h) ?_
     refine W19 ?_
     refine WX.regs (L' := [(0, _), (1, _), (5, _), (7, _)]) ?_
     refine W249 ?_
     refine W115 ?_
     refine W24 ?_
     refine W2 ?_
     refine WX.regs (L' := [(0, _), (1, _), (5, _), (7, _), (63, _)]) ?_
     refine W0 ?_
     refine WC.cond rfl (fun h5 => ?_) (fun h5 => ?_)
     ·
      refine W1 ?_
      refine WC.drawnH mo 2 ?_
      refine WA.take (i := 0) rfl (by kernel_rfl) (fun _ _ _ h => h) rfl (op_load1 fl44 (lt_ rfl) rfl xM rfl) xT ?_
      refine WA.take (i := 1) rfl (by kernel_rfl) (fun _ _ _ h => h) rfl (op_assign (lt_ rfl) rfl) xT ?_
      refine WA.stepo (G := []) (i := 2) (by kernel_rfl) rfl rfl (op_storeAll sz44 rfl rfl xK xL xO xL) (fun h => absurd rfl h) ?_
      refine W19 ?_
      refine W48 ?_
      refine W263 ?_
      have hs : appendM D J (rs.map Bs.s) p = ((putM D (J.fi + (J.cur * (J.se / 2) + J.used)) (sects 2 J.gen ((rs.length : Int) + 1) p)).1, J.watch (putM D (J.fi + (J.cur * (J.se / 2) + J.used)) (sects 2 J.gen ((rs.length : Int) + 1) p)).2, rs.map Bs.s, 0, (putM D (J.fi + (J.cur * (J.se / 2) + J.used)) (sects 2 J.gen ((rs.length : Int) + 1) p)).2) := by unfold appendM; rw [hrl, if_neg h1, if_neg (by omega), if_neg (by omega), if_pos (by assumption)]
      refine FinD.one xI (f46_spec bj bd J A0 rs.length c0 b1 ((putM D (J.fi + (J.cur * (J.se / 2) + J.used)) (sects 2 J.gen ((rs.length : Int) + 1) p)).2)) ca46 (by apply Give.mk; (focus (repeat (first | exact Takes.nil | exact Take.here | apply Takes.cons | apply Take.there))); exact Reads.nil) (fun _ _ => ?_)
      rw [hs]
      dsimp only
      exact FinD.ret2 xI (((A9, c9), (A0, c0), rs)) (rfl) Tryz.results17 rfl (.tmp rfl) (.cell1 rfl fl44 xM rfl) xT (by simp)
     ·
      refine W8 ?_
      refine W261 ?_
      refine wlx (op_call (f48_spec bj bd J A0 rs.length c0 (by omega)) ca48 (lt_ rfl) rfl) rfl ?_
      rintro _ _
      refine W241 ?_
      refine WX.regs (L' := [(0, _), (1, _), (4, _), (5, _), (7, _)]) ?_
      refine W249 ?_
      refine WL.capx (A := A0) (m := rs.length) (c := c0) (sz := 1) (xs := rs.map Bs.v) (Src.own xM) (fun hcap => ?_)
      refine W244 ?_
      refine W27 ?_
      refine wlv (op_fieldAddr fo96_4 (lt_ rfl) rfl) rfl ?_
      refine W65 ?_
      refine wlx (op_call (f49_spec A0 rs.length c0 hcap) ca49 (lt_ rfl) rfl) rfl ?_
      rintro _ _
      refine W4 ?_
      refine wlx (op_call (f42_spec Ab mb cb p hp (by omega)) ca42 (lt_ rfl) rfl) rfl ?_
      rintro ⟨A8, c8⟩ _
      refine wl1 (op_lit1 Tryz.underlying36 ti30 rfl (by decide) (lt_ rfl) rfl rfl) rfl fun b2 => ?_
      refine wl2 (op_appendFull (m := rs.length) (k := 1) (xs := rs.map Bs.v) Tryz.underlying36 ti30 rfl (by decide) (lt_ rfl) rfl rfl ⟨own (.slice A0 rs.length c0) 30 1 rs.length (rs.map Bs.v), xM, own_le_rdc⟩ xS (by decide) (by omega) (by omega)) rfl fun A1 c1 => ?_
      refine W27 ?_
      refine wlv (op_fieldAddr fo96_4 (lt_ rfl) rfl) rfl ?_
      refine W134 ?_
      refine W252 ?_
      refine WX.regs (L' := [(0, _), (4, _), (5, _), (7, _)]) ?_
      refine W323 ?_
      refine wlv (op_fieldAddr fo96_5 (lt_ rfl) rfl) rfl ?_
      refine W21 ?_
      refine W4 ?_
      refine W40 ?_
      refine W16 ?_
      refine W27 ?_
      refine wlv (op_fieldAddr fo96_5 (lt_ rfl) rfl) rfl ?_
      refine W61 ?_
      refine W252 ?_
      refine W48 ?_
      refine W261 ?_
      refine W5 ?_
      refine W82 ?_
      refine W252 ?_
      refine W48 ?_
      refine W242 ?_
      have hs : appendM D J (rs.map Bs.s) p = ((putM D (J.fi + (J.cur * (J.se / 2) + J.used)) (sects 2 J.gen ((rs.length : Int) + 1) p)).1, { J with used := J.used + (need p.length : Nat) }, rs.map Bs.s ++ [p], J.first + rs.length, 0) := by unfold appendM; rw [hrl, if_neg h1, if_neg (by omega), if_neg (by omega), if_neg (by assumption)]
      refine WX.blkEq (b := bj) (jcells { J with used := J.used + (need p.length : Nat) } bd A1 (rs.length + 1) c1) xK (by simp [jcells, pset, Value.cells, hxl]) ?_
      refine FinD.one xI (f46_spec bj bd { J with used := J.used + (need p.length : Nat) } A1 (rs.length + 1) c1 b1 (0)) ca46 (by apply Give.mk; (focus (repeat (first | exact Takes.nil | exact Take.here | apply Takes.cons | apply Take.there))); exact Reads.nil) (fun _ _ => ?_)
      rw [watch0, hs]
      refine WX.ownEq (v := .slice A1 (rs.length + 1) c1) ((rs ++ [(⟨A8, c8, p⟩ : Bs)]).map Bs.v) xK (by rw [← map_push]; unfold Bs.v; rw [hp]; rfl) ?_
      refine WX.merge2 (c1 := rowsC true rs) (c2 := own (.slice A8 mb c8) 5 1 mb (bvs p)) (d := rowsC true (rs ++ [(⟨A8, c8, p⟩ : Bs)])) xK xK (rowsC_snoc (own_le_bs hp) (fun _ => by simp)) ?_
      rw [len_push rs ⟨A8, c8, p⟩]
      dsimp only
      exact FinD.ret2 xI (((A9, c9), (A1, c1), rs ++ [⟨A8, c8, p⟩])) (by show (rs ++ [_]).map Bs.s = _; rw [List.map_append]; rfl) Tryz.results17 rfl (.tmp rfl) (.cell1 rfl fl44 xM rfl) xT (by simp)
end Go.Proofs.YtkjlbedebmffgaaGreat.Sx
namespace Go.Proofs.YtkjlbedebmffgaaGreat.Sx
open Go.RowKit Go.Proofs.YtkjlbedebmffgaaGreat.Ty
attribute [local irreducible] blk own rd rx frameC
section
variable {P : Program} {n : Fr} {L : List (Nat × Value)} {H : List Ch} {d : Nat} {ty xt yt : TypeId} {pos : String} {af : Array Edge} {g : Option (Nat × Bool)} {x y : Operand}
theorem op_mul8 {a b : UInt8} (hn : d < n.n) (hx : evr L x = some (bv a)) (hy : evr L y = some (bv b)) : Val P ⟨some d, .binOp .mul xt x y yt, ty, pos, af, g⟩ n L H d (bv (a * b)) :=
 binop_val hn hx hy (fun _ _ => rfl) fun w => by
  simp [bv, binOp, Op.intArith, IntKind.wrap, IntKind.bits, IntKind.signed]
end
structure OpR where
 k : UInt8
 n : Nat
 b : UInt8
 ch : Bs
def OpR.cells (o : OpR) : List Value := [bv o.k, .int .u16 (o.n : Int), bv o.b, o.ch.v]
def sizeM (n : UInt8) : Nat := 8 + n.toNat % 36
def bytesM (n : Nat) (f : UInt8) : List UInt8 := (List.range (n % 1500)).map fun i => f + UInt8.ofNat i * 7
def byteW (n : Nat) (f : UInt8) (i : Nat) : List UInt8 := ((List.range i).map fun i => f + UInt8.ofNat i * 7) ++ List.replicate (n % 1500 - i) 0
theorem byteW_length {n i : Nat} {f : UInt8} (h : i ≤ n % 1500) : (byteW n f i).length = n % 1500 := by simp [byteW]; omega
theorem byteW_set {n i : Nat} {f : UInt8} (h : i < n % 1500) : (byteW n f i).set i (f + UInt8.ofNat i * 7) = byteW n f (i + 1) := by
 have hl : ((List.range i).map fun i => f + UInt8.ofNat i * 7).length = i := by simp
 unfold byteW
 rw [List.range_succ, List.map_append, show n % 1500 - i = (n % 1500 - (i + 1)) + 1 by omega, List.replicate_succ, List.set_append, if_neg (by omega), hl, Nat.sub_self, List.set_cons_zero, List.append_assoc]
 rfl
def fateM (c : UInt8) : UInt8 := if c.toNat % 3 = 2 then UInt8.ofNat (c.toNat / 3 % 2) else c
def fatesM (l : List UInt8) : List UInt8 := l.map fateM
theorem row_get {xs row : List Value} {o sz k : Nat} (h : (xs.drop o).take sz = row) (hk : k < sz) : xs[o + k]? = row[k]? := by rw [← h, List.getElem?_take, if_pos hk, List.getElem?_drop]
def fitsM (l : List OpR) : Prop := l.length ≤ 30 ∧ ∀ o ∈ l, o.ch.s.length ≤ 100
set_option maxHeartbeats 400000 in
set_option maxRecDepth 10000 in
theorem f7_spec (n : UInt8) :
  Spec Tryz.prog 7 [bv n] [] [] (R := Unit) (fun _ => True) (fun _ => .int .i64 ((sizeM n : Nat) : Int)) (fun _ => []) := by
 refine Spec.intro Tryz.func7 Tryz.ntmps7 rfl (by simp) (by simp) fun w0 => ?_
 refine W300 ?_
 refine W249 ?_
 have hc := n.toNat_lt
 refine W4 ?_
 refine wlv (op_rem (k := .u8) (a := (n.toNat : Int)) (lt_ rfl) rfl rfl (by omega) (by omega)) rfl ?_
 refine wlv (op_conv (k := .u8) (by kernel_rfl) Tryz.underlying3 (lt_ rfl) rfl) rfl ?_
 rw [show IntKind.i64.wrap ((n.toNat : Int) % 36) = (n.toNat : Int) % 36 by rw [IntKind.wrap_i64]; omega]
 refine W16 ?_
 refine W260 ?_
 rw [show (8 : Int) + (n.toNat : Int) % 36 = ((sizeM n : Nat) : Int) by unfold sizeM; omega]
 exact Fin.ret1 xI (()) (trivial) Tryz.results7 (.tmp rfl) xT (by simp)
set_option maxHeartbeats 400000 in
set_option maxRecDepth 10000 in
theorem f25_spec (n : Nat) (hn : n < 65536) (f : UInt8) :
  Spec Tryz.prog 25 [.int .u16 (n : Int), bv f] [] [] (R := Nat) (fun _ => True) (fun r => .slice (some ⟨r, 0, none⟩) (n % 1500) (n % 1500)) (fun r => [own (.slice (some ⟨r, 0, none⟩) (n % 1500) (n % 1500)) 5 1 (n % 1500) (bvs (bytesM n f))]) := by
 refine Spec.intro Tryz.func25 Tryz.ntmps25 rfl (by simp) (by simp) fun w0 => ?_
 refine W283 ?_
 refine W76 ?_
 refine W261 ?_
 refine W78 ?_
 refine wlv (op_conv16i (by kernel_rfl) Tryz.underlying3 (lt_ rfl) rfl (by omega)) rfl ?_
 refine wl1 (op_make (z1 := (.int .u8 0)) (sz := 1) (zero := []) Tryz.underlying30 ti5 (lt_ rfl) rfl rfl (by omega) (by omega) (by omega) (by omega)) rfl fun b1 => ?_
 rw [show (((n : Int)) % 1500).toNat = n % 1500 by omega]
 refine WL.blkEq (b := b1) (bvs (byteW n f 0)) xK (by simp only [byteW, List.range_zero, List.map_nil, List.nil_append, Nat.sub_zero]; exact bvs_rep0 _) ?_
 refine WL.turn (c := blk b1 (bvs (byteW n f 0)) 5) (d := own (.slice (some ⟨b1, 0, none⟩) (n % 1500) (n % 1500)) 5 1 (n % 1500) (bvs (byteW n f 0))) xK (own_le_blk (by rw [bvs_length, byteW_length (by omega)]) (small_len (by omega))) ?_
 refine W241 ?_
 refine WX.regs (L' := [(1, _), (5, _)]) ?_
 refine W310 ?_
 refine WX.regs (L' := [(1, _), (5, _), (6, _)]) ?_
 refine W294 ?_
 refine WC.loop (X := Nat) (fun q => n % 1500 - q) (fun q => q ≤ n % 1500) (fun q => [(1, bv f), (5, .slice (some ⟨b1, 0, none⟩) (n % 1500) (n % 1500)), (6, .int .i64 (q : Int))]) (fun q => [own (.slice (some ⟨b1, 0, none⟩) (n % 1500) (n % 1500)) 5 1 (n % 1500) (bvs (byteW n f q)), frameC w0 (MutF [])]) (0) (Nat.zero_le _) (fun a w hs => hs.sub xY xT) ?_
 rintro i hi
 try dsimp only
 refine W314 ?_
 refine W38 ?_
 refine W265 ?_
 refine WX.regs (L' := [(1, _), (5, _), (6, _), (14, _)]) ?_
 refine W0 ?_
 refine WC.cond rfl (fun h1 => ?_) (fun h1 => ?_)
 ·
  refine W270 ?_
  refine W334 ?_
  refine W244 ?_
  refine wlv (op_convByte (by kernel_rfl) Tryz.underlying5 (lt_ rfl) rfl (by omega)) rfl ?_
  refine wlv (op_mul8 (b := 7) (lt_ rfl) rfl rfl) rfl ?_
  refine wlv (op_add8 (lt_ rfl) rfl rfl) rfl ?_
  refine W110 ?_
  refine wl (op_storeS sz5 rfl rfl xK rfl rfl (by rw [bvs_length, byteW_length (by omega)]; omega) (by decide)) rfl ?_
  refine W252 ?_
  refine WX.ownEq (v := .slice (some ⟨b1, 0, none⟩) (n % 1500) (n % 1500)) (bvs (byteW n f (i + 1))) xK (by rw [← byteW_set (by omega)]; exact bvs_put (k := i) (by omega) (by rw [byteW_length (by omega)]; omega)) ?_
  refine WX.regs (L' := [(1, _), (5, _), (6, _)]) ?_
  refine W352 ?_
  refine WX.regs (L' := [(1, _), (5, _), (6, _)]) ?_
  refine WX.meet (i + 1) ⟨by omega, by omega⟩ (fun a w hs => hs.sub xY xT)
 ·
  refine W264 ?_
  refine W261 ?_
  refine W241 ?_
  refine W322 ?_
  obtain rfl : i = n % 1500 := by omega
  rw [show byteW n f (n % 1500) = bytesM n f by simp [byteW, bytesM]]
  exact Fin.ret1 xI (b1) (trivial) Tryz.results25 (.tmp rfl) xT (by simp)
set_option maxHeartbeats 400000 in
set_option maxRecDepth 10000 in
theorem f5_spec (A : Option Addr) (m c : Nat) (l : List OpR) (hm : l.length = m) :
  Spec Tryz.prog 5 [.slice A m c] [] [rd (.slice A m c) 4 m (l.flatMap OpR.cells)] (R := Bool) (fun b => b = true ↔ fitsM l) (fun b => .bool b) (fun _ => []) := by
 refine Spec.intro Tryz.func5 Tryz.ntmps5 rfl (by simp) (by simp) fun w0 => ?_
 refine WC.capm (A := A) (m := m) (c := c) (sz := 4) (xs := l.flatMap OpR.cells) (Src.rd xM) (fun hcm => ?_)
 refine W300 ?_
 refine W310 ?_
 refine W84 ?_
 refine W294 ?_
 refine WC.loop (X := Nat) (fun q => m - q) (fun q => q ≤ m ∧ ∀ o ∈ l.take q, o.ch.s.length ≤ 100) (fun q => [(0, .slice A m c), (3, .int .i64 (q : Int))]) (fun q => [rd (.slice A m c) 4 m (l.flatMap OpR.cells), frameC w0 (MutF [])]) (0) (⟨Nat.zero_le _, fun o ho => by simp at ho⟩) (fun a w hs => hs.sub xY xT) ?_
 rintro i ⟨hi, ha⟩
 try dsimp only
 refine W314 ?_
 refine wlv (op_len Tryz.underlying22 (lt_ rfl) rfl) rfl ?_
 refine W265 ?_
 refine WX.regs (L' := [(0, _), (3, _), (7, _)]) ?_
 refine W0 ?_
 refine WC.cond rfl (fun h1 => ?_) (fun h1 => ?_)
 ·
  refine W298 ?_
  obtain ⟨x, hx⟩ : ∃ x, l[i]? = some x := ⟨l[i]'(by omega), List.getElem?_eq_getElem _⟩
  have hz : ∀ j, j = i * 4 → ((l.flatMap OpR.cells).drop j).take 4 = x.cells := fun j hj => by rw [hj]; exact flat_at (f := OpR.cells) (sz := 4) (fun _ => rfl) l i x hx
  refine W244 ?_
  refine wlv (op_index Tryz.underlying22 sz32 (lt_ rfl) rfl rfl (by omega) (by omega) (by decide) xS) rfl ?_
  refine wlv (op_fieldAddrS fo32_3 (lt_ rfl) rfl xS (by rw [flat_len (f := OpR.cells) (sz := 4) (fun _ => rfl)]; omega)) rfl ?_
  refine wlv (op_loadS fl30 (lt_ rfl) rfl xS ((row_get (k := 3) (hz _ (by omega)) (by decide)).trans rfl)) rfl ?_
  refine W38 ?_
  refine W56 ?_
  refine W2 ?_
  refine WX.regs (L' := [(0, _), (3, _), (16, _)]) ?_
  refine W0 ?_
  refine WC.cond rfl (fun h2 => ?_) (fun h2 => ?_)
  ·
   refine W304 ?_
   refine W315 ?_
   exact Fin.ret1 xI (false) (⟨fun h => (by cases h), fun h => by have := h.2 x (List.mem_of_getElem? hx); omega⟩) Tryz.results5 (.tmp rfl) xT (by simp)
  ·
   refine W291 ?_
   refine W0 ?_
   refine W329 ?_
   refine W84 ?_
   refine WX.meet (i + 1) ⟨⟨by omega, fun o ho => by rw [take_snoc hx] at ho; rcases List.mem_append.1 ho with h | h; exact ha o h; rw [List.mem_singleton.1 h]; omega⟩, by omega⟩ (fun a w hs => hs.sub xY xT)
 ·
  refine W264 ?_
  refine W261 ?_
  refine wlv (op_len Tryz.underlying22 (lt_ rfl) rfl) rfl ?_
  refine wlv (op_leq (lt_ rfl) rfl rfl) rfl ?_
  refine W260 ?_
  exact Fin.ret1 xI (_) (by have e : l.take i = l := List.take_of_length_le (by omega); rw [e] at ha; rw [decide_eq_true_iff]; exact ⟨fun h => ⟨by omega, ha⟩, fun h => by have := h.1; omega⟩) Tryz.results5 (.tmp rfl) xT (by simp)
end Go.Proofs.YtkjlbedebmffgaaGreat.Sx
namespace Go.Proofs.YtkjlbedebmffgaaGreat.Sx
open Go.RowKit Go.Proofs.YtkjlbedebmffgaaGreat.Ty
attribute [local irreducible] blk own rd rx frameC
structure Jok (D : Dk) (J : Jn) (es : List (List UInt8)) : Prop where
 fs : 0 ≤ J.fi ∧ 8 ≤ J.se ∧ J.fi + J.se ≤ D.n
 n : D.n ≤ 100000
 cur : 0 ≤ J.cur ∧ J.cur ≤ 1
 gen : 0 ≤ J.gen ∧ J.gen ≤ 2147483647
 used : 0 ≤ J.used ∧ J.used ≤ 1000000
 first : 0 ≤ J.first ∧ J.first ≤ 1000000000
 dn : J.failed = 0 → D.down = false
 len : es.length ≤ 100000
 pl : ∀ p ∈ es, p.length ≤ 131072
 mx : D.pend.length + (1 + needs es) ≤ 900000
def stepM (D : Dk) (J : Jn) (es : List (List UInt8)) (o : OpR) : Dk × Jn × List (List UInt8) × Int :=
 if o.k.toNat % 3 = 0 then ((appendM D J es (bytesM o.n o.b)).1, (appendM D J es (bytesM o.n o.b)).2.1, (appendM D J es (bytesM o.n o.b)).2.2.1, (appendM D J es (bytesM o.n o.b)).2.2.2.2)
 else if o.k.toNat % 3 = 1 then ((syncM D J es.length).1, (syncM D J es.length).2.1, es, (syncM D J es.length).2.2)
 else truncM D J (J.first + ((o.n % 12 : Nat) : Int) - 2) es
theorem bytesM_length (n : Nat) (f : UInt8) : (bytesM n f).length = n % 1500 := by simp [bytesM]
end Go.Proofs.YtkjlbedebmffgaaGreat.Sx
namespace Go.Proofs.YtkjlbedebmffgaaGreat.Sx
abbrev Sec := List UInt8
def gof (s : Sec) : Option Int := if (dec s).2 = 0 then some (dec s).1.g else none
theorem gof_some {s : Sec} {g : Int} : gof s = some g ↔ (dec s).2 = 0 ∧ (dec s).1.g = g := by
 unfold gof
 split
 ·rename_i h; simp [h]
 ·rename_i h; simp [h]
def Alike (g : Int) (c' c : List Sec) : Prop := c'.length = c.length ∧ ∀ (i : Nat) s, c'[i]? = some s → gof s = some g → c[i]? = some s
theorem Alike.drop {g : Int} {c' c : List Sec} (h : Alike g c' c) (k : Nat) : Alike g (c'.drop k) (c.drop k) := by
 refine ⟨by rw [List.length_drop, List.length_drop, h.1], fun i s hs hg => ?_⟩
 rw [List.getElem?_drop] at hs ⊢
 exact h.2 _ s hs hg
theorem jf_head {ss : List Sec} {f : Pt} : ∀ {r i : Nat} {acc : List UInt8} {q : Rcd} {c : Int}, jf ss f r i acc = (q, c, 0) → q.k = f.k ∧ q.g = f.g ∧ q.n = f.n := by
 intro r
 induction r with
 | zero =>
  intro i acc q c h
  unfold jf at h
  cases h
  exact ⟨rfl, rfl, rfl⟩
 | succ r ih =>
  intro i acc q c h
  unfold jf at h
  split at h
  ·cases h
  ·split at h
   ·rename_i h1 h2
    simp only [Prod.mk.injEq] at h
    exact absurd h.2.2 h2
   ·split at h
    ·cases h
    ·exact ih h
theorem getD_of {c : List Sec} {i : Nat} {s : Sec} (h : c[i]? = some s) : c.getD i [] = s := by simp [List.getD_eq_getElem?_getD, h]
theorem get_of {c : List Sec} {i : Nat} (h : i < c.length) : c[i]? = some (c.getD i []) := by simp [List.getD_eq_getElem?_getD, h]
theorem jf_alike {g : Int} {c' c : List Sec} (ha : Alike g c' c) {f : Pt} (hf : f.g = g) : ∀ {r i : Nat} {acc : List UInt8} {q : Rcd} {n : Int}, jf c' f r i acc = (q, n, 0) → jf c f r i acc = (q, n, 0) := by
 intro r
 induction r with
 | zero => intro i acc q n h; unfold jf at h ⊢; exact h
 | succ r ih =>
  intro i acc q n h
  unfold jf at h
  split at h
  ·cases h
  ·rename_i hl
   split at h
   ·rename_i h2
    simp only [Prod.mk.injEq] at h
    exact absurd h.2.2 h2
   ·rename_i h2
    split at h
    ·cases h
    ·rename_i h3
     have h2' := Decidable.not_not.1 h2
     have hs := get_of (c := c') (i := i) (by omega)
     have hg : (dec (c'.getD i [])).1.g = g := by
      have : ¬ ¬ ((dec (c'.getD i [])).1.k = f.k ∧ (dec (c'.getD i [])).1.g = f.g ∧ (dec (c'.getD i [])).1.n = f.n) := fun k => h3 (.inr (.inl k))
      rw [← hf]
      exact (Decidable.not_not.1 this).2.1
     have hc := getD_of (ha.2 i _ hs (gof_some.2 ⟨h2', hg⟩))
     unfold jf
     rw [hc, if_neg (by rw [← ha.1]; exact hl), if_neg h2, if_neg h3]
     exact ih h
theorem join_head {c : List Sec} {q : Rcd} {n : Int} (h : join c = (q, n, 0)) : 0 < c.length ∧ (dec (c.getD 0 [])).2 = 0 ∧ q.g = (dec (c.getD 0 [])).1.g := by
 unfold join at h
 split at h
 ·cases h
 ·split at h
  ·rename_i h1 h2
   simp only [Prod.mk.injEq] at h
   exact absurd h.2.2 h2
  ·split at h
   ·cases h
   ·rename_i h1 h2 h3
    exact ⟨by omega, Decidable.not_not.1 h2, (jf_head h).2.1⟩
theorem join_alike {g : Int} {c' c : List Sec} (ha : Alike g c' c) {q : Rcd} {n : Int} (h : join c' = (q, n, 0)) (hg : q.g = g) : join c = (q, n, 0) := by
 obtain ⟨h0, h1, h2⟩ := join_head h
 have hc := getD_of (ha.2 0 _ (get_of h0) (gof_some.2 ⟨h1, by rw [← h2, hg]⟩))
 unfold join at h ⊢
 rw [if_neg (by omega), if_neg (fun k => k h1)] at h
 rw [hc, if_neg (by rw [← ha.1]; omega), if_neg (fun k => k h1)]
 split at h
 ·cases h
 ·rename_i h3
  rw [if_neg h3]
  exact jf_alike ha (by rw [← h2, hg]) h
theorem scanF_acc {ss : List Sec} {g n : Int} : ∀ (fuel pos : Nat) (acc : List Rcd), ∃ l, (scanF ss g n fuel pos acc).1 = acc ++ l := by
 intro fuel
 induction fuel with
 | zero => intro pos acc; exact ⟨[], (List.append_nil _).symm⟩
 | succ f ih =>
  intro pos acc
  unfold scanF
  split
  ·exact ⟨[], (List.append_nil _).symm⟩
  ·split
   ·exact ⟨[], (List.append_nil _).symm⟩
   ·split
    ·exact ⟨[], (List.append_nil _).symm⟩
    ·obtain ⟨l, hl⟩ := ih (pos + (join (ss.drop pos)).2.1.toNat) (acc ++ [(join (ss.drop pos)).1])
     exact ⟨_, by rw [hl, List.append_assoc]⟩
theorem scanF_alike {g n : Int} {c' c : List Sec} (ha : Alike g c' c) : ∀ (fuel pos : Nat) (acc : List Rcd), ∃ l, (scanF c g n fuel pos acc).1 = (scanF c' g n fuel pos acc).1 ++ l := by
 intro fuel
 induction fuel with
 | zero => intro pos acc; exact ⟨[], (List.append_nil _).symm⟩
 | succ f ih =>
  intro pos acc
  have hstop : ∀ x, (scanF c' g n (f + 1) pos acc) = (acc, x) → ∃ l, (scanF c g n (f + 1) pos acc).1 = (scanF c' g n (f + 1) pos acc).1 ++ l := by
   intro x hx
   rw [hx]
   exact scanF_acc _ _ _
  by_cases h1 : pos < c'.length
  ·by_cases h2 : (join (c'.drop pos)).2.2 = 0
   ·by_cases h3 : (join (c'.drop pos)).1.g = g ∧ (join (c'.drop pos)).1.n = n + acc.length
    ·have hj : join (c'.drop pos) = ((join (c'.drop pos)).1, (join (c'.drop pos)).2.1, 0) := by rw [← h2]
     have hj2 := join_alike (ha.drop pos) hj h3.1
     rw [scanF_go h1 hj.symm h3, scanF_go (by rw [← ha.1]; exact h1) hj2.symm h3]
     exact ih _ _
    ·exact hstop _ (scanF_seq h1 (q := (join (c'.drop pos)).1) (c := (join (c'.drop pos)).2.1) (by rw [← h2]) h3)
   ·exact hstop _ (scanF_err h1 (q := (join (c'.drop pos)).1) (c := (join (c'.drop pos)).2.1) rfl h2)
  ·exact hstop _ (scanF_end h1)
theorem scan_alike {g : Int} {c' c : List Sec} (ha : Alike g c' c) : ∃ l, (scan g 0 c).1 = (scan g 0 c').1 ++ l := by
 unfold scan
 split
 ·exact ⟨[], rfl⟩
 ·rw [ha.1]
  exact scanF_alike ha _ _ _
theorem scanF_stop {ss : List Sec} {g n : Int} {fuel pos : Nat} {acc : List Rcd} (h : ∀ s, ss[pos]? = some s → ¬ gof s = some g) : (scanF ss g n fuel pos acc).1 = acc := by
 cases fuel with
 | zero => rfl
 | succ f =>
  unfold scanF
  split
  ·rfl
  ·rename_i h1
   split
   ·rfl
   ·rename_i h2
    split
    ·rfl
    ·rename_i h3
     exfalso
     have hj : join (ss.drop pos) = ((join (ss.drop pos)).1, (join (ss.drop pos)).2.1, 0) := by rw [← Decidable.not_not.1 h2]
     obtain ⟨h4, h5, h6⟩ := join_head hj
     have hs := get_of (c := ss) (i := pos) (by omega)
     have hd : (ss.drop pos).getD 0 [] = ss.getD pos [] := by simp [List.getD_eq_getElem?_getD]
     rw [hd] at h5 h6
     exact h _ hs (gof_some.2 ⟨h5, by rw [← h6]; exact (Decidable.not_not.1 h3).1⟩)
theorem scanF_recsK {k g : Int} {ss : List Sec} {fuel : Nat} : ∀ (ps : List Sec) (n n0 : Int) (pos : Nat) (acc : List Rcd) (tail : List Sec), ss.drop pos = recs k g n ps ++ tail → (∀ p ∈ ps, p.length ≤ 131072) → fineP k g n → n + ps.length ≤ 2147483647 →
  n = n0 + acc.length → scanF ss g n0 (fuel + ps.length) pos acc = scanF ss g n0 fuel (pos + needs ps) (acc ++ rcds k g n ps) := by
 intro ps
 induction ps with
 | nil => intro n n0 pos acc tail _ _ _ _ _; simp [needs, rcds]
 | cons p ps ih =>
  intro n n0 pos acc tail hd hp hf hn hacc
  have hp0 := hp p (List.mem_cons_self ..)
  have hnd := need_le hp0
  have hj : join (ss.drop pos) = ((⟨k, g, n, p⟩ : Rcd), ((need p.length : Nat) : Int), (0 : Int)) := join_sects hf hp0 fun j hj => by
   rw [hd, recs, List.append_assoc, List.getElem?_append_left (by rw [sects_length]; exact hj), sects_at hj]
  have hlt : pos < ss.length := by
   have := congrArg List.length hd
   simp only [List.length_drop, recs, List.length_append, sects_length] at this
   omega
  simp only [List.length_cons] at hn
  rw [List.length_cons, ← Nat.add_assoc, scanF_go hlt hj.symm ⟨rfl, hacc⟩, Int.toNat_natCast,
   ih (n + 1) n0 (pos + need p.length) (acc ++ [(⟨k, g, n, p⟩ : Rcd)]) tail (by rw [← List.drop_drop, hd, recs, List.append_assoc, List.drop_left' (sects_length ..)]) (fun q hq => hp q (List.mem_cons_of_mem _ hq)) (by simp only [fineP] at *; omega) (by omega) (by simp only [List.length_append, List.length_singleton]; omega)]
  simp only [needs, rcds, List.append_assoc, List.singleton_append]
  congr 1
  omega
def areaC (g f : Int) (c0 : Nat) (es : List Sec) : List Sec := sects 1 g 0 (headP f c0) ++ recs 2 g 1 es
theorem areaS_C (g f : Int) (es : List Sec) : areaS g f es = areaC g f es.length es := rfl
theorem areaC_length (g f : Int) (c0 : Nat) (es : List Sec) : (areaC g f c0 es).length = 1 + needs es := by
 unfold areaC
 rw [List.length_append, sects_length, headP_length, recs_length]
 rfl
theorem areaC_append (g f : Int) (c0 : Nat) (es ts : List Sec) : areaC g f c0 (es ++ ts) = areaC g f c0 es ++ recs 2 g (1 + es.length) ts := by
 unfold areaC
 rw [recs_append, List.append_assoc]
def rcA (g f : Int) (c0 : Nat) (es : List Sec) : List Rcd := ⟨1, g, 0, headP f c0⟩ :: rcds 2 g 1 es
structure Fine (g : Int) (es : List Sec) : Prop where
 g : 0 ≤ g ∧ g ≤ 2147483647
 l : es.length ≤ 1000000
 p : ∀ p ∈ es, p.length ≤ 131072
theorem scan_run {g f : Int} {c0 : Nat} {es tail c : List Sec} (hf : Fine g es) (hc : c = areaC g f c0 es ++ tail) : ∃ fuel, (scan g 0 c).1 = (scanF c g 0 fuel (1 + needs es) (rcA g f c0 es)).1 := by
 have hl : c.length = 1 + needs es + tail.length := by rw [hc, List.length_append, areaC_length]
 have hn := needs_le es
 have hg := hf.g
 have hln := hf.l
 have h16 := headP_length f c0
 obtain ⟨fu, hfu⟩ : ∃ fu, c.length = (fu + es.length) + 1 := ⟨c.length - es.length - 1, by omega⟩
 refine ⟨fu, ?_⟩
 have hj : join (c.drop 0) = ((⟨1, g, 0, headP f c0⟩ : Rcd), ((need (headP f c0).length : Nat) : Int), (0 : Int)) := join_sects (by simp only [fineP]; omega) (by omega) fun j hj => by
  rw [List.drop_zero, hc]
  unfold areaC
  rw [List.append_assoc, List.getElem?_append_left (by rw [sects_length]; exact hj), sects_at hj]
 have hne : need (headP f c0).length = 1 := by rw [h16]; rfl
 unfold scan
 rw [if_neg (fun k => k (by simp only [fineP]; omega)), hfu, scanF_go (by omega) hj.symm ⟨rfl, rfl⟩, Int.toNat_natCast, hne,
  scanF_recsK es 1 0 (0 + 1) _ tail (by
   rw [hc]
   unfold areaC
   rw [List.append_assoc, List.drop_left' (by rw [sects_length, hne])]) hf.p (by simp only [fineP]; omega) (by omega) rfl]
 rw [Nat.zero_add]
 rfl
theorem scan_ge {g f : Int} {c0 : Nat} {es tail c : List Sec} (hf : Fine g es) (hc : c = areaC g f c0 es ++ tail) : ∃ l, (scan g 0 c).1 = rcA g f c0 es ++ l := by
 obtain ⟨fu, h⟩ := scan_run hf hc
 obtain ⟨l, hl⟩ := scanF_acc (ss := c) (g := g) (n := 0) fu (1 + needs es) (rcA g f c0 es)
 exact ⟨l, by rw [h, hl]⟩
theorem scan_eq {g f : Int} {c0 : Nat} {es tail c : List Sec} (hf : Fine g es) (hc : c = areaC g f c0 es ++ tail) (ht : ∀ s, tail[0]? = some s → ¬ gof s = some g) : (scan g 0 c).1 = rcA g f c0 es := by
 obtain ⟨fu, h⟩ := scan_run hf hc
 rw [h]
 refine scanF_stop fun s hs => ht s ?_
 rw [hc, List.getElem?_append_right (by rw [areaC_length]; omega), areaC_length, Nat.sub_self] at hs
 exact hs
theorem rcds_take (k g : Int) (ps : List Sec) : ∀ (n : Int) (j : Nat), (rcds k g n ps).take j = rcds k g n (ps.take j) := by
 induction ps with
 | nil => intro n j; simp [rcds]
 | cons p ps ih =>
  intro n j
  cases j with
  | zero => rfl
  | succ j => simp [rcds, ih]
theorem rcds_kind (g : Int) (ps : List Sec) : ∀ n, (rcds 2 g n ps).map Rcd.k = List.replicate ps.length 2 := by
 induction ps with
 | nil => intro n; rfl
 | cons p ps ih => intro n; simp [rcds, ih, List.replicate_succ]
theorem rcds_p (k g : Int) (ps : List Sec) : ∀ n, (rcds k g n ps).map Rcd.p = ps := by
 induction ps with
 | nil => intro n; rfl
 | cons p ps ih => intro n; simp [rcds, ih]
theorem bodies_rcds (g n : Int) (ps : List Sec) : bodies (rcds 2 g n ps) = ps.length := by
 unfold bodies
 rw [rcds_kind, List.takeWhile_replicate]
 simp
theorem rcA_prefix {g f : Int} {c0 : Nat} {es : List Sec} {a l : List Rcd} (h : rcA g f c0 es = a ++ l) : a = [] ∨ ∃ k, k ≤ es.length ∧ a = rcA g f c0 (es.take k) := by
 cases a with
 | nil => exact .inl rfl
 | cons r a =>
  right
  simp only [rcA, List.cons_append, List.cons.injEq] at h
  obtain ⟨rfl, h⟩ := h
  refine ⟨min a.length es.length, Nat.min_le_right .., ?_⟩
  have hl : a.length ≤ es.length := by
   have := congrArg List.length h
   rw [rcds_length, List.length_append] at this
   omega
  rw [Nat.min_eq_left hl]
  unfold rcA
  rw [← rcds_take, h, List.take_left' rfl]
end Go.Proofs.YtkjlbedebmffgaaGreat.Sx
namespace Go.Proofs.YtkjlbedebmffgaaGreat.Sx
theorem areaL_rcA {g f : Int} {c0 : Nat} {es : List Sec} (hf : 0 ≤ f ∧ f ≤ 2147483647) (hc : c0 ≤ 2147483647) : areaL g (rcA g f c0 es) = if c0 ≤ es.length then some (g, f, es) else none := by
 have e1 : (headP f c0).take 8 = be f.toNat 8 := by unfold headP; rw [List.take_left' (be_length _ _)]
 have e2 : (headP f c0).drop 8 = be c0 8 := by unfold headP; rw [List.drop_left' (be_length _ _)]
 have v1 : vl (be f.toNat 8) = f.toNat := vl_be_lt (by have : (256 : Nat) ^ 8 = 18446744073709551616 := (by decide); omega)
 have v2 : vl (be c0 8) = c0 := vl_be_lt (by have : (256 : Nat) ^ 8 = 18446744073709551616 := (by decide); omega)
 unfold rcA areaL
 simp only [e1, e2, v1, v2, bodies_rcds, headP_length]
 by_cases h : c0 ≤ es.length
 ·rw [if_pos h, if_pos ⟨trivial, trivial, by omega, by omega, h⟩]
  rw [List.map_take, rcds_p, List.take_of_length_le (Nat.le_refl _), Int.toNat_of_nonneg hf.1]
 ·rw [if_neg h, if_neg (fun k => h k.2.2.2.2)]
theorem gof_len {s : Sec} {g : Int} (h : gof s = some g) : s.length = 256 := by
 have h1 := (gof_some.1 h).1
 exact (dec_fine (p := (dec s).1) (by rw [← h1])).2
theorem gof_bound {s : Sec} {g : Int} (h : gof s = some g) : 0 ≤ g ∧ g ≤ 2147483647 := by
 obtain ⟨h1, rfl⟩ := gof_some.1 h
 have := (dec_fine (bs := s) (p := (dec s).1) (by rw [← h1])).1
 unfold Pt.chk at this
 have h2 := (chk_ok this).1
 simp only [fineP] at h2
 omega
theorem areaM_gen {n γ f : Int} {c es : List Sec} (h : areaM n c = some (γ, f, es)) : gof (c.getD 0 []) = some γ ∧ γ % 2 = n ∧ areaL γ (scan γ 0 c).1 = some (γ, f, es) := by
 unfold areaM at h
 split at h
 ·rename_i h1
  have h2 : (dec (c.getD 0 [])).1.g = γ := by
   unfold areaL at h
   split at h
   ·cases h
   ·split at h
    ·simp only [Option.some.injEq, Prod.mk.injEq] at h
     exact h.1
    ·cases h
  rw [h2] at h h1
  exact ⟨gof_some.2 ⟨h1.1, h2⟩, h1.2, h⟩
 ·cases h
theorem areaM_of {n γ : Int} {c : List Sec} (h : gof (c.getD 0 []) = some γ) (hp : γ % 2 = n) : areaM n c = areaL γ (scan γ 0 c).1 := by
 obtain ⟨h1, h2⟩ := gof_some.1 h
 rw [areaM_scan (by rw [h2]; exact ⟨h1, hp⟩), h2]
theorem areaM_meant_ge {n g f : Int} {c0 k0 : Nat} {es c tail tail' : List Sec} (hf : Fine g es) (hfb : 0 ≤ f ∧ f ≤ 2147483647) (hp : g % 2 = n) (ha : Alike g c (areaC g f c0 es ++ tail)) (ht : ∀ s, tail[0]? = some s → ¬ gof s = some g)
  (hck : c0 ≤ k0 ∧ k0 ≤ es.length) (hc : c = areaC g f c0 (es.take k0) ++ tail') : ∃ k, k0 ≤ k ∧ k ≤ es.length ∧ areaM n c = some (g, f, es.take k) := by
 have hl2 := hf.l
 have hft : Fine g (es.take k0) := ⟨hf.g, by rw [List.length_take]; omega, fun p hp => hf.p p (List.mem_of_mem_take hp)⟩
 have hs0 : c.getD 0 [] = sect 1 g 0 (headP f c0) 0 := by
  apply getD_of
  rw [hc]
  unfold areaC
  rw [List.append_assoc, List.getElem?_append_left (by rw [sects_length, headP_length]; decide), sects_at (by rw [headP_length]; decide)]
 have hg : gof (c.getD 0 []) = some g := by
  rw [hs0]
  have hgg := hf.g
  have := dec_sect (k := 1) (g := g) (n := 0) (p := headP f c0) (i := 0) (by simp only [fineP]; omega) (by rw [headP_length]; decide) (by rw [headP_length]; decide)
  exact gof_some.2 ⟨by rw [this], by rw [this]; rfl⟩
 rw [areaM_of hg hp]
 obtain ⟨l, hl⟩ := scan_alike ha
 obtain ⟨l', hl'⟩ := scan_ge hft hc
 rw [scan_eq hf rfl ht] at hl
 rcases rcA_prefix hl with h | ⟨k, hk, h⟩
 ·rw [h] at hl'; cases hl'
 ·have hkk : k0 ≤ k := by
   rw [h] at hl'
   have := congrArg List.length hl'
   simp only [rcA, List.length_cons, List.length_append, rcds_length, List.length_take] at this
   omega
  rw [h, areaL_rcA hfb (by omega), if_pos (by rw [List.length_take]; omega)]
  exact ⟨k, hkk, hk, rfl⟩
end Go.Proofs.YtkjlbedebmffgaaGreat.Sx
namespace Go.Proofs.YtkjlbedebmffgaaGreat.Sx
def Cand (D : Dk) (a : Int) (s : Sec) : Prop := s = (D.dur a).s ∨ ∃ w ∈ D.pend, w.1 = a ∧ s = w.2.s
theorem applyW_or (l : List (Int × Sct)) : ∀ (f : Int → Sct) (a : Int), applyW f l a = f a ∨ ∃ w ∈ l, w.1 = a ∧ applyW f l a = w.2 := by
 induction l with
 | nil => intro f a; exact .inl rfl
 | cons p l ih =>
  intro f a
  show applyW (put f p.1 p.2) l a = f a ∨ _
  rcases ih (put f p.1 p.2) a with h | ⟨w, hw, h1, h2⟩
  ·by_cases hp : a = p.1
   ·right
    refine ⟨p, List.mem_cons_self .., hp.symm, ?_⟩
    show applyW (put f p.1 p.2) l a = p.2
    rw [h]; unfold put; rw [if_pos hp]
   ·left
    rw [h]; unfold put; rw [if_neg hp]
  ·exact .inr ⟨w, List.mem_cons_of_mem _ hw, h1, h2⟩
theorem cand_vis (D : Dk) (a : Int) : Cand D a (D.vis a).s := by
 rcases applyW_or D.pend D.dur a with h | ⟨w, hw, h1, h2⟩
 ·exact .inl (by unfold Dk.vis; rw [h])
 ·exact .inr ⟨w, hw, h1, by unfold Dk.vis; rw [h2]⟩
theorem op_ok {D : Dk} (h : D.operate.2 = 0) : D.operate.1.down = D.down ∧ D.operate.1.lim = D.lim := by
 unfold Dk.operate at h ⊢
 split
 ·rename_i h1; rw [if_pos h1] at h; cases h
 ·exact ⟨rfl, rfl⟩
theorem op_fail {D : Dk} (h : ¬ D.operate.2 = 0) : D.operate.2 = 28 ∧ D.operate.1.down = true ∧ D.lim = true := by
 unfold Dk.operate at h ⊢
 split
 ·rename_i h1; exact ⟨rfl, rfl, h1.1⟩
 ·rename_i h1; rw [if_neg h1] at h; exact absurd rfl h
theorem write_cases {D : Dk} {a : Int} {x : Sec} (hd : D.down = false) (ha : 0 ≤ a ∧ a < D.n) (hx : x.length = 256) :
  ((D.write a x).2 = 0 ∧ (D.write a x).1.down = false ∧ (D.write a x).1.lim = D.lim ∧ (D.write a x).1.pend = D.pend ++ [(a, ⟨x, hx⟩)]) ∨ ((D.write a x).2 = 28 ∧ (D.write a x).1.down = true ∧ (D.write a x).1.pend = D.pend ∧ D.lim = true) := by
 have hk := op_keep D
 unfold Dk.write
 rw [if_neg (by rw [hd]; decide), if_neg (fun k => k ha), dif_pos hx]
 by_cases h : D.operate.2 = 0
 ·left
  rw [if_pos h]
  have := op_ok h
  exact ⟨rfl, by rw [← hd]; exact this.1, this.2, rfl⟩
 ·right
  rw [if_neg h]
  have := op_fail h
  exact ⟨this.1, this.2.1, hk.2.1, this.2.2⟩
theorem vis_put {D D' : Dk} {a : Int} {x : Sct} (hd : D'.dur = D.dur) (hp : D'.pend = D.pend ++ [(a, x)]) (b : Int) : D'.vis b = if b = a then x else D.vis b := by
 unfold Dk.vis
 rw [hd, hp, applyW_append]
 rfl
theorem cand_put {D D' : Dk} {a : Int} {x : Sct} (hd : D'.dur = D.dur) (hp : D'.pend = D.pend ++ [(a, x)]) {b : Int} {s : Sec} (h : Cand D' b s) : Cand D b s ∨ b = a ∧ s = x.s := by
 rcases h with h | ⟨w, hw, h1, h2⟩
 ·exact .inl (.inl (by rw [h, hd]))
 ·rw [hp] at hw
  rcases List.mem_append.1 hw with hw | hw
  ·exact .inl (.inr ⟨w, hw, h1, h2⟩)
  ·rw [List.mem_singleton.1 hw] at h1 h2
   exact .inr ⟨h1.symm, h2⟩
theorem putM_cases {ss : List Sec} : ∀ {D : Dk} {a : Int}, D.down = false → 0 ≤ a → a + ss.length ≤ D.n → (∀ s ∈ ss, s.length = 256) →
  (((putM D a ss).2 = 0 ∧ (putM D a ss).1.down = false ∧ (putM D a ss).1.lim = D.lim ∧ (∀ (i : Nat) s, ss[i]? = some s → ((putM D a ss).1.vis (a + i)).s = s) ∧ (∀ b, (b < a ∨ a + ss.length ≤ b) → (putM D a ss).1.vis b = D.vis b)) ∨
   ((putM D a ss).2 = 28 ∧ (putM D a ss).1.down = true ∧ D.lim = true)) ∧ (∀ b s, Cand (putM D a ss).1 b s → Cand D b s ∨ ∃ i : Nat, ss[i]? = some s ∧ b = a + i) := by
 induction ss with
 | nil =>
  intro D a hd _ _ _
  exact ⟨.inl ⟨rfl, hd, rfl, fun i s h => by simp at h, fun b _ => rfl⟩, fun b s h => .inl h⟩
 | cons x ss ih =>
  intro D a hd ha hle hs
  rw [List.length_cons] at hle
  have hx := hs x (List.mem_cons_self ..)
  have hk := write_keep D a x
  simp only [putM]
  rcases write_cases hd ⟨ha, by omega⟩ hx with ⟨h1, h2, h3, h4⟩ | ⟨h1, h2, h3, h4⟩
  ·rw [if_pos h1]
   have hn := hk.1
   obtain ⟨ih1, ih2⟩ := ih (D := (D.write a x).1) (a := a + 1) h2 (by omega) (by rw [hn]; omega) (fun s h => hs s (List.mem_cons_of_mem _ h))
   refine ⟨?_, fun b s h => ?_⟩
   ·rcases ih1 with ⟨g1, g2, g3, g4, g5⟩ | ⟨g1, g2, g3⟩
    ·refine .inl ⟨g1, g2, by rw [g3, h3], fun i s hi => ?_, fun b hb => ?_⟩
     ·cases i with
      | zero =>
       simp only [List.getElem?_cons_zero, Option.some.injEq] at hi
       subst hi
       rw [g5 (a + ((0 : Nat) : Int)) (.inl (by omega)), vis_put hk.2.1 h4, if_pos (by omega)]
      | succ i =>
       rw [List.getElem?_cons_succ] at hi
       have := g4 i s hi
       rw [show a + ((i + 1 : Nat) : Int) = a + 1 + (i : Int) by omega]
       exact this
     ·rw [List.length_cons] at hb
      rw [g5 b (by omega), vis_put hk.2.1 h4, if_neg (by omega)]
    ·exact .inr ⟨g1, g2, by rw [← h3]; exact g3⟩
   ·rcases ih2 b s h with h | ⟨i, hi, hb⟩
    ·rcases cand_put hk.2.1 h4 h with h | ⟨hb, hs⟩
     ·exact .inl h
     ·exact .inr ⟨0, by rw [hs]; rfl, by omega⟩
    ·exact .inr ⟨i + 1, by rw [List.getElem?_cons_succ]; exact hi, by omega⟩
  ·rw [if_neg (by rw [h1]; decide)]
   refine ⟨.inr ⟨h1, h2, h4⟩, fun b s h => .inl ?_⟩
   unfold Cand at h ⊢
   rw [hk.2.1, h3] at h
   exact h
theorem flush_cases {D : Dk} (hd : D.down = false) : (D.flush.2 = 0 ∧ D.flush.1.down = false ∧ D.flush.1.lim = D.lim ∧ D.flush.1.pend = [] ∧ D.flush.1.dur = D.vis ∧ D.flush.1.n = D.n) ∨ (D.flush.2 = 28 ∧ D.flush.1.down = true ∧ D.lim = true ∧ D.flush.1.pend = D.pend ∧ D.flush.1.dur = D.dur ∧ D.flush.1.n = D.n) := by
 have hk := op_keep D
 by_cases h : D.operate.2 = 0
 ·left
  rw [flush_ok hd h]
  have := op_ok h
  exact ⟨rfl, by rw [← hd]; exact this.1, this.2, rfl, rfl, hk.2.2⟩
 ·right
  rw [flush_op hd h]
  have := op_fail h
  exact ⟨this.1, this.2.1, this.2.2, hk.2.1, hk.1, hk.2.2⟩
theorem cand_flush {D : Dk} (hd : D.down = false) {a : Int} {s : Sec} (h : Cand D.flush.1 a s) : Cand D a s := by
 rcases flush_cases hd with ⟨_, _, _, h4, h5, _⟩ | ⟨_, _, _, h4, h5, _⟩
 ·rcases h with h | ⟨w, hw, _⟩
  ·rw [h, h5]; exact cand_vis D a
  ·rw [h4] at hw; cases hw
 ·unfold Cand at h ⊢
  rw [h4, h5] at h
  exact h
theorem writeM_cases {D : Dk} {base g f : Int} {es : List Sec} (hd : D.down = false) (hb : 0 ≤ base) (hle : base + (1 + needs es : Nat) ≤ D.n) (hs : ∀ s ∈ areaS g f es, s.length = 256) :
  (((writeM D base g f es).2.2 = 0 ∧ (writeM D base g f es).2.1 = ((1 + needs es : Nat) : Int) ∧ (writeM D base g f es).1.down = false ∧ (writeM D base g f es).1.lim = D.lim ∧ (writeM D base g f es).1.pend = [] ∧
    (∀ (i : Nat) s, (areaS g f es)[i]? = some s → ((writeM D base g f es).1.dur (base + i)).s = s) ∧ (∀ b, (b < base ∨ base + (1 + needs es : Nat) ≤ b) → (writeM D base g f es).1.dur b = D.vis b)) ∨
   ((writeM D base g f es).2.2 = 28 ∧ (writeM D base g f es).1.down = true ∧ D.lim = true)) ∧ (∀ b s, Cand (writeM D base g f es).1 b s → Cand D b s ∨ ∃ i : Nat, (areaS g f es)[i]? = some s ∧ b = base + i) ∧ (writeM D base g f es).1.n = D.n := by
 have hal := areaS_length g f es
 have hk := putM_keep (ss := areaS g f es) D base
 obtain ⟨h1, h2⟩ := putM_cases (ss := areaS g f es) hd hb (by rw [hal]; exact hle) hs
 unfold writeM
 rw [hal] at *
 rcases h1 with ⟨g1, g2, g3, g4, g5⟩ | ⟨g1, g2, g3⟩
 ·rw [if_pos g1]
  have hfc := flush_cases g2
  refine ⟨?_, fun b s h => h2 b s (cand_flush g2 h), ?_⟩
  ·rcases hfc with ⟨f1, f2, f3, f4, f5, f6⟩ | ⟨f1, f2, f3, f4, f5, f6⟩
   ·exact .inl ⟨f1, rfl, f2, by rw [f3, g3], f4, fun i s hi => by rw [f5]; exact g4 i s hi, fun b hb => by rw [f5]; exact g5 b hb⟩
   ·exact .inr ⟨f1, f2, by rw [← g3]; exact f3⟩
  ·rcases hfc with ⟨f1, f2, f3, f4, f5, f6⟩ | ⟨f1, f2, f3, f4, f5, f6⟩
   ·rw [f6]; exact hk.1
   ·rw [f6]; exact hk.1
 ·rw [if_neg (by rw [g1]; decide)]
  exact ⟨.inr ⟨g1, g2, g3⟩, h2, hk.1⟩
theorem nstep_ge (n g : Int) (s : Sec) : g ≤ nstep n g s ∧ ∀ g', gof s = some g' → g' < nstep n g s ∨ g' < g := by
 unfold nstep
 split
 ·rename_i h
  have : 0 ≤ ((dec s).1.g + 1 + n) % 2 := Int.emod_nonneg _ (by decide)
  refine ⟨by omega, fun g' hg => .inl ?_⟩
  rw [(gof_some.1 hg).2.symm]
  omega
 ·rename_i h
  refine ⟨Int.le_refl _, fun g' hg => .inr ?_⟩
  obtain ⟨h1, rfl⟩ := gof_some.1 hg
  exact Decidable.byContradiction fun k => h ⟨h1, by omega⟩
theorem nextF_facts {n : Int} (ss : List Sec) : ∀ (g : Int), g ≤ ss.foldl (nstep n) g ∧ ∀ s ∈ ss, ∀ g', gof s = some g' → g' < ss.foldl (nstep n) g := by
 induction ss with
 | nil => intro g; exact ⟨Int.le_refl _, fun s hs => by cases hs⟩
 | cons x ss ih =>
  intro g
  obtain ⟨h1, h2⟩ := nstep_ge n g x
  obtain ⟨h3, h4⟩ := ih (nstep n g x)
  refine ⟨Int.le_trans h1 h3, fun s hs g' hg => ?_⟩
  rcases List.mem_cons.1 hs with rfl | hs
  ·rcases h2 g' hg with h | h
   ·exact Int.lt_of_lt_of_le h h3
   ·exact Int.lt_of_lt_of_le (Int.lt_of_lt_of_le h h1) h3
  ·exact h4 s hs g' hg
theorem nstep_par {n g : Int} (s : Sec) (h : (g + n) % 2 = 0) : (nstep n g s + n) % 2 = 0 := by
 unfold nstep
 split <;> omega
theorem nextF_par {n : Int} (ss : List Sec) : ∀ (g : Int), (g + n) % 2 = 0 → (ss.foldl (nstep n) g + n) % 2 = 0 := by
 induction ss with
 | nil => intro g h; exact h
 | cons x ss ih => intro g h; exact ih _ (nstep_par x h)
theorem nstep_up {n g B : Int} {s : Sec} (hn : 0 ≤ n ∧ n ≤ 1) (hg : g ≤ B + 2) (h : ∀ g', gof s = some g' → g' ≤ B) : nstep n g s ≤ B + 2 := by
 unfold nstep
 split
 ·rename_i h1
  have := h _ (gof_some.2 ⟨h1.1, rfl⟩)
  omega
 ·exact hg
theorem nextF_up {n B : Int} (hn : 0 ≤ n ∧ n ≤ 1) (ss : List Sec) : ∀ (g : Int), g ≤ B + 2 → (∀ s ∈ ss, ∀ g', gof s = some g' → g' ≤ B) → ss.foldl (nstep n) g ≤ B + 2 := by
 induction ss with
 | nil => intro g h _; exact h
 | cons x ss ih => intro g h hB; exact ih _ (nstep_up hn h (hB x (List.mem_cons_self ..))) fun s hs => hB s (List.mem_cons_of_mem _ hs)
theorem nextM_facts {n B : Int} {ss : List Sec} (hn : n = 0 ∨ n = 1) (hB : -1 ≤ B ∧ B ≤ 2000000000) (h : ∀ s ∈ ss, ∀ g', gof s = some g' → g' ≤ B) :
  ∃ g, nextM n ss = (g, 0) ∧ g % 2 = n ∧ 0 ≤ g ∧ g ≤ B + 2 ∧ ∀ s ∈ ss, ∀ g', gof s = some g' → g' < g := by
 have h1 := nextF_facts (n := n) ss n
 have h2 := nextF_par (n := n) ss n (by omega)
 have h3 := nextF_up (n := n) (B := B) (by omega) ss n (by omega) h
 refine ⟨nextF n ss, ?_, ?_, ?_, h3, h1.2⟩
 ·unfold nextM
  rw [if_neg (by unfold nextF; omega)]
 ·unfold nextF; omega
 ·unfold nextF; omega
theorem mem_seen {D : Dk} {a : Int} {k : Nat} {s : Sec} : s ∈ D.seen a k ↔ ∃ i : Nat, i < k ∧ (D.vis (a + i)).s = s := by simp [Dk.seen]
theorem seen_at {D : Dk} {a : Int} {k i : Nat} (h : i < k) : (D.seen a k)[i]? = some (D.vis (a + i)).s := by simp [Dk.seen, h]
theorem seen_length (D : Dk) (a : Int) (k : Nat) : (D.seen a k).length = k := by simp [Dk.seen]
theorem sects_256 {k g n : Int} {p : Sec} (hf : fineP k g n) (hp : p.length ≤ 131072) : ∀ s ∈ sects k g n p, s.length = 256 := by
 intro s hs
 obtain ⟨i, hi, rfl⟩ := List.mem_map.1 hs
 have := dec_sect hf hp (List.mem_range.1 hi)
 exact gof_len (g := g) (gof_some.2 ⟨by rw [this], by rw [this]; rfl⟩)
theorem sects_gof {k g n : Int} {p : Sec} (hf : fineP k g n) (hp : p.length ≤ 131072) : ∀ s ∈ sects k g n p, gof s = some g := by
 intro s hs
 obtain ⟨i, hi, rfl⟩ := List.mem_map.1 hs
 have := dec_sect hf hp (List.mem_range.1 hi)
 exact gof_some.2 ⟨by rw [this], by rw [this]; rfl⟩
theorem recs_gof {k g : Int} {es : List Sec} : ∀ {n : Int}, (∀ p ∈ es, p.length ≤ 131072) → fineP k g n → n + es.length ≤ 2147483647 → ∀ s ∈ recs k g n es, gof s = some g := by
 induction es with
 | nil => intro n _ _ _ s hs; cases hs
 | cons p es ih =>
  intro n hp hf hn s hs
  rw [List.length_cons] at hn
  rcases List.mem_append.1 hs with h | h
  ·exact sects_gof hf (hp p (List.mem_cons_self ..)) s h
  ·exact ih (fun q hq => hp q (List.mem_cons_of_mem _ hq)) (by simp only [fineP] at *; omega) (by omega) s h
theorem areaC_gof {g f : Int} {c0 : Nat} {es : List Sec} (hf : Fine g es) : ∀ s ∈ areaC g f c0 es, gof s = some g := by
 intro s hs
 have hg := hf.g
 have hl := hf.l
 rcases List.mem_append.1 hs with h | h
 ·exact sects_gof (by simp only [fineP]; omega) (by rw [headP_length]; decide) s h
 ·exact recs_gof hf.p (by simp only [fineP]; omega) (by omega) s h
theorem areaC_256 {g f : Int} {c0 : Nat} {es : List Sec} (hf : Fine g es) : ∀ s ∈ areaC g f c0 es, s.length = 256 := fun s hs => gof_len (areaC_gof hf s hs)
end Go.Proofs.YtkjlbedebmffgaaGreat.Sx
namespace Go.Proofs.YtkjlbedebmffgaaGreat.Sx
def Jn.base (J : Jn) (k : Nat) : Int := J.fi + J.cur * ((k / 2 : Nat) : Int)
structure Geo (k : Nat) (N : Int) (D : Dk) (J : Jn) : Prop where
 se : J.se = k
 k8 : 8 ≤ k
 fi : 0 ≤ J.fi
 top : J.fi + k ≤ D.n
 n : D.n ≤ 1000
 cur : J.cur = 0 ∨ J.cur = 1
 gb : 0 ≤ J.gen ∧ J.gen ≤ N
 fb : 0 ≤ J.first ∧ J.first ≤ N
structure Strong (k : Nat) (N : Int) (D : Dk) (J : Jn) (es : List Sec) (c0 k0 : Nat) : Prop where
 geo : Geo k N D J
 dn : D.down = false
 fl : J.failed = 0
 par : J.gen % 2 = J.cur
 used : J.used = ((1 + needs es : Nat) : Int)
 fit : 1 + needs es ≤ k / 2
 ck : c0 ≤ k0 ∧ k0 ≤ es.length
 sy : J.synced = J.first + k0
 pl : ∀ p ∈ es, p.length ≤ 100000
 A : ∀ (i : Nat) s, i < k / 2 → Cand D (J.base k + i) s → (areaC J.gen J.first c0 es)[i]? = some s ∨ ¬ gof s = some J.gen
 V : ∀ (i : Nat) s, (areaC J.gen J.first c0 es)[i]? = some s → (D.vis (J.base k + i)).s = s
 Y : ∀ (i : Nat) s, (areaC J.gen J.first c0 (es.take k0))[i]? = some s → ∀ s', Cand D (J.base k + i) s' → s' = s
 B : ∀ a s g', J.fi ≤ a → a < J.fi + k → Cand D a s → gof s = some g' → g' ≤ J.gen
 O : ∀ a s g', J.fi ≤ a → a < J.fi + k → ¬ (J.base k ≤ a ∧ a < J.base k + ((k / 2 : Nat) : Int)) → Cand D a s → gof s = some g' → g' < J.gen
theorem Geo.lo {k : Nat} {N : Int} {D : Dk} {J : Jn} (h : Geo k N D J) : J.fi ≤ J.base k ∧ J.base k + ((k / 2 : Nat) : Int) ≤ J.fi + ((2 * (k / 2) : Nat) : Int) ∧ J.base k + ((k / 2 : Nat) : Int) ≤ J.fi + k := by
 unfold Jn.base
 rcases h.cur with e | e <;> rw [e] <;> omega
theorem fine_pl {g : Int} {es : List Sec} {k : Nat} (hg : 0 ≤ g ∧ g ≤ 2147483647) (hn : 1 + needs es ≤ k / 2) (hk : k ≤ 1000) (hp : ∀ p ∈ es, p.length ≤ 100000) : Fine g es :=
 ⟨hg, by have := needs_le es; omega, fun p h => Nat.le_trans (hp p h) (by decide)⟩
theorem Geo.k {k : Nat} {N : Int} {D : Dk} {J : Jn} (h : Geo k N D J) : k ≤ 1000 := by have := h.fi; have := h.top; have := h.n; omega
theorem Strong.fine {k : Nat} {N : Int} {D : Dk} {J : Jn} {es : List Sec} {c0 k0 : Nat} (h : Strong k N D J es c0 k0) (hN : N ≤ 1000000) : Fine J.gen es :=
 fine_pl (by have := h.geo.gb; omega) h.fit h.geo.k h.pl
theorem cand_nil {D : Dk} (hp : D.pend = []) {a : Int} {s : Sec} (h : Cand D a s) : s = (D.dur a).s := by
 rcases h with h | ⟨w, hw, _⟩
 ·exact h
 ·rw [hp] at hw; cases hw
theorem vis_nil {D : Dk} (hp : D.pend = []) (a : Int) : D.vis a = D.dur a := by unfold Dk.vis; rw [hp]; rfl
theorem change_cases {k : Nat} {N B : Int} {D : Dk} {J : Jn} (hg : Geo k N D J) (hd : D.down = false) (hfl : J.failed = 0) (hB : -1 ≤ B ∧ B ≤ 1000000) (hN : N ≤ 1000000) (hv : ∀ a g', J.fi ≤ a → a < J.fi + k → gof (D.vis a).s = some g' → g' ≤ B)
  {f : Int} {es : List Sec} (hf : 0 ≤ f ∧ f ≤ 1000000) (hfit : 1 + needs es ≤ k / 2) (hpl : ∀ p ∈ es, p.length ≤ 100000) {N' : Int} (hN' : B + 2 ≤ N' ∧ f ≤ N') :
  ∃ g, g % 2 = 1 - J.cur ∧ 0 ≤ g ∧ g ≤ B + 2 ∧ (∀ a g', J.fi ≤ a → a < J.fi + k → gof (D.vis a).s = some g' → g' < g) ∧ (changeM D J f es).1.n = D.n ∧
   (((changeM D J f es).2.2 = 0 ∧ (changeM D J f es).2.1.gen = g ∧ (changeM D J f es).2.1.first = f ∧ (changeM D J f es).2.1.cur = 1 - J.cur ∧ (changeM D J f es).2.1.fi = J.fi ∧ (changeM D J f es).1.lim = D.lim ∧ (changeM D J f es).1.pend = [] ∧
     Strong k N' (changeM D J f es).1 (changeM D J f es).2.1 es es.length es.length ∧ (∀ b, (b < J.fi + (1 - J.cur) * ((k / 2 : Nat) : Int) ∨ J.fi + (1 - J.cur) * ((k / 2 : Nat) : Int) + ((k / 2 : Nat) : Int) ≤ b) → (changeM D J f es).1.dur b = D.vis b)) ∨
       ((changeM D J f es).2.2 = 28 ∧ (changeM D J f es).2.1 = J ∧ (changeM D J f es).1.down = true ∧ D.lim = true ∧
     ∀ b s, Cand (changeM D J f es).1 b s → Cand D b s ∨ ∃ i : Nat, (areaS g f es)[i]? = some s ∧ b = J.fi + (1 - J.cur) * ((k / 2 : Nat) : Int) + i)) := by
 have hk := hg.k
 have hse := hg.se
 have h8 := hg.k8
 have hfi := hg.fi
 have htop := hg.top
 have hst : J.se.toNat = k := by rw [hse, Int.toNat_natCast]
 have hoc : 1 - J.cur = 0 ∨ 1 - J.cur = 1 := by rcases hg.cur with e | e <;> rw [e] <;> decide
 obtain ⟨g, hg1, hg2, hg3, hg4, hg5⟩ := nextM_facts (n := 1 - J.cur) (B := B) (ss := D.seen J.fi k) hoc (by omega) (fun s hs g' h => by
  obtain ⟨i, hi, rfl⟩ := mem_seen.1 hs
  exact hv _ g' (by omega) (by omega) h)
 have hnew : ∀ a g', J.fi ≤ a → a < J.fi + k → gof (D.vis a).s = some g' → g' < g := fun a g' h1 h2 h => by
  refine hg5 (D.vis a).s (mem_seen.2 ⟨(a - J.fi).toNat, by omega, ?_⟩) g' h
  rw [show J.fi + (((a - J.fi).toNat : Nat) : Int) = a by omega]
 have hfine : Fine g es := fine_pl (by omega) hfit hk hpl
 have hob : 0 ≤ (1 - J.cur) * ((k / 2 : Nat) : Int) ∧ (1 - J.cur) * ((k / 2 : Nat) : Int) + ((k / 2 : Nat) : Int) ≤ k := by
  rcases hoc with e | e <;> rw [e] <;> omega
 obtain ⟨base, hbase⟩ : ∃ base, base = J.fi + (1 - J.cur) * ((k / 2 : Nat) : Int) := ⟨_, rfl⟩
 obtain ⟨hw, hwc, hwn⟩ := writeM_cases (D := D) (base := base) (g := g) (f := f) (es := es) hd (by omega) (by omega) (by rw [areaS_C]; exact areaC_256 hfine)
 have hg1' : (g, (0 : Int)) = nextM (1 - J.cur) (D.seen J.fi J.se.toNat) := by rw [hst, hg1]
 have hb' : base = J.fi + (1 - J.cur) * ((J.se.toNat / 2 : Nat) : Int) := by rw [hst]; exact hbase
 refine ⟨g, hg2, hg3, hg4, hnew, ?_⟩
 rw [← hbase]
 rcases hw with ⟨w1, w2, w3, w4, w5, w6, w7⟩ | ⟨w1, w2, w3⟩
 ·rw [changeM_ok hg1' hb' w1]
  refine ⟨hwn, .inl ⟨rfl, rfl, rfl, rfl, rfl, w4, w5, ?_, fun b hb => w7 b (by omega)⟩⟩
  have hbj : Jn.base { J with cur := 1 - J.cur, gen := g, first := f, used := (writeM D base g f es).2.1, synced := f + es.length } k = base := by unfold Jn.base; exact hbase.symm
  have hal := areaC_length g f es.length es
  have hcd : ∀ a s, Cand (writeM D base g f es).1 a s → s = ((writeM D base g f es).1.dur a).s := fun a s h => cand_nil w5 h
  have hold : ∀ a s g', J.fi ≤ a → a < J.fi + k → (a < base ∨ base + (1 + needs es : Nat) ≤ a) → Cand (writeM D base g f es).1 a s → gof s = some g' → g' < g := fun a s g' h1 h2 h3 h4 h5 => by
   rw [hcd a s h4, w7 a h3] at h5
   exact hnew a g' h1 h2 h5
  have hin : ∀ (i : Nat), i < 1 + needs es → ∃ s, (areaS g f es)[i]? = some s ∧ ((writeM D base g f es).1.dur (base + i)).s = s := fun i hi => by
   have := areaS_length g f es
   have h2 := get_of (c := areaS g f es) (i := i) (by omega)
   exact ⟨_, h2, w6 i _ h2⟩
  refine { geo := ⟨hse, h8, hfi, by rw [hwn]; exact htop, by rw [hwn]; exact hg.n, hoc, ⟨hg3, by simp only []; omega⟩, ⟨hf.1, by simp only []; omega⟩⟩, dn := w3, fl := hfl, par := hg2, used := w2, fit := hfit, ck := ⟨Nat.le_refl _, Nat.le_refl _⟩, sy := rfl, pl := hpl, A := ?_, V := ?_, Y := ?_, B := ?_, O := ?_ }
  ·intro i s hi h
   rw [hbj] at h
   by_cases hlt : i < 1 + needs es
   ·obtain ⟨s', h1, h2⟩ := hin i hlt
    rw [hcd _ _ h, h2]
    exact .inl h1
   ·refine .inr fun hgs => ?_
    have := hold (base + i) s g (by omega) (by omega) (by omega) h hgs
    omega
  ·intro i s h
   rw [hbj, vis_nil w5]
   exact w6 i s h
  ·intro i s h s' h'
   rw [List.take_of_length_le (Nat.le_refl _)] at h
   rw [hbj] at h'
   rw [hcd _ _ h']
   exact w6 i s h
  ·intro a s g' h1 h2 h3 h4
   by_cases hlt : a < base ∨ base + (1 + needs es : Nat) ≤ a
   ·have := hold a s g' h1 h2 hlt h3 h4
    simp only []; omega
   ·obtain ⟨s', k1, k2⟩ := hin (a - base).toNat (by omega)
    rw [show base + (((a - base).toNat : Nat) : Int) = a by omega] at k2
    rw [hcd _ _ h3, k2, areaC_gof (f := f) (c0 := es.length) hfine s' (List.mem_of_getElem? k1)] at h4
    simp only [Option.some.injEq] at h4
    simp only []; omega
  ·intro a s g' h1 h2 h3 h4 h5
   rw [hbj] at h3
   exact hold a s g' h1 h2 (by omega) h4 h5
 ·rw [changeM_write hg1' hb' (by rw [w1]; decide)]
  exact ⟨hwn, .inr ⟨w1, rfl, w2, w3, hwc⟩⟩
end Go.Proofs.YtkjlbedebmffgaaGreat.Sx
