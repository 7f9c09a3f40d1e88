import Derived.Test.YtkjlbedebmffgaaMf
import Derived.Test.YtkjlbedebmffgaaMd
set_option linter.unusedVariables false
set_option linter.unusedSimpArgs false
namespace Go.Proofs.Ytkjlbedebmffgaa.Sx
open Go.RowKit Go.Proofs.Ytkjlbedebmffgaa.Ty
attribute [local irreducible] blk own rd rx frameC

theorem split_ok {k g n : Int} {p : List UInt8} (hf : fineP k g n) (hp : p.length ≤ 131072) : split k g n p = (sects k g n p, 0) := by
  unfold split; rw [if_neg (fun h => h hf), if_neg (by omega)]
/-- The sectors of an area: its head, its entries. -/
def headP (first : Int) (c : Nat) : List UInt8 := be first.toNat 8 ++ be c 8
def areaS (g first : Int) (es : List (List UInt8)) : List (List UInt8) := sects 1 g 0 (headP first es.length) ++ recs 2 g 1 es
def writeM (D : Dk) (base g first : Int) (es : List (List UInt8)) : Dk × Int × Int :=
  if (putM D base (areaS g first es)).2 = 0 then ((putM D base (areaS g first es)).1.flush.1, ((areaS g first es).length : Int), (putM D base (areaS g first es)).1.flush.2)
  else ((putM D base (areaS g first es)).1, 0, (putM D base (areaS g first es)).2)
def bodyRs (g : Int) : Int → List Bs → List Rs
  | _, [] => []
  | n, r :: rs => ⟨2, g, n, r⟩ :: bodyRs g (n + 1) rs
def recSs (l : List Rs) : List (List UInt8) := l.flatMap fun r => sects r.k r.g r.n r.b.s
theorem bodyRs_snoc (g : Int) (rs : List Bs) (r : Bs) : ∀ n, bodyRs g n (rs ++ [r]) = bodyRs g n rs ++ [⟨2, g, n + rs.length, r⟩] := by
  induction rs with
  | nil => intro n; simp [bodyRs]
  | cons x rs ih =>
    intro n
    simp only [List.cons_append, bodyRs, ih, List.length_cons]
    congr 4
    omega
theorem bodyRs_length (g : Int) (rs : List Bs) : ∀ n, (bodyRs g n rs).length = rs.length := by
  induction rs with
  | nil => intro n; rfl
  | cons x rs ih => intro n; simp [bodyRs, ih]
theorem bodyRs_mem {g : Int} {rs : List Bs} : ∀ {n : Int} {r : Rs}, r ∈ bodyRs g n rs → r.k = 2 ∧ r.g = g ∧ n ≤ r.n ∧ r.n < n + rs.length ∧ r.b ∈ rs := by
  induction rs with
  | nil => intro n r h; cases h
  | cons x rs ih =>
    intro n r h
    simp only [bodyRs, List.mem_cons] at h
    rcases h with rfl | h
    · exact ⟨rfl, rfl, Int.le_refl _, by simp only [List.length_cons]; omega, List.mem_cons_self ..⟩
    · obtain ⟨h1, h2, h3, h4, h5⟩ := ih h
      exact ⟨h1, h2, by omega, by simp only [List.length_cons]; omega, List.mem_cons_of_mem _ h5⟩
theorem bodyRs_ss (g : Int) (rs : List Bs) : ∀ n, recSs (bodyRs g n rs) = recs 2 g n (rs.map Bs.s) := by
  induction rs with
  | nil => intro n; rfl
  | cons x rs ih =>
    intro n
    have e := ih (n + 1)
    unfold recSs at e ⊢
    simp only [bodyRs, List.flatMap_cons, List.map_cons, recs, e]
theorem recSs_snoc {l : List Rs} {i : Nat} {r : Rs} (h : l[i]? = some r) : recSs (l.take (i + 1)) = recSs (l.take i) ++ sects r.k r.g r.n r.b.s := by
  rw [take_snoc h]; simp [recSs]
theorem recSs_split (l : List Rs) (i : Nat) : recSs l = recSs (l.take i) ++ recSs (l.drop i) := by
  unfold recSs
  rw [← List.flatMap_append, List.take_append_drop]
def rlOf (g : Int) (hb : Bs) (rs : List Bs) : List Rs := ⟨1, g, 0, hb⟩ :: bodyRs g 1 rs
theorem rlOf_length (g : Int) (hb : Bs) (rs : List Bs) : (rlOf g hb rs).length = rs.length + 1 := by simp [rlOf, bodyRs_length]
theorem rlOf_bs (g : Int) (hb : Bs) (rs : List Bs) : ∀ r ∈ rlOf g hb rs, r.b ∈ hb :: rs := by
  intro r hr
  rcases List.mem_cons.1 hr with rfl | hr
  · exact List.mem_cons_self ..
  · exact List.mem_cons_of_mem _ (bodyRs_mem hr).2.2.2.2
theorem headP_length (f : Int) (c : Nat) : (headP f c).length = 16 := by simp [headP]
theorem areaS_eq {g f : Int} {hb : Bs} {rs : List Bs} (h : hb.s = headP f rs.length) : recSs (rlOf g hb rs) = areaS g f (rs.map Bs.s) := by
  have e := bodyRs_ss g rs 1
  unfold recSs at e ⊢
  simp only [rlOf, List.flatMap_cons, e, h, areaS, List.length_map]
theorem rlOf_fine {g : Int} {hb : Bs} {rs : List Bs} (hg : 0 ≤ g ∧ g ≤ 2147483647) (hl : rs.length ≤ 1000000) (hb16 : hb.s.length = 16) (hrs : ∀ r ∈ rs, r.s.length ≤ 131072) : ∀ r ∈ rlOf g hb rs, (r.k = 1 ∨ r.k = 2) ∧ (0 ≤ r.g ∧ r.g ≤ 2147483647) ∧ (0 ≤ r.n ∧ r.n ≤ 2147483647) ∧ r.g = g ∧ r.b.s.length ≤ 131072 := by
  intro r hr
  rcases List.mem_cons.1 hr with rfl | hr
  · exact ⟨.inl rfl, hg, ⟨Int.le_refl _, by simp only []; omega⟩, rfl, by simp only []; omega⟩
  · obtain ⟨h1, h2, h3, h4, h5⟩ := bodyRs_mem hr
    exact ⟨.inr h1, by omega, by omega, h2, hrs _ h5⟩
theorem rl_snoc (g : Int) (hb : Bs) {rs : List Bs} {i : Nat} {r : Bs} (h : rs[i]? = some r) : (rlOf g hb (rs.take i)).flatMap Rs.cells ++ [.int .i64 2, .int .i64 g, .int .i64 ((i : Int) + 1), r.v] = (rlOf g hb (rs.take (i + 1))).flatMap Rs.cells := by
  have hlt := (List.getElem?_eq_some_iff.1 h).1
  have hln : (1 : Int) + ((rs.take i).length : Nat) = (i : Int) + 1 := by rw [List.length_take]; omega
  rw [take_snoc h]
  unfold rlOf
  rw [bodyRs_snoc, hln, ← List.cons_append, List.flatMap_append]
  rfl
theorem fine_of {k g n : Int} (hk : k = 1 ∨ k = 2) (hg : 0 ≤ g ∧ g ≤ 2147483647) (hn : 0 ≤ n ∧ n ≤ 2147483647) : fineP k g n := by simp only [fineP]; omega
set_option maxHeartbeats 400000 in
set_option maxRecDepth 10000 in
theorem f34_spec (bd bm : Nat) (A : Option Addr) (c : Nat) (D : Dk) (fi n g first : Int) (k : Nat) (base : Int) (hbase : base = fi + n * ((k / 2 : Nat) : Int)) (AR : Option Addr) (M cR : Nat) (rs : List Bs) (hM : rs.length = M) (hn01 : 0 ≤ n ∧ n ≤ 1) (hfs : 0 ≤ fi ∧ 8 ≤ k ∧ fi + k ≤ 1000000) (hg : 0 ≤ g ∧ g ≤ 2147483647) (hf0 : 0 ≤ first ∧ first ≤ 1000000000000)
    (hrs : ∀ r ∈ rs, r.s.length ≤ 131072) (hMx : M ≤ 1000000) (hmx : D.pend.length + (areaS g first (rs.map Bs.s)).length ≤ 1000000) :
    Spec Try.prog 34 [.agg #[.pointer (some ⟨bd, 0, none⟩), .int .i64 fi, .int .i64 (k : Int)], .int .i64 n, .int .i64 g, .int .i64 first, .slice AR M cR] [blk bd (dcells D bm A c) 66, mapC bm (dmap D.dur), own (.slice A D.pend.length c) 84 257 D.pend.length (D.pend.flatMap wcs)] [rd (.slice AR M cR) 1 M (rs.map Bs.v), rowsC false rs] (R := Option Addr × Nat) (fun _ => True) (fun _ => .tuple #[.int .i64 (writeM D base g first (rs.map Bs.s)).2.1, .int .i64 (writeM D base g first (rs.map Bs.s)).2.2])
      (fun q => [blk bd (dcells (writeM D base g first (rs.map Bs.s)).1 bm q.1 q.2) 66, mapC bm (dmap (writeM D base g first (rs.map Bs.s)).1.dur), own (.slice q.1 (writeM D base g first (rs.map Bs.s)).1.pend.length q.2) 84 257 (writeM D base g first (rs.map Bs.s)).1.pend.length ((writeM D base g first (rs.map Bs.s)).1.pend.flatMap wcs)]) := by
  have hnh : 0 ≤ n * ((k / 2 : Nat) : Int) ∧ n * ((k / 2 : Nat) : Int) ≤ ((k / 2 : Nat) : Int) := by
    rcases (show n = 0 ∨ n = 1 by omega) with rfl | rfl
    · rw [Int.zero_mul]; omega
    · rw [Int.one_mul]; omega
  obtain ⟨f, rfl⟩ := Int.eq_ofNat_of_zero_le hf0.1
  refine Spec.intro Try.func34 Try.ntmps34 rfl (by simp) (by simp) fun w0 => ?_
  refine WC.seq ?_
  refine WC.region ?_
  refine wl1 (op_box (lt_ rfl) rfl rfl) rfl fun b1 => ?_
  refine wlv (op_assign (lt_ rfl) rfl) rfl ?_
  refine wlv (op_assign (lt_ rfl) rfl) rfl ?_
  refine WL.nil ?_
  refine WX.regs (L' := [(1, _), (2, _), (3, _), (4, _), (5, _)]) ?_
  refine WX.next ?_
  refine WC.seq ?_
  refine WC.region ?_
  refine wlv (op_move (lt_ rfl) rfl) rfl ?_
  refine wlv (op_move (lt_ rfl) rfl) rfl ?_
  refine wlx (op_call (f54_spec f (by omega)) ca54 (lt_ rfl) rfl) rfl ?_
  rintro bw1 _
  refine wlv (op_move (lt_ rfl) rfl) rfl ?_
  refine wlv (op_len Try.underlying70 (lt_ rfl) rfl) rfl ?_
  refine wlx (op_call (f54_spec M (by omega)) ca54 (lt_ rfl) rfl) rfl ?_
  rintro bw2 _
  refine wl2 (op_append Try.underlying23 ti5 rfl (by decide) (lt_ rfl) rfl rfl xK xS xO (by omega) (by omega)) rfl fun A1 c1 => ?_
  rw [show bvs (be f 8) ++ bvs (be M 8) = bvs (headP (f : Int) M) by simp [bvs, headP], show (8 + 8 : Nat) = (headP (f : Int) M).length from (headP_length _ _).symm]
  refine wlv (op_build (cs := [.int .i64 1, .int .i64 g, .int .i64 0, .slice A1 (headP (f : Int) M).length c1]) (pv := [(0, _), (1, _), (3, _)]) (lt_ rfl) rfl (by kernel_rfl)) rfl ?_
  refine wl1 (op_lit1 Try.underlying100 ti89 rfl (by decide) (lt_ rfl) rfl rfl) rfl fun b2 => ?_
  refine wlv (op_assign (lt_ rfl) rfl) rfl ?_
  refine WL.nil ?_
  refine WX.regs (L' := [(1, _), (2, _), (4, _), (5, _), (12, _)]) ?_
  refine WX.next ?_
  refine WC.seq ?_
  refine WC.seq ?_
  refine WC.region ?_
  refine wlv (op_move (lt_ rfl) rfl) rfl ?_
  refine wlv (op_len Try.underlying70 (lt_ rfl) rfl) rfl ?_
  refine wlv (op_move (lt_ rfl) rfl) rfl ?_
  refine WL.nil ?_
  refine WX.regs (L' := [(1, _), (2, _), (5, _), (12, _), (29, _), (30, _), (31, _)]) ?_
  refine WX.next ?_
  refine WC.block ?_
  refine WC.loop (X := Nat × Option Addr × Nat) (fun q => M - q.1) (fun q => q.1 ≤ M) (fun q => [(1, .int .i64 n), (2, .int .i64 g), (5, .pointer (some ⟨b1, 0, none⟩)), (12, .slice q.2.1 (q.1 + 1) q.2.2), (29, .slice AR M cR), (30, .int .i64 (M : Int)), (31, .int .i64 (q.1 : Int))]) (fun q => [own (.slice q.2.1 (q.1 + 1) q.2.2) 89 4 (q.1 + 1) ((rlOf g ⟨A1, c1, headP (f : Int) M⟩ (rs.take q.1)).flatMap Rs.cells), own (.slice A1 (headP (f : Int) M).length c1) 5 1 (headP (f : Int) M).length (bvs (headP (f : Int) M)), blk b1 [.pointer (some ⟨bd, 0, none⟩), .int .i64 fi, .int .i64 (k : Int)] 68, blk bd (dcells D bm A c) 66, mapC bm (dmap D.dur), own (.slice A D.pend.length c) 84 257 D.pend.length (D.pend.flatMap wcs), rd (.slice AR M cR) 1 M (rs.map Bs.v), rowsC false rs, frameC w0 (MutF [blk bd (dcells D bm A c) 66, mapC bm (dmap D.dur), own (.slice A D.pend.length c) 84 257 D.pend.length (D.pend.flatMap wcs)])]) ((0, some ⟨b2, 0, none⟩, 1)) (Nat.zero_le _) (fun a w hs => hs.sub xY xT) ?_
  rintro ⟨i, Ao, co⟩ hi
  try dsimp only at hi ⊢
  refine WC.seq ?_
  refine WC.region ?_
  refine wlv (op_lss (lt_ rfl) rfl rfl) rfl ?_
  refine WL.nil ?_
  refine WX.regs (L' := [(1, _), (2, _), (5, _), (12, _), (29, _), (30, _), (31, _), (32, _)]) ?_
  refine WX.next ?_
  refine WC.seq ?_
  refine WC.cond rfl (fun h1 => ?_) (fun h1 => ?_)
  ·
    refine WC.skip ?_
    refine WX.next ?_
    refine WC.seq ?_
    refine WC.block ?_
    refine WC.seq ?_
    refine WC.region ?_
    obtain ⟨ri, hri⟩ : ∃ r, rs[i]? = some r := ⟨rs[i]'(by omega), List.getElem?_eq_getElem _⟩
    refine wlv (op_move (lt_ rfl) rfl) rfl ?_
    refine wlv (op_index Try.underlying70 sz23 (lt_ rfl) rfl rfl (by omega) (by omega) (by decide) xS) rfl ?_
    refine wlv (op_loadS fl23 (lt_ rfl) rfl xS (rows_at' hri (by omega))) rfl ?_
    refine wlv (op_assign (lt_ rfl) rfl) rfl ?_
    refine wlv (op_assign (lt_ rfl) rfl) rfl ?_
    refine WL.nil ?_
    refine WX.regs (L' := [(1, _), (2, _), (5, _), (12, _), (13, _), (14, _), (29, _), (30, _), (31, _)]) ?_
    refine WX.next ?_
    refine WC.region ?_
    refine wlv (op_move (lt_ rfl) rfl) rfl ?_
    refine wlv (op_move (lt_ rfl) rfl) rfl ?_
    refine wlv (op_move (lt_ rfl) rfl) rfl ?_
    refine wlv (op_add (lt_ rfl) rfl rfl (by omega)) rfl ?_
    refine wlv (op_move (lt_ rfl) rfl) rfl ?_
    refine wlv (op_build (cs := [.int .i64 2, .int .i64 g, .int .i64 ((i : Int) + 1), ri.v]) (pv := [(0, _), (1, _), (2, _), (3, _)]) (lt_ rfl) rfl (by kernel_rfl)) rfl ?_
    refine wl1 (op_lit1 Try.underlying100 ti89 rfl (by decide) (lt_ rfl) rfl rfl) rfl fun b3 => ?_
    refine wl2 (op_append Try.underlying100 ti89 rfl (by decide) (lt_ rfl) rfl rfl xK xS xO (by omega) (by omega)) rfl fun A2 c2 => ?_
    refine wlv (op_assign (lt_ rfl) rfl) rfl ?_
    refine WL.nil ?_
    refine WX.regs (L' := [(1, _), (2, _), (5, _), (12, _), (29, _), (30, _), (31, _)]) ?_
    refine WX.in_normal ?_
    refine WX.next ?_
    refine WC.region ?_
    refine wlv (op_add (lt_ rfl) rfl rfl (by omega)) rfl ?_
    refine wlv (op_move (lt_ rfl) rfl) rfl ?_
    refine WL.nil ?_
    refine WX.regs (L' := [(1, _), (2, _), (5, _), (12, _), (29, _), (30, _), (31, _)]) ?_
    refine WX.ownEq (v := .slice A2 (i + 1 + 1) c2) ((rlOf g ⟨A1, c1, headP (f : Int) M⟩ (rs.take (i + 1))).flatMap Rs.cells) xK (rl_snoc g ⟨A1, c1, headP (f : Int) M⟩ hri) ?_
    refine WX.meet ((i + 1, A2, c2)) ⟨by simp only []; omega, by simp only []; omega⟩ (fun a w hs => hs.sub xY xT)
  ·
    refine WC.exit ?_
    refine WX.then_exit ?_
    refine WX.then_exit ?_
    refine WX.in_hit ?_
    refine WX.next ?_
    refine WC.seq ?_
    refine WC.region ?_
    refine wlv (op_assign (lt_ rfl) rfl) rfl ?_
    refine WL.nil ?_
    refine WX.regs (L' := [(1, _), (5, _), (12, _), (15, _)]) ?_
    refine WX.next ?_
    refine WC.seq ?_
    refine WC.seq ?_
    refine WC.region ?_
    refine wlv (op_move (lt_ rfl) rfl) rfl ?_
    refine wlv (op_len Try.underlying100 (lt_ rfl) rfl) rfl ?_
    refine wlv (op_move (lt_ rfl) rfl) rfl ?_
    refine WL.nil ?_
    refine WX.regs (L' := [(1, _), (5, _), (15, _), (45, _), (46, _), (47, _)]) ?_
    refine WX.next ?_
    refine WC.block ?_
    obtain rfl : M = i := by omega
    rw [List.take_of_length_le (by omega : rs.length ≤ M)]
    refine WC.nilrows false ?_
    refine WC.merge2 (c1 := rowsC false []) (c2 := own (.slice A1 (headP (f : Int) M).length c1) 5 1 (headP (f : Int) M).length (bvs (headP (f : Int) M))) (d := rowsC false ([] ++ [(⟨A1, c1, headP (f : Int) M⟩ : Bs)])) xK xK (rowsC_snoc (own_le_bs rfl) (fun h => by cases h)) ?_
    refine WC.merge2 (c1 := rowsC false ([] ++ [(⟨A1, c1, headP (f : Int) M⟩ : Bs)])) (c2 := rowsC false rs) (d := rowsC false (⟨A1, c1, headP (f : Int) M⟩ :: rs)) xK xK (rowsC_app (e1 := false) (e2 := false)) ?_
    refine WC.loop (X := Nat × Option Addr × Nat) (fun q => M + 1 - q.1) (fun q => q.1 ≤ M + 1 ∧ (putM D base (recSs ((rlOf g ⟨A1, c1, headP (f : Int) M⟩ rs).take q.1))).2 = 0) (fun q => [(1, .int .i64 n), (5, .pointer (some ⟨b1, 0, none⟩)), (15, .int .i64 ((recSs ((rlOf g ⟨A1, c1, headP (f : Int) M⟩ rs).take q.1)).length : Int)), (45, .slice Ao (M + 1) co), (46, .int .i64 ((M : Int) + 1)), (47, .int .i64 (q.1 : Int))]) (fun q => [own (.slice Ao (M + 1) co) 89 4 (M + 1) ((rlOf g ⟨A1, c1, headP (f : Int) M⟩ rs).flatMap Rs.cells), rowsC false (⟨A1, c1, headP (f : Int) M⟩ :: rs), blk b1 [.pointer (some ⟨bd, 0, none⟩), .int .i64 fi, .int .i64 (k : Int)] 68, blk bd (dcells (putM D base (recSs ((rlOf g ⟨A1, c1, headP (f : Int) M⟩ rs).take q.1))).1 bm q.2.1 q.2.2) 66, mapC bm (dmap (putM D base (recSs ((rlOf g ⟨A1, c1, headP (f : Int) M⟩ rs).take q.1))).1.dur), own (.slice q.2.1 (putM D base (recSs ((rlOf g ⟨A1, c1, headP (f : Int) M⟩ rs).take q.1))).1.pend.length q.2.2) 84 257 (putM D base (recSs ((rlOf g ⟨A1, c1, headP (f : Int) M⟩ rs).take q.1))).1.pend.length ((putM D base (recSs ((rlOf g ⟨A1, c1, headP (f : Int) M⟩ rs).take q.1))).1.pend.flatMap wcs), frameC w0 (MutF [blk bd (dcells D bm A c) 66, mapC bm (dmap D.dur), own (.slice A D.pend.length c) 84 257 D.pend.length (D.pend.flatMap wcs)])]) ((0, A, c)) (⟨Nat.zero_le _, by rfl⟩) (fun a w hs => hs.sub xY xT) ?_
    rintro ⟨j, Ac, cc⟩ ⟨hj, hz⟩
    try dsimp only at hj hz ⊢
    refine WC.seq ?_
    refine WC.region ?_
    refine wlv (op_lss (lt_ rfl) rfl rfl) rfl ?_
    refine WL.nil ?_
    refine WX.regs (L' := [(1, _), (5, _), (15, _), (45, _), (46, _), (47, _), (48, _)]) ?_
    refine WX.next ?_
    refine WC.seq ?_
    refine WC.cond rfl (fun h2 => ?_) (fun h2 => ?_)
    ·
      refine WC.skip ?_
      refine WX.next ?_
      refine WC.seq ?_
      refine WC.block ?_
      refine WC.seq ?_
      refine WC.region ?_
      obtain ⟨r, hr⟩ : ∃ r, (rlOf g ⟨A1, c1, headP (f : Int) M⟩ rs)[j]? = some r := ⟨_, List.getElem?_eq_getElem (by rw [rlOf_length]; omega)⟩
      have hx : ∀ i, i = j * 4 → (((rlOf g ⟨A1, c1, headP (f : Int) M⟩ rs).flatMap Rs.cells).drop i).take 4 = r.cells := fun i hi => by rw [hi]; exact flat_at (f := Rs.cells) (sz := 4) (fun _ => rfl) _ j r hr
      have hmr : r ∈ (rlOf g ⟨A1, c1, headP (f : Int) M⟩ rs) := List.mem_of_getElem? hr
      have hmb := rlOf_bs _ _ _ r hmr
      have hrp := rlOf_fine hg (by omega) (headP_length (f : Int) M) hrs r hmr
      have hss := recSs_snoc hr
      have hul : (recSs ((rlOf g ⟨A1, c1, headP (f : Int) M⟩ rs).take (j + 1))).length = (recSs ((rlOf g ⟨A1, c1, headP (f : Int) M⟩ rs).take j)).length + (sects r.k r.g r.n r.b.s).length := by rw [hss, List.length_append]
      have hsp := congrArg List.length (recSs_split (rlOf g ⟨A1, c1, headP (f : Int) M⟩ rs) (j + 1))
      rw [List.length_append, areaS_eq (f := (f : Int)) (by rw [hM])] at hsp
      have hpl := putM_len (ss := recSs ((rlOf g ⟨A1, c1, headP (f : Int) M⟩ rs).take j)) D base
      have hstep : (putM D base (recSs ((rlOf g ⟨A1, c1, headP (f : Int) M⟩ rs).take (j + 1)))) = putM (putM D base (recSs ((rlOf g ⟨A1, c1, headP (f : Int) M⟩ rs).take j))).1 (base + ((recSs ((rlOf g ⟨A1, c1, headP (f : Int) M⟩ rs).take j)).length : Int)) (sects r.k r.g r.n r.b.s) := by rw [hss, putM_app, if_pos hz]
      refine wlv (op_index Try.underlying100 sz89 (lt_ rfl) rfl rfl (by omega) (by omega) (by decide) xS) rfl ?_
      refine wlv (op_loadSN ag89 (lt_ rfl) rfl xS (by rw [hx _ (by omega)]; rfl) (by decide)) rfl ?_
      rw [hx _ (by omega)]
      refine wl1 (op_alloc ti89 (lt_ rfl)) rfl fun b4 => ?_
      refine wl (op_storeAll sz89 rfl rfl xK xL xO xL) rfl ?_
      change WL _ _ _ _ _ _ _
      refine WL.nil ?_
      refine WX.regs (L' := [(1, _), (5, _), (15, _), (17, _), (45, _), (46, _), (47, _)]) ?_
      refine WX.next ?_
      refine WC.seq ?_
      refine WC.region ?_
      refine WL.dup (c := rowsC false (⟨A1, c1, headP (f : Int) M⟩ :: rs)) (d := rd (.slice r.b.A r.b.s.length r.b.c) 1 r.b.s.length (bvs r.b.s)) xM rfl (by simp) (rowsC_get (r := r.b) hmb) ?_
      refine wlv (op_loadAll ag89 (lt_ rfl) rfl xM xL) rfl ?_
      refine wlx (op_call (f43_spec r.k r.g r.n r.b.A r.b.s.length r.b.c r.b.s rfl) ca43 (lt_ rfl) rfl) rfl ?_
      rintro ⟨Ax, cx, xs, ex⟩ hxs
      dsimp only at hxs
      rw [split_ok (fine_of hrp.1 hrp.2.1 hrp.2.2.1) hrp.2.2.2.2, Prod.mk.injEq] at hxs
      obtain ⟨hxs, rfl⟩ := hxs
      have hxl : xs.length = (sects r.k r.g r.n r.b.s).length := by rw [← hxs, List.length_map]
      dsimp only
      refine wlv (op_move (lt_ rfl) rfl) rfl ?_
      refine wlv (op_extract (lt_ rfl) rfl rfl) rfl ?_
      refine wlv (op_extract (lt_ rfl) rfl rfl) rfl ?_
      refine wlv (op_assign (lt_ rfl) rfl) rfl ?_
      refine wlv (op_assign (lt_ rfl) rfl) rfl ?_
      refine WL.nil ?_
      refine WX.regs (L' := [(1, _), (5, _), (15, _), (18, _), (19, _), (45, _), (46, _), (47, _)]) ?_
      refine WX.next ?_
      refine WC.seq ?_
      refine WC.seq ?_
      refine WC.region ?_
      refine wlv (op_move (lt_ rfl) rfl) rfl ?_
      refine wlv (op_eql (lt_ rfl) rfl rfl) rfl ?_
      refine WL.nil ?_
      refine WX.regs (L' := [(1, _), (5, _), (15, _), (18, _), (19, _), (45, _), (46, _), (47, _), (57, _)]) ?_
      refine WX.next ?_
      refine WC.cond rfl (fun h3 => ?_) (fun h3 => ?_)
      ·
        refine WC.drawn (Hs := [blk b1 [.pointer (some ⟨bd, 0, none⟩), .int .i64 fi, .int .i64 (k : Int)] 68]) mo 999 ?_
        refine WA.take (i := 0) rfl (by kernel_rfl) (fun _ _ _ h => h) rfl (op_loadAll ag68 (lt_ rfl) rfl xM xL) xT ?_
        refine WA.take (i := 1) rfl (by kernel_rfl) (fun _ _ _ h => h) rfl (op_move (lt_ rfl) rfl) xT ?_
        refine WA.take (i := 2) rfl (by kernel_rfl) (fun _ _ _ h => h) rfl (op_loadAll ag68 (lt_ rfl) rfl xM xL) xT ?_
        refine WA.take (i := 5) rfl (by kernel_rfl) (fun _ _ _ h => h) rfl (op_move (lt_ rfl) rfl) xT ?_
        refine WA.take (i := 7) rfl (by kernel_rfl) (fun _ _ _ h => h) rfl (op_move (lt_ rfl) rfl) xT ?_
        refine WA.stepx (i := 3) (by kernel_rfl) rfl rfl (op_call (f42_spec bd fi (k : Int) (by omega) (by omega)) ca42 (lt_ rfl) rfl) (fun _ r => xT) ?_
        rintro _ _
        rw [show ((k : Int)) / 2 = ((k / 2 : Nat) : Int) by omega]
        refine WA.take (i := 4) rfl (by kernel_rfl) (fun _ _ _ h => h) rfl (op_mul (lt_ rfl) rfl rfl (by omega)) xT ?_
        refine WA.take (i := 6) rfl (by kernel_rfl) (fun _ _ _ h => h) rfl (op_add (lt_ rfl) rfl rfl (by omega)) xT ?_
        refine WA.stepx (i := 8) (by kernel_rfl) rfl rfl (op_call (f45_spec bd bm Ac cc (putM D base (recSs ((rlOf g ⟨A1, c1, headP (f : Int) M⟩ rs).take j))).1 fi (k : Int) (n * ((k / 2 : Nat) : Int) + ((recSs ((rlOf g ⟨A1, c1, headP (f : Int) M⟩ rs).take j)).length : Int)) Ax xs.length cx xs rfl (by omega) (by omega)) ca45 (lt_ rfl) rfl) (fun _ r => xT) ?_
        rintro ⟨A9, c9⟩ _
        rw [show fi + (n * ((k / 2 : Nat) : Int) + ((recSs ((rlOf g ⟨A1, c1, headP (f : Int) M⟩ rs).take j)).length : Int)) = base + ((recSs ((rlOf g ⟨A1, c1, headP (f : Int) M⟩ rs).take j)).length : Int) by omega, hxs, ← hstep]
        refine WA.take (i := 9) rfl (by kernel_rfl) (fun _ _ _ h => h) rfl (op_assign (lt_ rfl) rfl) xT ?_
        refine WA.done (by kernel_rfl) ?_
        refine WX.regs (L' := [(1, _), (5, _), (15, _), (18, _), (19, _), (45, _), (46, _), (47, _)]) ?_
        refine WX.next ?_
        refine WC.seq ?_
        refine WC.seq ?_
        refine WC.region ?_
        refine wlv (op_move (lt_ rfl) rfl) rfl ?_
        refine wlv (op_neq (lt_ rfl) rfl rfl) rfl ?_
        refine WL.nil ?_
        refine WX.regs (L' := [(1, _), (5, _), (15, _), (18, _), (19, _), (45, _), (46, _), (47, _), (68, _)]) ?_
        refine WX.next ?_
        refine WC.cond rfl (fun h4 => ?_) (fun h4 => ?_)
        ·
          refine WC.seq ?_
          refine WC.region ?_
          refine wlv (op_move (lt_ rfl) rfl) rfl ?_
          refine wlv (op_assign (lt_ rfl) rfl) rfl ?_
          refine wlv (op_assign (lt_ rfl) rfl) rfl ?_
          refine WL.nil ?_
          refine WX.regs (L' := [(10, _), (11, _)]) ?_
          refine WX.next ?_
          refine WC.ret ?_
          refine WX.then_ret ?_
          refine WX.in_ret ?_
          refine WX.then_ret ?_
          refine WX.then_ret ?_
          refine WX.in_ret ?_
          refine WX.then_ret ?_
          have hw : putM D base (areaS g (f : Int) (rs.map Bs.s)) = (putM D base (recSs ((rlOf g ⟨A1, c1, headP (f : Int) M⟩ rs).take (j + 1)))) := by rw [← areaS_eq (hb := ⟨A1, c1, headP (f : Int) M⟩) (f := (f : Int)) (by rw [hM]), recSs_split _ (j + 1), putM_app, if_neg (by omega)]
          unfold writeM
          rw [if_neg (by rw [hw]; omega), hw]
          exact Fin.ret2 xI ((A9, c9)) (trivial) Try.results34 rfl (.tmp rfl) (.tmp rfl) xT (by simp)
        ·
          refine WC.skip ?_
          refine WX.next ?_
          refine WC.region ?_
          refine wlv (op_move (lt_ rfl) rfl) rfl ?_
          refine wlv (op_move (lt_ rfl) rfl) rfl ?_
          refine wlv (op_len Try.underlying70 (lt_ rfl) rfl) rfl ?_
          refine wlv (op_add (lt_ rfl) rfl rfl (by omega)) rfl ?_
          refine wlv (op_assign (lt_ rfl) rfl) rfl ?_
          refine WL.nil ?_
          refine WX.regs (L' := [(1, _), (5, _), (15, _), (45, _), (46, _), (47, _)]) ?_
          refine WX.in_normal ?_
          refine WX.next ?_
          refine WC.region ?_
          refine wlv (op_add (lt_ rfl) rfl rfl (by omega)) rfl ?_
          refine wlv (op_move (lt_ rfl) rfl) rfl ?_
          refine WL.nil ?_
          refine WX.regs (L' := [(1, _), (5, _), (15, _), (45, _), (46, _), (47, _)]) ?_
          rw [show ((recSs ((rlOf g ⟨A1, c1, headP (f : Int) M⟩ rs).take j)).length : Int) + (xs.length : Int) = ((recSs ((rlOf g ⟨A1, c1, headP (f : Int) M⟩ rs).take (j + 1))).length : Int) by omega]
          refine WX.meet ((j + 1, A9, c9)) ⟨⟨by simp only []; omega, by simp only []; omega⟩, by simp only []; omega⟩ (fun a w hs => hs.sub xY xT)
      ·
        exact absurd rfl h3
    ·
      refine WC.exit ?_
      refine WX.then_exit ?_
      refine WX.then_exit ?_
      refine WX.in_hit ?_
      refine WX.next ?_
      refine WC.seq ?_
      refine WC.region ?_
      have hall : recSs ((rlOf g ⟨A1, c1, headP (f : Int) M⟩ rs).take j) = (areaS g (f : Int) (rs.map Bs.s)) := by rw [List.take_of_length_le (by rw [rlOf_length]; omega)]; exact areaS_eq (by rw [hM])
      rw [hall] at hz
      rw [hall]
      refine wlv (op_move (lt_ rfl) rfl) rfl ?_
      refine wlv (op_fieldAddr fo68_0 (lt_ rfl) rfl) rfl ?_
      refine wlv (op_load1 fl26 (lt_ rfl) rfl xM rfl) rfl ?_
      refine wlx (op_call (f55_spec bd bm Ac cc (putM D base (areaS g (f : Int) (rs.map Bs.s))).1 (by have := putM_len (ss := (areaS g (f : Int) (rs.map Bs.s))) D base; omega)) ca55 (lt_ rfl) rfl) rfl ?_
      rintro ⟨A9, c9⟩ _
      refine wlv (op_assign (lt_ rfl) rfl) rfl ?_
      refine wlv (op_assign (lt_ rfl) rfl) rfl ?_
      refine WL.nil ?_
      refine WX.regs (L' := [(10, _), (11, _)]) ?_
      refine WX.next ?_
      refine WC.ret ?_
      unfold writeM
      rw [if_pos hz]
      exact Fin.ret2 xI ((A9, c9)) (trivial) Try.results34 rfl (.tmp rfl) (.tmp rfl) xT (by simp)
end Go.Proofs.Ytkjlbedebmffgaa.Sx

set_option linter.unusedVariables false
set_option linter.unusedSimpArgs false
namespace Go.Proofs.Ytkjlbedebmffgaa.Sx
open Go.RowKit Go.Proofs.Ytkjlbedebmffgaa.Ty
attribute [local irreducible] blk own rd rx frameC

/-- The other area is written. -/
def changeM (D : Dk) (J : Jn) (first : Int) (es : List (List UInt8)) : Dk × Jn × Int :=
  if ¬ (nextM (1 - J.cur) (D.seen J.fi J.se.toNat)).2 = 0 then (D, J, (nextM (1 - J.cur) (D.seen J.fi J.se.toNat)).2)
  else if ¬ (writeM D (J.fi + (1 - J.cur) * ((J.se.toNat / 2 : Nat) : Int)) (nextM (1 - J.cur) (D.seen J.fi J.se.toNat)).1 first es).2.2 = 0 then
    ((writeM D (J.fi + (1 - J.cur) * ((J.se.toNat / 2 : Nat) : Int)) (nextM (1 - J.cur) (D.seen J.fi J.se.toNat)).1 first es).1, J, (writeM D (J.fi + (1 - J.cur) * ((J.se.toNat / 2 : Nat) : Int)) (nextM (1 - J.cur) (D.seen J.fi J.se.toNat)).1 first es).2.2)
  else ((writeM D (J.fi + (1 - J.cur) * ((J.se.toNat / 2 : Nat) : Int)) (nextM (1 - J.cur) (D.seen J.fi J.se.toNat)).1 first es).1,
    { J with cur := 1 - J.cur, gen := (nextM (1 - J.cur) (D.seen J.fi J.se.toNat)).1, first := first, used := (writeM D (J.fi + (1 - J.cur) * ((J.se.toNat / 2 : Nat) : Int)) (nextM (1 - J.cur) (D.seen J.fi J.se.toNat)).1 first es).2.1, synced := first + es.length }, 0)
theorem changeM_next {D : Dk} {J : Jn} {first : Int} {es : List (List UInt8)} {g e : Int} (hg : (g, e) = nextM (1 - J.cur) (D.seen J.fi J.se.toNat)) (he : ¬ e = 0) : changeM D J first es = (D, J, e) := by
  unfold changeM; rw [← hg, if_pos he]
theorem changeM_write {D : Dk} {J : Jn} {first base : Int} {es : List (List UInt8)} {g : Int} (hg : (g, 0) = nextM (1 - J.cur) (D.seen J.fi J.se.toNat)) (hb : base = J.fi + (1 - J.cur) * ((J.se.toNat / 2 : Nat) : Int)) (he : ¬ (writeM D base g first es).2.2 = 0) : changeM D J first es = ((writeM D base g first es).1, J, (writeM D base g first es).2.2) := by
  unfold changeM; rw [← hg, ← hb, if_neg (fun h => h rfl), if_pos he]
theorem changeM_ok {D : Dk} {J : Jn} {first base : Int} {es : List (List UInt8)} {g : Int} (hg : (g, 0) = nextM (1 - J.cur) (D.seen J.fi J.se.toNat)) (hb : base = J.fi + (1 - J.cur) * ((J.se.toNat / 2 : Nat) : Int)) (he : (writeM D base g first es).2.2 = 0) :
    changeM D J first es = ((writeM D base g first es).1, { J with cur := 1 - J.cur, gen := g, first := first, used := (writeM D base g first es).2.1, synced := first + es.length }, 0) := by
  unfold changeM; rw [← hg, ← hb, if_neg (fun h => h rfl), if_neg (fun h => h he)]
theorem nextF_pos {n : Int} (hn : 0 ≤ n) : ∀ (ss : List (List UInt8)) (g : Int), 0 ≤ g → 0 ≤ ss.foldl (nstep n) g := by
  intro ss
  induction ss with
  | nil => intro g h; exact h
  | cons s ss ih =>
    intro g h
    refine ih _ ?_
    have := dec_g s
    unfold nstep
    split <;> omega
theorem nextM_ok {n g : Int} {ss : List (List UInt8)} (hn : 0 ≤ n) (h : (g, 0) = nextM n ss) : 0 ≤ g ∧ g ≤ 2147483647 := by
  unfold nextM at h
  split at h
  · cases h
  · simp only [Prod.mk.injEq] at h
    have := nextF_pos hn ss n hn
    unfold nextF at *
    omega
theorem areaS_length (g f : Int) (es : List (List UInt8)) : (areaS g f es).length = 1 + needs es := by
  unfold areaS
  rw [List.length_append, sects_length, headP_length, recs_length]
  rfl
/-- Format. -/
def formatM (D : Dk) (fi se : Int) : Dk × Int :=
  if ¬ D.check fi se = 0 then (D, D.check fi se)
  else if ¬ (nextM 0 (D.seen fi se.toNat)).2 = 0 then (D, (nextM 0 (D.seen fi se.toNat)).2)
  else ((writeM D fi (nextM 0 (D.seen fi se.toNat)).1 0 []).1, (writeM D fi (nextM 0 (D.seen fi se.toNat)).1 0 []).2.2)
theorem check_ok {D : Dk} {fi se : Int} (h : D.check fi se = 0) : 0 ≤ fi ∧ 8 ≤ se ∧ se ≤ D.n ∧ fi + se ≤ D.n ∧ D.down = false := by
  unfold Dk.check at h
  split at h
  · cases h
  · split at h
    · cases h
    · rename_i h1 h2
      refine ⟨by omega, by omega, by omega, by omega, by simpa using h2⟩
set_option maxHeartbeats 400000 in
set_option maxRecDepth 10000 in
theorem f36_spec (bd bm : Nat) (A : Option Addr) (c : Nat) (D : Dk) (bj : Nat) (J : Jn) (Aj A0 AE : Option Addr) (mj cj m0 c0 M cE : Nat) (first : Int) (olds rs : List Bs) (hle : (rd (.slice AE M cE) 1 M (rs.map Bs.v)).Le (own (.slice A0 m0 c0) 23 1 m0 (olds.map Bs.v))) (hsub : ∀ r ∈ rs, r ∈ olds) (hm0 : olds.length = m0) (hM : rs.length = M)
    (hdn : D.down = false) (hfs : 0 ≤ J.fi ∧ 8 ≤ J.se ∧ J.fi + J.se ≤ D.n) (hcur : 0 ≤ J.cur ∧ J.cur ≤ 1) (hn : D.n ≤ 1000000) (hf0 : 0 ≤ first ∧ first ≤ 1000000000000) (hrs : ∀ r ∈ rs, r.s.length ≤ 131072) (hMx : M ≤ 1000000) (hmx : D.pend.length + (1 + needs (rs.map Bs.s)) ≤ 1000000) :
    Spec Try.prog 36 [.pointer (some ⟨bj, 0, none⟩), .int .i64 first, .slice AE M cE] [blk bj (jcells J bd Aj mj cj) 76, blk bd (dcells D bm A c) 66, mapC bm (dmap D.dur), own (.slice A D.pend.length c) 84 257 D.pend.length (D.pend.flatMap wcs), own (.slice A0 m0 c0) 23 1 m0 (olds.map Bs.v), rowsC true olds] [] (R := (Option Addr × Nat) × (Option Addr × Nat × Nat) × Option Addr × Nat × List Bs × List Bs)
      (fun q => (changeM D J first (rs.map Bs.s)).2.2 = 0 ∧ q.2.2.2.2 = (rs, rs) ∧ q.2.1 = (q.2.2.1, rs.length, q.2.2.2.1) ∨ ¬ (changeM D J first (rs.map Bs.s)).2.2 = 0 ∧ q.2.1 = (Aj, mj, cj) ∧ q.2.2.2.2 = ([], olds)) (fun _ => .int .i64 (changeM D J first (rs.map Bs.s)).2.2)
      (fun q => [blk bj (jcells (changeM D J first (rs.map Bs.s)).2.1 bd q.2.1.1 q.2.1.2.1 q.2.1.2.2) 76, blk bd (dcells (changeM D J first (rs.map Bs.s)).1 bm q.1.1 q.1.2) 66, mapC bm (dmap (changeM D J first (rs.map Bs.s)).1.dur), own (.slice q.1.1 (changeM D J first (rs.map Bs.s)).1.pend.length q.1.2) 84 257 (changeM D J first (rs.map Bs.s)).1.pend.length ((changeM D J first (rs.map Bs.s)).1.pend.flatMap wcs), own (.slice A0 m0 c0) 23 1 m0 (olds.map Bs.v), own (.slice q.2.2.1 q.2.2.2.2.1.length q.2.2.2.1) 23 1 q.2.2.2.2.1.length (q.2.2.2.2.1.map Bs.v), rowsC true q.2.2.2.2.2]) := by
  obtain ⟨fi, se, cur, gen, fst, used, synced, failed⟩ := J
  dsimp only at hfs hcur
  obtain ⟨k, rfl⟩ := Int.eq_ofNat_of_zero_le (show 0 ≤ se by omega)
  have hal := areaS_length
  refine Spec.intro Try.func36 Try.ntmps36 rfl (by simp) (by simp) fun w0 => ?_
  refine WC.seq ?_
  refine WC.region ?_
  refine wlv (op_assign (lt_ rfl) rfl) rfl ?_
  refine WL.nil ?_
  refine WX.regs (L' := [(0, _), (1, _), (2, _)]) ?_
  refine WX.next ?_
  refine WC.seq ?_
  refine WC.region ?_
  refine wlv (op_move (lt_ rfl) rfl) rfl ?_
  refine wlv (op_nilCheck (lt_ rfl) rfl) rfl ?_
  refine wlv (op_fieldAddr fo76_1 (lt_ rfl) rfl) rfl ?_
  refine wlv (op_load1 fl3 (lt_ rfl) rfl xM rfl) rfl ?_
  refine wlv (op_sub (lt_ rfl) rfl rfl (by simp only []; omega)) rfl ?_
  refine wlv (op_assign (lt_ rfl) rfl) rfl ?_
  refine WL.nil ?_
  refine WX.regs (L' := [(0, _), (1, _), (2, _), (7, _)]) ?_
  refine WX.next ?_
  refine WC.seq ?_
  refine WC.region ?_
  refine wlv (op_move (lt_ rfl) rfl) rfl ?_
  refine wlv (op_nilCheck (lt_ rfl) rfl) rfl ?_
  refine wlv (op_fieldAddr fo76_0 (lt_ rfl) rfl) rfl ?_
  refine wlv (op_loadN ag68 (lt_ rfl) rfl xM rfl) rfl ?_
  refine wlv (op_move (lt_ rfl) rfl) rfl ?_
  refine wlx (op_call (f33_spec bd bm A c D fi (k : Int) (1 - cur) (by omega) hdn (by omega) hn (by omega)) ca33 (lt_ rfl) rfl) rfl ?_
  rintro ⟨g, e⟩ hg
  dsimp only
  refine wlv (op_move (lt_ rfl) rfl) rfl ?_
  refine wlv (op_extract (lt_ rfl) rfl rfl) rfl ?_
  refine wlv (op_extract (lt_ rfl) rfl rfl) rfl ?_
  refine wlv (op_assign (lt_ rfl) rfl) rfl ?_
  refine wlv (op_assign (lt_ rfl) rfl) rfl ?_
  refine WL.nil ?_
  refine WX.regs (L' := [(0, _), (1, _), (2, _), (7, _), (8, _), (9, _)]) ?_
  refine WX.next ?_
  refine WC.seq ?_
  refine WC.seq ?_
  refine WC.region ?_
  refine wlv (op_move (lt_ rfl) rfl) rfl ?_
  refine wlv (op_neq (lt_ rfl) rfl rfl) rfl ?_
  refine WL.nil ?_
  refine WX.regs (L' := [(0, _), (1, _), (2, _), (7, _), (8, _), (9, _), (26, _)]) ?_
  refine WX.next ?_
  refine WC.cond rfl (fun h1 => ?_) (fun h1 => ?_)
  ·
    refine WC.seq ?_
    refine WC.region ?_
    refine wlv (op_move (lt_ rfl) rfl) rfl ?_
    refine wlv (op_assign (lt_ rfl) rfl) rfl ?_
    refine WL.nil ?_
    refine WX.regs (L' := [(6, _)]) ?_
    refine WX.next ?_
    refine WC.ret ?_
    refine WX.then_ret ?_
    refine WX.nilown 23 1 ?_
    rw [changeM_next (D := D) (J := ⟨fi, (k : Int), cur, gen, fst, used, synced, failed⟩) (first := first) (es := rs.map Bs.s) hg h1]
    dsimp only
    exact Fin.ret1 xI (((A, c), (Aj, mj, cj), none, 0, [], olds)) (.inr ⟨h1, rfl, rfl⟩) Try.results36 (.tmp rfl) xT (by simp)
  ·
    obtain rfl : e = 0 := by omega
    refine WC.skip ?_
    refine WX.next ?_
    refine WC.seq ?_
    refine WC.region ?_
    refine wlv (op_move (lt_ rfl) rfl) rfl ?_
    refine wlv (op_nilCheck (lt_ rfl) rfl) rfl ?_
    refine wlv (op_fieldAddr fo76_0 (lt_ rfl) rfl) rfl ?_
    refine wlv (op_loadN ag68 (lt_ rfl) rfl xM rfl) rfl ?_
    refine wlv (op_move (lt_ rfl) rfl) rfl ?_
    refine wlv (op_move (lt_ rfl) rfl) rfl ?_
    refine wlv (op_move (lt_ rfl) rfl) rfl ?_
    refine wlv (op_move (lt_ rfl) rfl) rfl ?_
    refine wlx (op_call (f34_spec bd bm A c D fi (1 - cur) g first k _ rfl AE M cE rs hM (by omega) (by omega) (nextM_ok (by omega) hg) hf0 hrs hMx (by rw [hal]; omega)) ca34 (lt_ rfl) rfl (by apply Give.mk; (focus (repeat (first | exact Takes.nil | exact Take.here | apply Takes.cons | apply Take.there))); exact Reads.cons (c := own (.slice A0 m0 c0) 23 1 m0 (olds.map Bs.v)) xM (by simp) hle (Reads.cons (c := rowsC true olds) xM (by simp) (rowsC_read hsub) Reads.nil))) rfl ?_
    rintro ⟨A9, c9⟩ _
    refine wlv (op_move (lt_ rfl) rfl) rfl ?_
    refine wlv (op_extract (lt_ rfl) rfl rfl) rfl ?_
    refine wlv (op_extract (lt_ rfl) rfl rfl) rfl ?_
    refine wlv (op_assign (lt_ rfl) rfl) rfl ?_
    refine wlv (op_assign (lt_ rfl) rfl) rfl ?_
    refine WL.nil ?_
    refine WX.regs (L' := [(0, _), (1, _), (2, _), (7, _), (8, _), (9, _), (10, _)]) ?_
    refine WX.next ?_
    refine WC.seq ?_
    refine WC.seq ?_
    refine WC.region ?_
    refine wlv (op_move (lt_ rfl) rfl) rfl ?_
    refine wlv (op_neq (lt_ rfl) rfl rfl) rfl ?_
    refine WL.nil ?_
    refine WX.regs (L' := [(0, _), (1, _), (2, _), (7, _), (8, _), (9, _), (10, _), (41, _)]) ?_
    refine WX.next ?_
    refine WC.cond rfl (fun h2 => ?_) (fun h2 => ?_)
    ·
      refine WC.seq ?_
      refine WC.region ?_
      refine wlv (op_move (lt_ rfl) rfl) rfl ?_
      refine wlv (op_assign (lt_ rfl) rfl) rfl ?_
      refine WL.nil ?_
      refine WX.regs (L' := [(6, _)]) ?_
      refine WX.next ?_
      refine WC.ret ?_
      refine WX.then_ret ?_
      refine WX.nilown 23 1 ?_
      rw [changeM_write (D := D) (J := ⟨fi, (k : Int), cur, gen, fst, used, synced, failed⟩) (first := first) (es := rs.map Bs.s) hg rfl h2]
      dsimp only
      exact Fin.ret1 xI (((A9, c9), (Aj, mj, cj), none, 0, [], olds)) (.inr ⟨h2, rfl, rfl⟩) Try.results36 (.tmp rfl) xT (by simp)
    ·
      refine WC.skip ?_
      refine WX.next ?_
      refine WC.seq ?_
      refine WC.region ?_
      refine wlv (op_move (lt_ rfl) rfl) rfl ?_
      refine wlv (op_move (lt_ rfl) rfl) rfl ?_
      refine wlv (op_move (lt_ rfl) rfl) rfl ?_
      refine wlv (op_move (lt_ rfl) rfl) rfl ?_
      refine wlv (op_move (lt_ rfl) rfl) rfl ?_
      refine wlv (op_move (lt_ rfl) rfl) rfl ?_
      refine wlv (op_move (lt_ rfl) rfl) rfl ?_
      refine wlv (op_move (lt_ rfl) rfl) rfl ?_
      refine wlv (op_move (lt_ rfl) rfl) rfl ?_
      refine wlx (op_call (f60_spec AE M cE rs hM hMx) ca60 (lt_ rfl) rfl (by apply Give.mk; (focus (repeat (first | exact Takes.nil | exact Take.here | apply Takes.cons | apply Take.there))); exact Reads.cons (c := own (.slice A0 m0 c0) 23 1 m0 (olds.map Bs.v)) xM (by simp) hle Reads.nil)) rfl ?_
      rintro ⟨A2, c2⟩ _
      refine wlv (op_move (lt_ rfl) rfl) rfl ?_
      refine wlv (op_nilCheck (lt_ rfl) rfl) rfl ?_
      refine wlv (op_fieldAddr fo76_1 (lt_ rfl) rfl) rfl ?_
      refine wl (op_store sz3 rfl rfl xK xL xO (by first | exact Nat.le_of_ble_eq_true rfl | (simp; omega))) rfl ?_
      change WL _ _ _ _ _ _ _
      refine wlv (op_nilCheck (lt_ rfl) rfl) rfl ?_
      refine wlv (op_fieldAddr fo76_2 (lt_ rfl) rfl) rfl ?_
      refine wl (op_store sz3 rfl rfl xK xL xO (by first | exact Nat.le_of_ble_eq_true rfl | (simp; omega))) rfl ?_
      change WL _ _ _ _ _ _ _
      refine wlv (op_nilCheck (lt_ rfl) rfl) rfl ?_
      refine wlv (op_fieldAddr fo76_3 (lt_ rfl) rfl) rfl ?_
      refine wl (op_store sz3 rfl rfl xK xL xO (by first | exact Nat.le_of_ble_eq_true rfl | (simp; omega))) rfl ?_
      change WL _ _ _ _ _ _ _
      refine wlv (op_nilCheck (lt_ rfl) rfl) rfl ?_
      refine wlv (op_fieldAddr fo76_4 (lt_ rfl) rfl) rfl ?_
      refine wl (op_store sz70 rfl rfl xK xL xO (by first | exact Nat.le_of_ble_eq_true rfl | (simp; omega))) rfl ?_
      change WL _ _ _ _ _ _ _
      refine wlv (op_nilCheck (lt_ rfl) rfl) rfl ?_
      refine wlv (op_fieldAddr fo76_5 (lt_ rfl) rfl) rfl ?_
      refine wl (op_store sz3 rfl rfl xK xL xO (by first | exact Nat.le_of_ble_eq_true rfl | (simp; omega))) rfl ?_
      change WL _ _ _ _ _ _ _
      refine WL.nil ?_
      refine WX.blkEq (b := bj) (jcells { (⟨fi, (k : Int), cur, gen, fst, used, synced, failed⟩ : Jn) with cur := 1 - cur, gen := g, first := first, used := (writeM D (fi + (1 - cur) * ((k / 2 : Nat) : Int)) g first (rs.map Bs.s)).2.1 } bd A2 M c2) xK (by simp [jcells, pset, Value.cells]) ?_
      refine WX.regs (L' := [(0, _)]) ?_
      refine WX.next ?_
      refine WC.seq ?_
      refine WC.region ?_
      refine wlv (op_move (lt_ rfl) rfl) rfl ?_
      refine wlv (op_move (lt_ rfl) rfl) rfl ?_
      refine wlx (op_call (f17_spec bj bd { (⟨fi, (k : Int), cur, gen, fst, used, synced, failed⟩ : Jn) with cur := 1 - cur, gen := g, first := first, used := (writeM D (fi + (1 - cur) * ((k / 2 : Nat) : Int)) g first (rs.map Bs.s)).2.1 } A2 M c2 ⟨by simp only []; omega, by simp only []; omega, hMx⟩) ca17 (lt_ rfl) rfl) rfl ?_
      rintro _ _
      refine wlv (op_nilCheck (lt_ rfl) rfl) rfl ?_
      refine wlv (op_fieldAddr fo76_6 (lt_ rfl) rfl) rfl ?_
      refine wl (op_store sz3 rfl rfl xK xL xO (by first | exact Nat.le_of_ble_eq_true rfl | (simp; omega))) rfl ?_
      change WL _ _ _ _ _ _ _
      refine WL.nil ?_
      refine WX.turn (c := rowsC true olds) (d := rowsC true rs) xK (rowsC_sub hsub) ?_
      refine WX.blkEq (b := bj) (jcells { ({ (⟨fi, (k : Int), cur, gen, fst, used, synced, failed⟩ : Jn) with cur := 1 - cur, gen := g, first := first, used := (writeM D (fi + (1 - cur) * ((k / 2 : Nat) : Int)) g first (rs.map Bs.s)).2.1 } : Jn) with synced := first + ((rs.map Bs.s).length : Int) } bd A2 M c2) xK (by simp [jcells, pset, Value.cells, hM]) ?_
      refine WX.regs (L' := []) ?_
      refine WX.next ?_
      refine WC.seq ?_
      refine WC.region ?_
      refine wlv (op_assign (lt_ rfl) rfl) rfl ?_
      refine WL.nil ?_
      refine WX.regs (L' := [(6, _)]) ?_
      refine WX.next ?_
      refine WC.ret ?_
      subst hM
      rw [changeM_ok (D := D) (J := ⟨fi, (k : Int), cur, gen, fst, used, synced, failed⟩) (first := first) (es := rs.map Bs.s) hg rfl (Decidable.not_not.1 h2)]
      dsimp only
      exact Fin.ret1 xI (((A9, c9), (A2, rs.length, c2), A2, c2, rs, rs)) (.inl ⟨rfl, rfl, rfl⟩) Try.results36 (.tmp rfl) xT (by simp)
set_option maxHeartbeats 400000 in
set_option maxRecDepth 10000 in
theorem f12_spec (bd bm : Nat) (A : Option Addr) (c : Nat) (D : Dk) (fi se : Int) (hn : D.n ≤ 1000000) (hfs : -1000000000 ≤ fi ∧ fi ≤ 1000000000 ∧ -1000000000 ≤ se ∧ se ≤ 1000000000) (hmx : D.pend.length ≤ 999999) :
    Spec Try.prog 12 [.pointer (some ⟨bd, 0, none⟩), .int .i64 fi, .int .i64 se] [blk bd (dcells D bm A c) 66, mapC bm (dmap D.dur), own (.slice A D.pend.length c) 84 257 D.pend.length (D.pend.flatMap wcs)] [] (R := Option Addr × Nat) (fun _ => True) (fun _ => .int .i64 (formatM D fi se).2) (fun q => [blk bd (dcells (formatM D fi se).1 bm q.1 q.2) 66, mapC bm (dmap (formatM D fi se).1.dur), own (.slice q.1 (formatM D fi se).1.pend.length q.2) 84 257 (formatM D fi se).1.pend.length ((formatM D fi se).1.pend.flatMap wcs)]) := by
  have hal := areaS_length
  refine Spec.intro Try.func12 Try.ntmps12 rfl (by simp) (by simp) fun w0 => ?_
  refine WC.seq ?_
  refine WC.region ?_
  refine wlv (op_assign (lt_ rfl) rfl) rfl ?_
  refine WL.nil ?_
  refine WX.regs (L' := [(0, _), (1, _), (2, _)]) ?_
  refine WX.next ?_
  refine WC.seq ?_
  refine WC.region ?_
  refine wlv (op_move (lt_ rfl) rfl) rfl ?_
  refine wlv (op_move (lt_ rfl) rfl) rfl ?_
  refine wlv (op_move (lt_ rfl) rfl) rfl ?_
  refine wlv (op_build (cs := [.pointer (some ⟨bd, 0, none⟩), .int .i64 fi, .int .i64 se]) (pv := [(0, _), (1, _), (2, _)]) (lt_ rfl) rfl (by kernel_rfl)) rfl ?_
  refine wl1 (op_alloc ti68 (lt_ rfl)) rfl fun b1 => ?_
  refine wl (op_storeAll sz68 rfl rfl xK xL xO xL) rfl ?_
  change WL _ _ _ _ _ _ _
  refine WL.nil ?_
  refine WX.regs (L' := [(7, _)]) ?_
  refine WX.next ?_
  refine WC.seq ?_
  refine WC.seq ?_
  refine WC.region ?_
  refine wlv (op_loadAll ag68 (lt_ rfl) rfl xM xL) rfl ?_
  refine wlx (op_call (f32_spec bd bm A c D fi se hn hfs) ca32 (lt_ rfl) rfl) rfl ?_
  rintro _ _
  refine wlv (op_assign (lt_ rfl) rfl) rfl ?_
  refine WL.nil ?_
  refine WX.regs (L' := [(7, _), (8, _)]) ?_
  refine WX.next ?_
  refine WC.seq ?_
  refine WC.region ?_
  refine wlv (op_move (lt_ rfl) rfl) rfl ?_
  refine wlv (op_neq (lt_ rfl) rfl rfl) rfl ?_
  refine WL.nil ?_
  refine WX.regs (L' := [(7, _), (8, _), (18, _)]) ?_
  refine WX.next ?_
  refine WC.cond rfl (fun h1 => ?_) (fun h1 => ?_)
  ·
    refine WC.seq ?_
    refine WC.region ?_
    refine wlv (op_move (lt_ rfl) rfl) rfl ?_
    refine wlv (op_assign (lt_ rfl) rfl) rfl ?_
    refine WL.nil ?_
    refine WX.regs (L' := [(6, _)]) ?_
    refine WX.next ?_
    refine WC.ret ?_
    refine WX.then_ret ?_
    have hfm : formatM D fi se = (D, D.check fi se) := if_pos h1
    rw [hfm]
    dsimp only
    exact Fin.ret1 xI ((A, c)) (trivial) Try.results12 (.tmp rfl) xT (by simp)
  ·
    have hck := check_ok (Decidable.not_not.1 h1)
    obtain ⟨k, rfl⟩ := Int.eq_ofNat_of_zero_le (show 0 ≤ se by omega)
    refine WC.skip ?_
    refine WX.next ?_
    refine WC.seq ?_
    refine WC.region ?_
    refine wlv (op_loadAll ag68 (lt_ rfl) rfl xM xL) rfl ?_
    refine wlx (op_call (f33_spec bd bm A c D fi (k : Int) 0 (by omega) hck.2.2.2.2 (by omega) hn (by omega)) ca33 (lt_ rfl) rfl) rfl ?_
    rintro ⟨g, e⟩ hg
    dsimp only
    refine wlv (op_move (lt_ rfl) rfl) rfl ?_
    refine wlv (op_extract (lt_ rfl) rfl rfl) rfl ?_
    refine wlv (op_extract (lt_ rfl) rfl rfl) rfl ?_
    refine wlv (op_assign (lt_ rfl) rfl) rfl ?_
    refine wlv (op_assign (lt_ rfl) rfl) rfl ?_
    refine WL.nil ?_
    refine WX.regs (L' := [(7, _), (9, _), (10, _)]) ?_
    refine WX.next ?_
    refine WC.seq ?_
    refine WC.seq ?_
    refine WC.region ?_
    refine wlv (op_move (lt_ rfl) rfl) rfl ?_
    refine wlv (op_neq (lt_ rfl) rfl rfl) rfl ?_
    refine WL.nil ?_
    refine WX.regs (L' := [(7, _), (9, _), (10, _), (26, _)]) ?_
    refine WX.next ?_
    refine WC.cond rfl (fun h2 => ?_) (fun h2 => ?_)
    ·
      refine WC.seq ?_
      refine WC.region ?_
      refine wlv (op_move (lt_ rfl) rfl) rfl ?_
      refine wlv (op_assign (lt_ rfl) rfl) rfl ?_
      refine WL.nil ?_
      refine WX.regs (L' := [(6, _)]) ?_
      refine WX.next ?_
      refine WC.ret ?_
      refine WX.then_ret ?_
      have hfm : formatM D fi (k : Int) = (D, e) := by unfold formatM; rw [if_neg h1, ← hg, if_pos h2]
      rw [hfm]
      dsimp only
      exact Fin.ret1 xI ((A, c)) (trivial) Try.results12 (.tmp rfl) xT (by simp)
    ·
      obtain rfl : e = 0 := by omega
      refine WC.nilrows false ?_
      refine WC.skip ?_
      refine WX.next ?_
      refine WC.seq ?_
      refine WC.region ?_
      refine WL.nilrd 1 ?_
      refine wlv (op_loadAll ag68 (lt_ rfl) rfl xM xL) rfl ?_
      refine wlv (op_move (lt_ rfl) rfl) rfl ?_
      refine wlx (op_call (f34_spec bd bm A c D fi 0 g 0 k fi (by rw [Int.zero_mul, Int.add_zero]) none 0 0 [] rfl (by omega) (by omega) (nextM_ok (by omega) hg) (by omega) (fun r hr => by cases hr) (by omega) (by rw [hal]; simp only [List.map_nil, needs]; omega)) ca34 (lt_ rfl) rfl) rfl ?_
      rintro ⟨A9, c9⟩ _
      refine wlv (op_move (lt_ rfl) rfl) rfl ?_
      refine wlv (op_extract (lt_ rfl) rfl rfl) rfl ?_
      refine wlv (op_extract (lt_ rfl) rfl rfl) rfl ?_
      refine wlv (op_assign (lt_ rfl) rfl) rfl ?_
      refine WL.nil ?_
      refine WX.regs (L' := [(10, _)]) ?_
      refine WX.next ?_
      refine WC.seq ?_
      refine WC.region ?_
      refine wlv (op_move (lt_ rfl) rfl) rfl ?_
      refine wlv (op_assign (lt_ rfl) rfl) rfl ?_
      refine WL.nil ?_
      refine WX.regs (L' := [(6, _)]) ?_
      refine WX.next ?_
      refine WC.ret ?_
      have hfm : formatM D fi (k : Int) = ((writeM D fi g 0 []).1, (writeM D fi g 0 []).2.2) := by unfold formatM; rw [if_neg h1, ← hg, if_neg (fun h => h rfl)]
      rw [hfm]
      dsimp only
      exact Fin.ret1 xI ((A9, c9)) (trivial) Try.results12 (.tmp rfl) xT (by simp)
end Go.Proofs.Ytkjlbedebmffgaa.Sx

set_option linter.unusedVariables false
set_option linter.unusedSimpArgs false
namespace Go.Proofs.Ytkjlbedebmffgaa.Sx
open Go.RowKit Go.Proofs.Ytkjlbedebmffgaa.Ty
attribute [local irreducible] blk own rd rx frameC

abbrev Ara := Option (Int × Int × List (List UInt8))
def pickM (a b : Ara) : Ara := match b with
  | none => a
  | some y => match a with
    | none => some y
    | some x => if y.1 > x.1 then some y else some x
def arM (D : Dk) (fi : Int) (k n : Nat) : Ara := areaM n (D.seen (fi + (n : Int) * ((k / 2 : Nat) : Int)) (k / 2))
def pkM (D : Dk) (fi : Int) (k : Nat) : Nat → Ara
  | 0 => none
  | n + 1 => pickM (pkM D fi k n) (arM D fi k n)
def jn0 (fi se g f : Int) : Jn := ⟨fi, se, g % 2, 0, f, 0, 0, 0⟩
theorem fits_ok {a : Ar} {x : Ara} (h : a.fits x) : a.ok = x.isSome := by
  cases x with
  | none => rw [show a = Ar.zero from h]; rfl
  | some y => exact h.1
theorem fits_take {a b : Ar} {x y : Ara} (ha : a.fits x) (hb : b.fits y) (h1 : b.ok = true) (h2 : a.ok = false ∨ b.g > a.g) : b.fits (pickM x y) := by
  cases y with
  | none => rw [fits_ok hb] at h1; cases h1
  | some y =>
    cases x with
    | none => exact hb
    | some x =>
      have h3 : a.ok = true := ha.1
      have h4 : b.g > a.g := h2.resolve_left (by rw [h3]; simp)
      have h5 : y.1 > x.1 := by rw [← hb.2.1, ← ha.2.1]; exact h4
      simp only [pickM]
      rw [if_pos h5]
      exact hb
theorem fits_keep {a b : Ar} {x y : Ara} (ha : a.fits x) (hb : b.fits y) (h : b.ok = false ∨ a.ok = true ∧ ¬ b.g > a.g) : a.fits (pickM x y) := by
  cases y with
  | none => exact ha
  | some y =>
    have h1 : b.ok = true := hb.1
    obtain ⟨h2, h3⟩ := h.resolve_left (by rw [h1]; simp)
    cases x with
    | none => rw [fits_ok ha] at h2; cases h2
    | some x =>
      have h5 : ¬ y.1 > x.1 := by rw [← hb.2.1, ← ha.2.1]; exact h3
      simp only [pickM]
      rw [if_neg h5]
      exact ha
/-- The cells of entries with consecutive numbers. -/
def entC : Int → List Bs → List Value
  | _, [] => []
  | n, r :: rs => .int .i64 n :: r.v :: entC (n + 1) rs
theorem entC_snoc (rs : List Bs) (r : Bs) : ∀ n : Int, entC n (rs ++ [r]) = entC n rs ++ [.int .i64 (n + rs.length), r.v] := by
  induction rs with
  | nil => intro n; simp [entC]
  | cons x rs ih =>
    intro n
    simp only [List.cons_append, entC, ih, List.length_cons]
    congr 5
    omega
theorem entC_one (rs : List Bs) : ∀ n : Int, (entC n rs).all (·.oneCell') = true := by
  induction rs with
  | nil => intro n; rfl
  | cons r rs ih => intro n; simp only [entC, List.all_cons, ih]; rfl
set_option maxHeartbeats 400000 in
set_option maxRecDepth 10000 in
theorem f14_ok (bd bm : Nat) (A : Option Addr) (c : Nat) (D : Dk) (fi : Int) (k : Nat) (g f : Int) (es : List (List UInt8)) (hck : D.check fi (k : Int) = 0) (hpk : pkM D fi k 2 = some (g, f, es)) (hg : 0 ≤ g ∧ g ≤ 2147483647) (hf : 0 ≤ f ∧ f ≤ 2147483647) (hes : ∀ p ∈ es, p.length ≤ 131072) (hn : D.n ≤ 1000000) (hmx : D.pend.length + (1 + needs es) ≤ 1000000) (hch : (changeM D (jn0 fi (k : Int) g f) f es).2.2 = 0) :
    Spec Try.prog 14 [.pointer (some ⟨bd, 0, none⟩), .int .i64 fi, .int .i64 (k : Int)] [blk bd (dcells D bm A c) 66, mapC bm (dmap D.dur), own (.slice A D.pend.length c) 84 257 D.pend.length (D.pend.flatMap wcs)] [] (R := (Option Addr × Nat) × Nat × (Option Addr × Nat) × List Bs × (Option Addr × Nat) × List Bs)
      (fun q => q.2.2.2.1.map Bs.s = es ∧ q.2.2.2.2.2.map Bs.s = es) (fun q => .tuple #[.pointer (some ⟨q.2.1, 0, none⟩), .slice q.2.2.2.2.1.1 q.2.2.2.2.2.length q.2.2.2.2.1.2, .int .i64 0])
      (fun q => [blk bd (dcells (changeM D (jn0 fi (k : Int) g f) f es).1 bm q.1.1 q.1.2) 66, mapC bm (dmap (changeM D (jn0 fi (k : Int) g f) f es).1.dur), own (.slice q.1.1 (changeM D (jn0 fi (k : Int) g f) f es).1.pend.length q.1.2) 84 257 (changeM D (jn0 fi (k : Int) g f) f es).1.pend.length ((changeM D (jn0 fi (k : Int) g f) f es).1.pend.flatMap wcs), blk q.2.1 (jcells (changeM D (jn0 fi (k : Int) g f) f es).2.1 bd q.2.2.1.1 q.2.2.2.1.length q.2.2.1.2) 76, own (.slice q.2.2.1.1 q.2.2.2.1.length q.2.2.1.2) 23 1 q.2.2.2.1.length (q.2.2.2.1.map Bs.v), rowsC true q.2.2.2.1, own (.slice q.2.2.2.2.1.1 q.2.2.2.2.2.length q.2.2.2.2.1.2) 49 2 q.2.2.2.2.2.length (entC f q.2.2.2.2.2), rowsC true q.2.2.2.2.2]) := by
  have hck2 := check_ok hck
  refine Spec.intro Try.func14 Try.ntmps14 rfl (by simp) (by simp) fun w0 => ?_
  refine WC.seq ?_
  refine WC.region ?_
  refine wlv (op_assign (lt_ rfl) rfl) rfl ?_
  refine wlv (op_assign (lt_ rfl) rfl) rfl ?_
  refine wlv (op_assign (lt_ rfl) rfl) rfl ?_
  refine WL.nil ?_
  refine WX.regs (L' := [(0, _), (1, _), (2, _)]) ?_
  refine WX.next ?_
  refine WC.seq ?_
  refine WC.region ?_
  refine wlv (op_move (lt_ rfl) rfl) rfl ?_
  refine wlv (op_move (lt_ rfl) rfl) rfl ?_
  refine wlv (op_move (lt_ rfl) rfl) rfl ?_
  refine wlv (op_build (cs := [.pointer (some ⟨bd, 0, none⟩), .int .i64 fi, .int .i64 (k : Int)]) (pv := [(0, _), (1, _), (2, _)]) (lt_ rfl) rfl (by kernel_rfl)) rfl ?_
  refine wl1 (op_alloc ti68 (lt_ rfl)) rfl fun b1 => ?_
  refine wl (op_storeAll sz68 rfl rfl xK xL xO xL) rfl ?_
  change WL _ _ _ _ _ _ _
  refine WL.nil ?_
  refine WX.regs (L' := [(9, _)]) ?_
  refine WX.next ?_
  refine WC.seq ?_
  refine WC.seq ?_
  refine WC.region ?_
  refine wlv (op_loadAll ag68 (lt_ rfl) rfl xM xL) rfl ?_
  refine wlx (op_call (f32_spec bd bm A c D fi (k : Int) hn (by omega)) ca32 (lt_ rfl) rfl) rfl ?_
  rintro _ _
  refine wlv (op_assign (lt_ rfl) rfl) rfl ?_
  refine WL.nil ?_
  refine WX.regs (L' := [(9, _), (10, _)]) ?_
  refine WX.next ?_
  refine WC.seq ?_
  refine WC.region ?_
  refine wlv (op_move (lt_ rfl) rfl) rfl ?_
  refine wlv (op_neq (lt_ rfl) rfl rfl) rfl ?_
  refine WL.nil ?_
  refine WX.regs (L' := [(9, _), (10, _), (27, _)]) ?_
  refine WX.next ?_
  refine WC.cond rfl (fun h1 => ?_) (fun h1 => ?_)
  ·
    exact absurd hck h1
  ·
    refine WC.skip ?_
    refine WX.next ?_
    refine WC.seq ?_
    refine WC.region ?_
    refine wl1 (op_alloc ti72 (lt_ rfl)) rfl fun b2 => ?_
    refine WL.nil ?_
    refine WX.regs (L' := [(9, _), (11, _)]) ?_
    refine WX.next ?_
    refine WC.seq ?_
    refine WC.seq ?_
    refine WC.region ?_
    refine wlv (op_move (lt_ rfl) rfl) rfl ?_
    refine WL.nil ?_
    refine WX.regs (L' := [(9, _), (11, _), (29, _)]) ?_
    refine WX.next ?_
    refine WC.block ?_
    refine WC.nilrows true ?_
    refine WC.nilslice 23 1 ?_
    refine WC.loop (X := Nat × Ar) (fun q => 2 - q.1) (fun q => q.1 ≤ 2 ∧ q.2.fits (pkM D fi k q.1)) (fun q => [(9, .pointer (some ⟨b1, 0, none⟩)), (11, .pointer (some ⟨b2, 0, none⟩)), (29, .int .i64 (q.1 : Int))]) (fun q => [blk b2 q.2.cells 72, own (.slice q.2.A q.2.es.length q.2.c) 23 1 q.2.es.length (q.2.es.map Bs.v), rowsC true q.2.es, blk b1 [.pointer (some ⟨bd, 0, none⟩), .int .i64 fi, .int .i64 (k : Int)] 68, blk bd (dcells D bm A c) 66, mapC bm (dmap D.dur), own (.slice A D.pend.length c) 84 257 D.pend.length (D.pend.flatMap wcs), frameC w0 (MutF [blk bd (dcells D bm A c) 66, mapC bm (dmap D.dur), own (.slice A D.pend.length c) 84 257 D.pend.length (D.pend.flatMap wcs)])]) ((0, Ar.zero)) (⟨Nat.zero_le _, rfl⟩) (fun a w hs => hs.sub xY xT) ?_
    rintro ⟨i, best⟩ ⟨hi, hft⟩
    try dsimp only at hi hft ⊢
    refine WC.seq ?_
    refine WC.region ?_
    refine wlv (op_lss (lt_ rfl) rfl rfl) rfl ?_
    refine WL.nil ?_
    refine WX.regs (L' := [(9, _), (11, _), (29, _), (30, _)]) ?_
    refine WX.next ?_
    refine WC.seq ?_
    refine WC.cond rfl (fun h2 => ?_) (fun h2 => ?_)
    ·
      refine WC.skip ?_
      refine WX.next ?_
      refine WC.seq ?_
      refine WC.block ?_
      refine WC.seq ?_
      refine WC.region ?_
      refine wlv (op_move (lt_ rfl) rfl) rfl ?_
      refine wlv (op_assign (lt_ rfl) rfl) rfl ?_
      refine WL.nil ?_
      refine WX.regs (L' := [(9, _), (11, _), (12, _), (29, _)]) ?_
      refine WX.next ?_
      refine WC.seq ?_
      refine WC.region ?_
      refine wlv (op_loadAll ag68 (lt_ rfl) rfl xM xL) rfl ?_
      refine wlv (op_move (lt_ rfl) rfl) rfl ?_
      refine wlx (op_call (f35_spec bd bm A c D fi (i : Int) k (by omega) hck2.2.2.2.2 (by omega) hn (by omega)) ca35 (lt_ rfl) rfl) rfl ?_
      rintro a ha
      refine wlv (op_move (lt_ rfl) rfl) rfl ?_
      refine wlv (op_extract (lt_ rfl) rfl rfl) rfl ?_
      refine wlv (op_extract (lt_ rfl) rfl rfl) rfl ?_
      refine wl1 (op_alloc ti72 (lt_ rfl)) rfl fun b3 => ?_
      refine wl (op_storeAll sz72 rfl rfl xK xL xO xL) rfl ?_
      change WL _ _ _ _ _ _ _
      refine wlv (op_assign (lt_ rfl) rfl) rfl ?_
      refine WL.nil ?_
      refine WX.regs (L' := [(9, _), (11, _), (13, _), (14, _), (29, _)]) ?_
      refine WX.next ?_
      refine WC.seq ?_
      refine WC.seq ?_
      refine WC.region ?_
      refine wlv (op_move (lt_ rfl) rfl) rfl ?_
      refine wlv (op_neq (lt_ rfl) rfl rfl) rfl ?_
      refine WL.nil ?_
      refine WX.regs (L' := [(9, _), (11, _), (13, _), (14, _), (29, _), (39, _)]) ?_
      refine WX.next ?_
      refine WC.cond rfl (fun h3 => ?_) (fun h3 => ?_)
      ·
        exact absurd rfl h3
      ·
        refine WC.skip ?_
        refine WX.next ?_
        refine WC.seq ?_
        refine WC.region ?_
        refine wlv (op_fieldAddr fo72_0 (lt_ rfl) rfl) rfl ?_
        refine wlv (op_load1 fl4 (lt_ rfl) rfl xM rfl) rfl ?_
        refine wlv (op_move (lt_ rfl) rfl) rfl ?_
        refine WL.splitb (t := 43) rfl (fun g43 => ?_) (fun g43 => ?_)
        ·
          refine wlgv (op_fieldAddr fo72_0 (lt_ rfl) rfl) rfl rfl rfl ?_
          refine wlgv (op_load1 fl4 (lt_ rfl) rfl xM rfl) rfl rfl rfl ?_
          refine wlgv (op_not (lt_ rfl) rfl) rfl rfl rfl ?_
          refine wlgv (op_move (lt_ rfl) rfl) rfl rfl rfl ?_
          refine WL.splitb (t := 47) rfl (fun g47 => ?_) (fun g47 => ?_)
          ·
            refine wlg_no rfl rfl rfl rfl rfl (by decide) ?_
            refine wlg_no rfl rfl rfl rfl rfl (by decide) ?_
            refine wlg_no rfl rfl rfl rfl rfl (by decide) ?_
            refine wlg_no rfl rfl rfl rfl rfl (by decide) ?_
            refine wlg_no rfl rfl rfl rfl rfl (by decide) ?_
            refine wlgv (op_pickT (lt_ rfl) rfl rfl) rfl rfl rfl ?_
            refine wlv (op_pickT (lt_ rfl) rfl rfl) rfl ?_
            refine WL.nil ?_
            refine WX.regs (L' := [(9, _), (11, _), (13, _), (29, _), (54, _)]) ?_
            refine WX.next ?_
            refine WC.condT rfl ?_
            refine WC.region ?_
            refine wlv (op_loadAll ag72 (lt_ rfl) rfl xM xL) rfl ?_
            refine wl (op_storeAll sz72 rfl rfl xK xL xO xL) rfl ?_
            change WL _ _ _ _ _ _ _
            refine WL.nil ?_
            refine WX.regs (L' := [(9, _), (11, _), (29, _)]) ?_
            refine WX.in_normal ?_
            refine WX.next ?_
            refine WC.region ?_
            refine wlv (op_add (lt_ rfl) rfl rfl (by omega)) rfl ?_
            refine wlv (op_move (lt_ rfl) rfl) rfl ?_
            refine WL.nil ?_
            refine WX.regs (L' := [(9, _), (11, _), (29, _)]) ?_
            refine WX.meet ((i + 1, a)) ⟨⟨by simp only []; omega, fits_take hft ha (by assumption) (by first | (right; assumption) | (left; simp_all; done))⟩, by simp only []; omega⟩ (fun a w hs => hs.sub xY xT)
          ·
            refine wlgv (op_fieldAddr fo72_1 (lt_ rfl) rfl) rfl rfl rfl ?_
            refine wlgv (op_load1 fl3 (lt_ rfl) rfl xM rfl) rfl rfl rfl ?_
            refine wlgv (op_fieldAddr fo72_1 (lt_ rfl) rfl) rfl rfl rfl ?_
            refine wlgv (op_load1 fl3 (lt_ rfl) rfl xM rfl) rfl rfl rfl ?_
            refine wlgv (op_gtr (lt_ rfl) rfl rfl) rfl rfl rfl ?_
            refine wlgv (op_pickF (lt_ rfl) rfl rfl) rfl rfl rfl ?_
            refine wlv (op_pickT (lt_ rfl) rfl rfl) rfl ?_
            refine WL.nil ?_
            refine WX.regs (L' := [(9, _), (11, _), (13, _), (29, _), (54, _)]) ?_
            refine WX.next ?_
            refine WC.cond rfl (fun h4 => ?_) (fun h4 => ?_)
            ·
              refine WC.region ?_
              refine wlv (op_loadAll ag72 (lt_ rfl) rfl xM xL) rfl ?_
              refine wl (op_storeAll sz72 rfl rfl xK xL xO xL) rfl ?_
              change WL _ _ _ _ _ _ _
              refine WL.nil ?_
              refine WX.regs (L' := [(9, _), (11, _), (29, _)]) ?_
              refine WX.in_normal ?_
              refine WX.next ?_
              refine WC.region ?_
              refine wlv (op_add (lt_ rfl) rfl rfl (by omega)) rfl ?_
              refine wlv (op_move (lt_ rfl) rfl) rfl ?_
              refine WL.nil ?_
              refine WX.regs (L' := [(9, _), (11, _), (29, _)]) ?_
              refine WX.meet ((i + 1, a)) ⟨⟨by simp only []; omega, fits_take hft ha (by assumption) (by first | (right; assumption) | (left; simp_all; done))⟩, by simp only []; omega⟩ (fun a w hs => hs.sub xY xT)
            ·
              refine WC.skip ?_
              refine WX.in_normal ?_
              refine WX.next ?_
              refine WC.region ?_
              refine wlv (op_add (lt_ rfl) rfl rfl (by omega)) rfl ?_
              refine wlv (op_move (lt_ rfl) rfl) rfl ?_
              refine WL.nil ?_
              refine WX.regs (L' := [(9, _), (11, _), (29, _)]) ?_
              refine WX.meet ((i + 1, best)) ⟨⟨by simp only []; omega, fits_keep hft ha (by first | (left; assumption) | (right; refine ⟨by first | assumption | simp_all, by assumption⟩))⟩, by simp only []; omega⟩ (fun a w hs => hs.sub xY xT)
        ·
          refine wlg_no rfl rfl rfl rfl rfl (by decide) ?_
          refine wlg_no rfl rfl rfl rfl rfl (by decide) ?_
          refine wlg_no rfl rfl rfl rfl rfl (by decide) ?_
          refine wlg_no rfl rfl rfl rfl rfl (by decide) ?_
          refine wlg_undef rfl rfl rfl rfl (by decide) ?_
          refine wlg_undef rfl rfl rfl rfl (by decide) ?_
          refine wlg_undef rfl rfl rfl rfl (by decide) ?_
          refine wlg_undef rfl rfl rfl rfl (by decide) ?_
          refine wlg_undef rfl rfl rfl rfl (by decide) ?_
          refine wlg_no rfl rfl rfl rfl rfl (by decide) ?_
          refine wlv (op_pickF (lt_ rfl) rfl rfl) rfl ?_
          refine WL.nil ?_
          refine WX.regs (L' := [(9, _), (11, _), (13, _), (29, _), (54, _)]) ?_
          refine WX.next ?_
          refine WC.condF rfl ?_
          refine WC.skip ?_
          refine WX.in_normal ?_
          refine WX.next ?_
          refine WC.region ?_
          refine wlv (op_add (lt_ rfl) rfl rfl (by omega)) rfl ?_
          refine wlv (op_move (lt_ rfl) rfl) rfl ?_
          refine WL.nil ?_
          refine WX.regs (L' := [(9, _), (11, _), (29, _)]) ?_
          refine WX.meet ((i + 1, best)) ⟨⟨by simp only []; omega, fits_keep hft ha (by first | (left; assumption) | (right; refine ⟨by first | assumption | simp_all, by assumption⟩))⟩, by simp only []; omega⟩ (fun a w hs => hs.sub xY xT)
    ·
      refine WC.exit ?_
      refine WX.then_exit ?_
      refine WX.then_exit ?_
      refine WX.in_hit ?_
      refine WX.next ?_
      refine WC.seq ?_
      refine WC.seq ?_
      refine WC.region ?_
      refine wlv (op_fieldAddr fo72_0 (lt_ rfl) rfl) rfl ?_
      refine wlv (op_load1 fl4 (lt_ rfl) rfl xM rfl) rfl ?_
      refine wlv (op_not (lt_ rfl) rfl) rfl ?_
      refine WL.nil ?_
      have hbest : best.ok = true ∧ best.g = g ∧ best.f = f ∧ best.es.map Bs.s = es := by have hft2 := hft; rw [show i = 2 by omega, hpk] at hft2; exact hft2
      obtain ⟨hbok, rfl, rfl, rfl⟩ := hbest
      have hesl : best.es.length ≤ 1000000 := by have := needs_le (best.es.map Bs.s); rw [List.length_map] at this; omega
      refine WX.regs (L' := [(9, _), (11, _), (59, _)]) ?_
      refine WX.next ?_
      refine WC.condb rfl (fun h5 => ?_) (fun h5 => ?_)
      ·
        rw [hbok] at h5; cases h5
      ·
        refine WC.skip ?_
        refine WX.next ?_
        refine WC.seq ?_
        refine WC.region ?_
        refine wlv (op_loadAll ag68 (lt_ rfl) rfl xM xL) rfl ?_
        refine wlv (op_fieldAddr fo72_1 (lt_ rfl) rfl) rfl ?_
        refine wlv (op_load1 fl3 (lt_ rfl) rfl xM rfl) rfl ?_
        refine wlv (op_rem (lt_ rfl) rfl rfl (by omega) (by omega)) rfl ?_
        refine wlv (op_fieldAddr fo72_2 (lt_ rfl) rfl) rfl ?_
        refine wlv (op_load1 fl3 (lt_ rfl) rfl xM rfl) rfl ?_
        refine wlv (op_build (cs := [.pointer (some ⟨bd, 0, none⟩), .int .i64 fi, .int .i64 (k : Int), .int .i64 (best.g % 2), .int .i64 0, .int .i64 best.f, .slice none 0 0, .int .i64 0, .int .i64 0, .int .i64 0]) (pv := [(0, _), (1, _), (3, _)]) (lt_ rfl) rfl (by kernel_rfl)) rfl ?_
        refine wl1 (op_box (lt_ rfl) rfl rfl) rfl fun b4 => ?_
        refine wlv (op_assign (lt_ rfl) rfl) rfl ?_
        refine WL.nil ?_
        refine WX.blkEq (b := b4) (jcells (jn0 fi (k : Int) best.g best.f) bd none 0 0) xK (by rfl) ?_
        refine WX.regs (L' := [(11, _), (15, _)]) ?_
        refine WX.next ?_
        refine WC.seq ?_
        refine WC.seq ?_
        refine WC.region ?_
        refine wlv (op_move (lt_ rfl) rfl) rfl ?_
        refine wlv (op_fieldAddr fo72_2 (lt_ rfl) rfl) rfl ?_
        refine wlv (op_load1 fl3 (lt_ rfl) rfl xM rfl) rfl ?_
        refine wlv (op_fieldAddr fo72_3 (lt_ rfl) rfl) rfl ?_
        refine wlv (op_load1 fl70 (lt_ rfl) rfl xM rfl) rfl ?_
        refine wlx (op_call (f36_spec bd bm A c D b4 (jn0 fi (k : Int) best.g best.f) none best.A best.A 0 0 best.es.length best.c best.es.length best.c best.f best.es best.es own_le_rd (fun _ h => h) rfl rfl hck2.2.2.2.2 (by simp only [jn0]; omega) (by simp only [jn0]; omega) hn (by omega) (fun r hr => hes _ (List.mem_map_of_mem hr)) hesl hmx) ca36 (lt_ rfl) rfl) rfl ?_
        rintro ⟨⟨A9, c9⟩, ⟨Aj2, mj2, cj2⟩, A8, c8, es8, rw8⟩ hq
        dsimp only at hq
        obtain ⟨hch2, h8, h9⟩ := hq.resolve_right (fun h => h.1 hch)
        simp only [Prod.mk.injEq] at h8 h9
        obtain ⟨rfl, rfl⟩ := h8
        obtain ⟨rfl, rfl, rfl⟩ := h9
        dsimp only
        refine wlv (op_assign (lt_ rfl) rfl) rfl ?_
        refine WL.nil ?_
        refine WX.regs (L' := [(11, _), (15, _), (16, _)]) ?_
        refine WX.next ?_
        refine WC.seq ?_
        refine WC.region ?_
        refine wlv (op_move (lt_ rfl) rfl) rfl ?_
        refine wlv (op_neq (lt_ rfl) rfl rfl) rfl ?_
        refine WL.nil ?_
        refine WX.regs (L' := [(11, _), (15, _), (16, _), (75, _)]) ?_
        refine WX.next ?_
        refine WC.cond rfl (fun h6 => ?_) (fun h6 => ?_)
        ·
          exact absurd hch h6
        ·
          refine WC.skip ?_
          refine WX.next ?_
          refine WC.seq ?_
          refine WC.region ?_
          refine wlv (op_assign (lt_ rfl) rfl) rfl ?_
          refine WL.nil ?_
          refine WX.regs (L' := [(11, _), (15, _), (17, _)]) ?_
          refine WX.next ?_
          refine WC.seq ?_
          refine WC.seq ?_
          refine WC.region ?_
          refine wlv (op_fieldAddr fo72_3 (lt_ rfl) rfl) rfl ?_
          refine wlv (op_load1 fl70 (lt_ rfl) rfl xM rfl) rfl ?_
          refine wlv (op_len Try.underlying70 (lt_ rfl) rfl) rfl ?_
          refine wlv (op_move (lt_ rfl) rfl) rfl ?_
          refine WL.nil ?_
          refine WX.regs (L' := [(11, _), (15, _), (17, _), (78, _), (79, _), (80, _)]) ?_
          refine WX.next ?_
          refine WC.block ?_
          refine WC.nilrows true ?_
          refine WC.nilslice 49 2 ?_
          refine WC.loop (X := Nat × Option Addr × Nat × List Bs) (fun q => best.es.length - q.1) (fun q => q.1 ≤ best.es.length ∧ q.2.2.2.map Bs.s = (best.es.map Bs.s).take q.1) (fun q => [(11, .pointer (some ⟨b2, 0, none⟩)), (15, .pointer (some ⟨b4, 0, none⟩)), (17, .slice q.2.1 q.2.2.2.length q.2.2.1), (78, .slice best.A best.es.length best.c), (79, .int .i64 (best.es.length : Int)), (80, .int .i64 (q.1 : Int))]) (fun q => [own (.slice q.2.1 q.2.2.2.length q.2.2.1) 49 2 q.2.2.2.length (entC best.f q.2.2.2), rowsC true q.2.2.2, rowsC true best.es, own (.slice best.A best.es.length best.c) 23 1 best.es.length (best.es.map Bs.v), own (.slice Aj2 best.es.length cj2) 23 1 best.es.length (best.es.map Bs.v), blk b2 best.cells 72, blk b4 (jcells (changeM D (jn0 fi (k : Int) best.g best.f) best.f (best.es.map Bs.s)).2.1 bd Aj2 best.es.length cj2) 76, blk bd (dcells (changeM D (jn0 fi (k : Int) best.g best.f) best.f (best.es.map Bs.s)).1 bm A9 c9) 66, mapC bm (dmap (changeM D (jn0 fi (k : Int) best.g best.f) best.f (best.es.map Bs.s)).1.dur), own (.slice A9 (changeM D (jn0 fi (k : Int) best.g best.f) best.f (best.es.map Bs.s)).1.pend.length c9) 84 257 (changeM D (jn0 fi (k : Int) best.g best.f) best.f (best.es.map Bs.s)).1.pend.length ((changeM D (jn0 fi (k : Int) best.g best.f) best.f (best.es.map Bs.s)).1.pend.flatMap wcs), frameC w0 (MutF [blk bd (dcells D bm A c) 66, mapC bm (dmap D.dur), own (.slice A D.pend.length c) 84 257 D.pend.length (D.pend.flatMap wcs)])]) ((0, none, 0, [])) (⟨Nat.zero_le _, by rfl⟩) (fun a w hs => hs.sub xY xT) ?_
          rintro ⟨i, Ao, co, rs⟩ ⟨hi, hrs⟩
          try dsimp only at hi hrs ⊢
          refine WC.seq ?_
          refine WC.region ?_
          refine wlv (op_lss (lt_ rfl) rfl rfl) rfl ?_
          refine WL.nil ?_
          refine WX.regs (L' := [(11, _), (15, _), (17, _), (78, _), (79, _), (80, _), (81, _)]) ?_
          refine WX.next ?_
          refine WC.seq ?_
          refine WC.cond rfl (fun h7 => ?_) (fun h7 => ?_)
          ·
            refine WC.skip ?_
            refine WX.next ?_
            refine WC.seq ?_
            refine WC.block ?_
            refine WC.seq ?_
            refine WC.region ?_
            obtain ⟨ri, hri⟩ : ∃ r, best.es[i]? = some r := ⟨best.es[i]'(by omega), List.getElem?_eq_getElem _⟩
            have hrl : rs.length = i := by have := congrArg List.length hrs; simp only [List.length_map, List.length_take] at this; omega
            refine wlv (op_move (lt_ rfl) rfl) rfl ?_
            refine wlv (op_index Try.underlying70 sz23 (lt_ rfl) rfl rfl (by omega) (by omega) (by decide) xS) rfl ?_
            refine wlv (op_loadS fl23 (lt_ rfl) rfl xS (rows_at' hri (by omega))) rfl ?_
            refine wlv (op_assign (lt_ rfl) rfl) rfl ?_
            refine wlv (op_assign (lt_ rfl) rfl) rfl ?_
            refine WL.nil ?_
            refine WX.regs (L' := [(11, _), (15, _), (17, _), (18, _), (19, _), (78, _), (79, _), (80, _)]) ?_
            refine WX.next ?_
            refine WC.drawn (Hs := [blk b2 best.cells 72]) mo 999 ?_
            refine WA.take (i := 0) rfl (by kernel_rfl) (fun _ _ _ h => h) rfl (op_move (lt_ rfl) rfl) xT ?_
            refine WA.take (i := 1) rfl (by kernel_rfl) (fun _ _ _ h => h) rfl (op_fieldAddr fo72_2 (lt_ rfl) rfl) xT ?_
            refine WA.take (i := 2) rfl (by kernel_rfl) (fun _ _ _ h => h) rfl (op_load1 fl3 (lt_ rfl) rfl xM rfl) xT ?_
            refine WA.take (i := 3) rfl (by kernel_rfl) (fun _ _ _ h => h) rfl (op_move (lt_ rfl) rfl) xT ?_
            refine WA.take (i := 4) rfl (by kernel_rfl) (fun _ _ _ h => h) rfl (op_add (lt_ rfl) rfl rfl (by omega)) xT ?_
            refine WA.take (i := 5) rfl (by kernel_rfl) (fun _ _ _ h => h) rfl (op_move (lt_ rfl) rfl) xT ?_
            refine WA.stepx (i := 6) (by kernel_rfl) rfl rfl (op_call (f37_spec ri.A ri.s.length ri.c ri.s rfl (by have := hes _ (List.mem_map_of_mem (f := Bs.s) (List.mem_of_getElem? hri)); omega)) ca37 (lt_ rfl) rfl (by apply Give.mk; (focus (repeat (first | exact Takes.nil | exact Take.here | apply Takes.cons | apply Take.there))); exact Reads.cons (c := rowsC true best.es) xM (by simp) (rowsC_get (r := ri) (List.mem_of_getElem? hri)) Reads.nil)) (fun _ r => xT) ?_
            rintro ⟨Ax, cx⟩ _
            refine WA.take (i := 7) rfl (by kernel_rfl) (fun _ _ _ h => h) rfl (op_build (cs := [.int .i64 (best.f + (i : Int)), .slice Ax ri.s.length cx]) (pv := [(0, _), (1, _)]) (lt_ rfl) rfl (by kernel_rfl)) xT ?_
            refine WA.step1 (i := 8) (by kernel_rfl) rfl rfl (op_lit1 Try.underlying33 ti49 rfl (by decide) (lt_ rfl) rfl rfl) (fun _ b => xT) fun b5 => ?_
            refine WA.step2 (i := 9) (by kernel_rfl) rfl rfl (op_append Try.underlying33 ti49 rfl (by decide) (lt_ rfl) rfl rfl xK xS xO (by omega) (by omega)) (fun _ A c => xT) fun A1 c1 => ?_
            refine WA.take (i := 10) rfl (by kernel_rfl) (fun _ _ _ h => h) rfl (op_assign (lt_ rfl) rfl) xT ?_
            refine WA.done (by kernel_rfl) ?_
            refine WX.regs (L' := [(11, _), (15, _), (17, _), (78, _), (79, _), (80, _)]) ?_
            refine WX.in_normal ?_
            refine WX.next ?_
            refine WC.region ?_
            refine wlv (op_add (lt_ rfl) rfl rfl (by omega)) rfl ?_
            refine wlv (op_move (lt_ rfl) rfl) rfl ?_
            refine WL.nil ?_
            refine WX.regs (L' := [(11, _), (15, _), (17, _), (78, _), (79, _), (80, _)]) ?_
            refine WX.ownEq (v := .slice A1 (rs.length + 1) c1) (entC best.f (rs ++ [(⟨Ax, cx, ri.s⟩ : Bs)])) xK (by rw [entC_snoc, hrl]; rfl) ?_
            refine WX.merge2 (c1 := rowsC true rs) (c2 := own (.slice Ax ri.s.length cx) 5 1 ri.s.length (bvs ri.s)) (d := rowsC true (rs ++ [(⟨Ax, cx, ri.s⟩ : Bs)])) xK xK (rowsC_snoc (own_le_bs rfl) (fun _ => by simp)) ?_
            rw [len_push rs ⟨Ax, cx, ri.s⟩]
            refine WX.meet ((i + 1, A1, c1, rs ++ [⟨Ax, cx, ri.s⟩])) ⟨⟨by simp only []; omega, by rw [take_snoc (x := ri.s) (by simp [hri]), List.map_append, hrs]; rfl⟩, by simp only []; omega⟩ (fun a w hs => hs.sub xY xT)
          ·
            refine WC.exit ?_
            refine WX.then_exit ?_
            refine WX.then_exit ?_
            refine WX.in_hit ?_
            refine WX.next ?_
            refine WC.seq ?_
            refine WC.region ?_
            refine wlv (op_move (lt_ rfl) rfl) rfl ?_
            refine wlv (op_move (lt_ rfl) rfl) rfl ?_
            refine wlv (op_assign (lt_ rfl) rfl) rfl ?_
            refine wlv (op_assign (lt_ rfl) rfl) rfl ?_
            refine wlv (op_assign (lt_ rfl) rfl) rfl ?_
            refine WL.nil ?_
            refine WX.regs (L' := [(6, _), (7, _), (8, _)]) ?_
            refine WX.next ?_
            refine WC.ret ?_
            exact Fin.ret3 xI (((A9, c9), b4, (Aj2, cj2), best.es, (Ao, co), rs)) (⟨rfl, by rw [hrs, List.take_of_length_le (by rw [List.length_map]; omega)]⟩) Try.results14 rfl (.tmp rfl) (.tmp rfl) (.tmp rfl) xT (by simp)
set_option maxHeartbeats 400000 in
set_option maxRecDepth 10000 in
theorem f14_err (bd bm : Nat) (A : Option Addr) (c : Nat) (D : Dk) (fi : Int) (k : Nat) (g f : Int) (es : List (List UInt8)) (hck : D.check fi (k : Int) = 0) (hpk : pkM D fi k 2 = some (g, f, es)) (hg : 0 ≤ g ∧ g ≤ 2147483647) (hf : 0 ≤ f ∧ f ≤ 2147483647) (hes : ∀ p ∈ es, p.length ≤ 131072) (hn : D.n ≤ 1000000) (hmx : D.pend.length + (1 + needs es) ≤ 1000000) (hch : ¬ (changeM D (jn0 fi (k : Int) g f) f es).2.2 = 0) :
    Spec Try.prog 14 [.pointer (some ⟨bd, 0, none⟩), .int .i64 fi, .int .i64 (k : Int)] [blk bd (dcells D bm A c) 66, mapC bm (dmap D.dur), own (.slice A D.pend.length c) 84 257 D.pend.length (D.pend.flatMap wcs)] [] (R := Option Addr × Nat)
      (fun _ => True) (fun q => .tuple #[.pointer none, .slice none 0 0, .int .i64 (changeM D (jn0 fi (k : Int) g f) f es).2.2])
      (fun q => [blk bd (dcells (changeM D (jn0 fi (k : Int) g f) f es).1 bm q.1 q.2) 66, mapC bm (dmap (changeM D (jn0 fi (k : Int) g f) f es).1.dur), own (.slice q.1 (changeM D (jn0 fi (k : Int) g f) f es).1.pend.length q.2) 84 257 (changeM D (jn0 fi (k : Int) g f) f es).1.pend.length ((changeM D (jn0 fi (k : Int) g f) f es).1.pend.flatMap wcs)]) := by
  have hck2 := check_ok hck
  refine Spec.intro Try.func14 Try.ntmps14 rfl (by simp) (by simp) fun w0 => ?_
  refine WC.seq ?_
  refine WC.region ?_
  refine wlv (op_assign (lt_ rfl) rfl) rfl ?_
  refine wlv (op_assign (lt_ rfl) rfl) rfl ?_
  refine wlv (op_assign (lt_ rfl) rfl) rfl ?_
  refine WL.nil ?_
  refine WX.regs (L' := [(0, _), (1, _), (2, _)]) ?_
  refine WX.next ?_
  refine WC.seq ?_
  refine WC.region ?_
  refine wlv (op_move (lt_ rfl) rfl) rfl ?_
  refine wlv (op_move (lt_ rfl) rfl) rfl ?_
  refine wlv (op_move (lt_ rfl) rfl) rfl ?_
  refine wlv (op_build (cs := [.pointer (some ⟨bd, 0, none⟩), .int .i64 fi, .int .i64 (k : Int)]) (pv := [(0, _), (1, _), (2, _)]) (lt_ rfl) rfl (by kernel_rfl)) rfl ?_
  refine wl1 (op_alloc ti68 (lt_ rfl)) rfl fun b1 => ?_
  refine wl (op_storeAll sz68 rfl rfl xK xL xO xL) rfl ?_
  change WL _ _ _ _ _ _ _
  refine WL.nil ?_
  refine WX.regs (L' := [(9, _)]) ?_
  refine WX.next ?_
  refine WC.seq ?_
  refine WC.seq ?_
  refine WC.region ?_
  refine wlv (op_loadAll ag68 (lt_ rfl) rfl xM xL) rfl ?_
  refine wlx (op_call (f32_spec bd bm A c D fi (k : Int) hn (by omega)) ca32 (lt_ rfl) rfl) rfl ?_
  rintro _ _
  refine wlv (op_assign (lt_ rfl) rfl) rfl ?_
  refine WL.nil ?_
  refine WX.regs (L' := [(9, _), (10, _)]) ?_
  refine WX.next ?_
  refine WC.seq ?_
  refine WC.region ?_
  refine wlv (op_move (lt_ rfl) rfl) rfl ?_
  refine wlv (op_neq (lt_ rfl) rfl rfl) rfl ?_
  refine WL.nil ?_
  refine WX.regs (L' := [(9, _), (10, _), (27, _)]) ?_
  refine WX.next ?_
  refine WC.cond rfl (fun h1 => ?_) (fun h1 => ?_)
  ·
    exact absurd hck h1
  ·
    refine WC.skip ?_
    refine WX.next ?_
    refine WC.seq ?_
    refine WC.region ?_
    refine wl1 (op_alloc ti72 (lt_ rfl)) rfl fun b2 => ?_
    refine WL.nil ?_
    refine WX.regs (L' := [(9, _), (11, _)]) ?_
    refine WX.next ?_
    refine WC.seq ?_
    refine WC.seq ?_
    refine WC.region ?_
    refine wlv (op_move (lt_ rfl) rfl) rfl ?_
    refine WL.nil ?_
    refine WX.regs (L' := [(9, _), (11, _), (29, _)]) ?_
    refine WX.next ?_
    refine WC.block ?_
    refine WC.nilrows true ?_
    refine WC.nilslice 23 1 ?_
    refine WC.loop (X := Nat × Ar) (fun q => 2 - q.1) (fun q => q.1 ≤ 2 ∧ q.2.fits (pkM D fi k q.1)) (fun q => [(9, .pointer (some ⟨b1, 0, none⟩)), (11, .pointer (some ⟨b2, 0, none⟩)), (29, .int .i64 (q.1 : Int))]) (fun q => [blk b2 q.2.cells 72, own (.slice q.2.A q.2.es.length q.2.c) 23 1 q.2.es.length (q.2.es.map Bs.v), rowsC true q.2.es, blk b1 [.pointer (some ⟨bd, 0, none⟩), .int .i64 fi, .int .i64 (k : Int)] 68, blk bd (dcells D bm A c) 66, mapC bm (dmap D.dur), own (.slice A D.pend.length c) 84 257 D.pend.length (D.pend.flatMap wcs), frameC w0 (MutF [blk bd (dcells D bm A c) 66, mapC bm (dmap D.dur), own (.slice A D.pend.length c) 84 257 D.pend.length (D.pend.flatMap wcs)])]) ((0, Ar.zero)) (⟨Nat.zero_le _, rfl⟩) (fun a w hs => hs.sub xY xT) ?_
    rintro ⟨i, best⟩ ⟨hi, hft⟩
    try dsimp only at hi hft ⊢
    refine WC.seq ?_
    refine WC.region ?_
    refine wlv (op_lss (lt_ rfl) rfl rfl) rfl ?_
    refine WL.nil ?_
    refine WX.regs (L' := [(9, _), (11, _), (29, _), (30, _)]) ?_
    refine WX.next ?_
    refine WC.seq ?_
    refine WC.cond rfl (fun h2 => ?_) (fun h2 => ?_)
    ·
      refine WC.skip ?_
      refine WX.next ?_
      refine WC.seq ?_
      refine WC.block ?_
      refine WC.seq ?_
      refine WC.region ?_
      refine wlv (op_move (lt_ rfl) rfl) rfl ?_
      refine wlv (op_assign (lt_ rfl) rfl) rfl ?_
      refine WL.nil ?_
      refine WX.regs (L' := [(9, _), (11, _), (12, _), (29, _)]) ?_
      refine WX.next ?_
      refine WC.seq ?_
      refine WC.region ?_
      refine wlv (op_loadAll ag68 (lt_ rfl) rfl xM xL) rfl ?_
      refine wlv (op_move (lt_ rfl) rfl) rfl ?_
      refine wlx (op_call (f35_spec bd bm A c D fi (i : Int) k (by omega) hck2.2.2.2.2 (by omega) hn (by omega)) ca35 (lt_ rfl) rfl) rfl ?_
      rintro a ha
      refine wlv (op_move (lt_ rfl) rfl) rfl ?_
      refine wlv (op_extract (lt_ rfl) rfl rfl) rfl ?_
      refine wlv (op_extract (lt_ rfl) rfl rfl) rfl ?_
      refine wl1 (op_alloc ti72 (lt_ rfl)) rfl fun b3 => ?_
      refine wl (op_storeAll sz72 rfl rfl xK xL xO xL) rfl ?_
      change WL _ _ _ _ _ _ _
      refine wlv (op_assign (lt_ rfl) rfl) rfl ?_
      refine WL.nil ?_
      refine WX.regs (L' := [(9, _), (11, _), (13, _), (14, _), (29, _)]) ?_
      refine WX.next ?_
      refine WC.seq ?_
      refine WC.seq ?_
      refine WC.region ?_
      refine wlv (op_move (lt_ rfl) rfl) rfl ?_
      refine wlv (op_neq (lt_ rfl) rfl rfl) rfl ?_
      refine WL.nil ?_
      refine WX.regs (L' := [(9, _), (11, _), (13, _), (14, _), (29, _), (39, _)]) ?_
      refine WX.next ?_
      refine WC.cond rfl (fun h3 => ?_) (fun h3 => ?_)
      ·
        exact absurd rfl h3
      ·
        refine WC.skip ?_
        refine WX.next ?_
        refine WC.seq ?_
        refine WC.region ?_
        refine wlv (op_fieldAddr fo72_0 (lt_ rfl) rfl) rfl ?_
        refine wlv (op_load1 fl4 (lt_ rfl) rfl xM rfl) rfl ?_
        refine wlv (op_move (lt_ rfl) rfl) rfl ?_
        refine WL.splitb (t := 43) rfl (fun g43 => ?_) (fun g43 => ?_)
        ·
          refine wlgv (op_fieldAddr fo72_0 (lt_ rfl) rfl) rfl rfl rfl ?_
          refine wlgv (op_load1 fl4 (lt_ rfl) rfl xM rfl) rfl rfl rfl ?_
          refine wlgv (op_not (lt_ rfl) rfl) rfl rfl rfl ?_
          refine wlgv (op_move (lt_ rfl) rfl) rfl rfl rfl ?_
          refine WL.splitb (t := 47) rfl (fun g47 => ?_) (fun g47 => ?_)
          ·
            refine wlg_no rfl rfl rfl rfl rfl (by decide) ?_
            refine wlg_no rfl rfl rfl rfl rfl (by decide) ?_
            refine wlg_no rfl rfl rfl rfl rfl (by decide) ?_
            refine wlg_no rfl rfl rfl rfl rfl (by decide) ?_
            refine wlg_no rfl rfl rfl rfl rfl (by decide) ?_
            refine wlgv (op_pickT (lt_ rfl) rfl rfl) rfl rfl rfl ?_
            refine wlv (op_pickT (lt_ rfl) rfl rfl) rfl ?_
            refine WL.nil ?_
            refine WX.regs (L' := [(9, _), (11, _), (13, _), (29, _), (54, _)]) ?_
            refine WX.next ?_
            refine WC.condT rfl ?_
            refine WC.region ?_
            refine wlv (op_loadAll ag72 (lt_ rfl) rfl xM xL) rfl ?_
            refine wl (op_storeAll sz72 rfl rfl xK xL xO xL) rfl ?_
            change WL _ _ _ _ _ _ _
            refine WL.nil ?_
            refine WX.regs (L' := [(9, _), (11, _), (29, _)]) ?_
            refine WX.in_normal ?_
            refine WX.next ?_
            refine WC.region ?_
            refine wlv (op_add (lt_ rfl) rfl rfl (by omega)) rfl ?_
            refine wlv (op_move (lt_ rfl) rfl) rfl ?_
            refine WL.nil ?_
            refine WX.regs (L' := [(9, _), (11, _), (29, _)]) ?_
            refine WX.meet ((i + 1, a)) ⟨⟨by simp only []; omega, fits_take hft ha (by assumption) (by first | (right; assumption) | (left; simp_all; done))⟩, by simp only []; omega⟩ (fun a w hs => hs.sub xY xT)
          ·
            refine wlgv (op_fieldAddr fo72_1 (lt_ rfl) rfl) rfl rfl rfl ?_
            refine wlgv (op_load1 fl3 (lt_ rfl) rfl xM rfl) rfl rfl rfl ?_
            refine wlgv (op_fieldAddr fo72_1 (lt_ rfl) rfl) rfl rfl rfl ?_
            refine wlgv (op_load1 fl3 (lt_ rfl) rfl xM rfl) rfl rfl rfl ?_
            refine wlgv (op_gtr (lt_ rfl) rfl rfl) rfl rfl rfl ?_
            refine wlgv (op_pickF (lt_ rfl) rfl rfl) rfl rfl rfl ?_
            refine wlv (op_pickT (lt_ rfl) rfl rfl) rfl ?_
            refine WL.nil ?_
            refine WX.regs (L' := [(9, _), (11, _), (13, _), (29, _), (54, _)]) ?_
            refine WX.next ?_
            refine WC.cond rfl (fun h4 => ?_) (fun h4 => ?_)
            ·
              refine WC.region ?_
              refine wlv (op_loadAll ag72 (lt_ rfl) rfl xM xL) rfl ?_
              refine wl (op_storeAll sz72 rfl rfl xK xL xO xL) rfl ?_
              change WL _ _ _ _ _ _ _
              refine WL.nil ?_
              refine WX.regs (L' := [(9, _), (11, _), (29, _)]) ?_
              refine WX.in_normal ?_
              refine WX.next ?_
              refine WC.region ?_
              refine wlv (op_add (lt_ rfl) rfl rfl (by omega)) rfl ?_
              refine wlv (op_move (lt_ rfl) rfl) rfl ?_
              refine WL.nil ?_
              refine WX.regs (L' := [(9, _), (11, _), (29, _)]) ?_
              refine WX.meet ((i + 1, a)) ⟨⟨by simp only []; omega, fits_take hft ha (by assumption) (by first | (right; assumption) | (left; simp_all; done))⟩, by simp only []; omega⟩ (fun a w hs => hs.sub xY xT)
            ·
              refine WC.skip ?_
              refine WX.in_normal ?_
              refine WX.next ?_
              refine WC.region ?_
              refine wlv (op_add (lt_ rfl) rfl rfl (by omega)) rfl ?_
              refine wlv (op_move (lt_ rfl) rfl) rfl ?_
              refine WL.nil ?_
              refine WX.regs (L' := [(9, _), (11, _), (29, _)]) ?_
              refine WX.meet ((i + 1, best)) ⟨⟨by simp only []; omega, fits_keep hft ha (by first | (left; assumption) | (right; refine ⟨by first | assumption | simp_all, by assumption⟩))⟩, by simp only []; omega⟩ (fun a w hs => hs.sub xY xT)
        ·
          refine wlg_no rfl rfl rfl rfl rfl (by decide) ?_
          refine wlg_no rfl rfl rfl rfl rfl (by decide) ?_
          refine wlg_no rfl rfl rfl rfl rfl (by decide) ?_
          refine wlg_no rfl rfl rfl rfl rfl (by decide) ?_
          refine wlg_undef rfl rfl rfl rfl (by decide) ?_
          refine wlg_undef rfl rfl rfl rfl (by decide) ?_
          refine wlg_undef rfl rfl rfl rfl (by decide) ?_
          refine wlg_undef rfl rfl rfl rfl (by decide) ?_
          refine wlg_undef rfl rfl rfl rfl (by decide) ?_
          refine wlg_no rfl rfl rfl rfl rfl (by decide) ?_
          refine wlv (op_pickF (lt_ rfl) rfl rfl) rfl ?_
          refine WL.nil ?_
          refine WX.regs (L' := [(9, _), (11, _), (13, _), (29, _), (54, _)]) ?_
          refine WX.next ?_
          refine WC.condF rfl ?_
          refine WC.skip ?_
          refine WX.in_normal ?_
          refine WX.next ?_
          refine WC.region ?_
          refine wlv (op_add (lt_ rfl) rfl rfl (by omega)) rfl ?_
          refine wlv (op_move (lt_ rfl) rfl) rfl ?_
          refine WL.nil ?_
          refine WX.regs (L' := [(9, _), (11, _), (29, _)]) ?_
          refine WX.meet ((i + 1, best)) ⟨⟨by simp only []; omega, fits_keep hft ha (by first | (left; assumption) | (right; refine ⟨by first | assumption | simp_all, by assumption⟩))⟩, by simp only []; omega⟩ (fun a w hs => hs.sub xY xT)
    ·
      refine WC.exit ?_
      refine WX.then_exit ?_
      refine WX.then_exit ?_
      refine WX.in_hit ?_
      refine WX.next ?_
      refine WC.seq ?_
      refine WC.seq ?_
      refine WC.region ?_
      refine wlv (op_fieldAddr fo72_0 (lt_ rfl) rfl) rfl ?_
      refine wlv (op_load1 fl4 (lt_ rfl) rfl xM rfl) rfl ?_
      refine wlv (op_not (lt_ rfl) rfl) rfl ?_
      refine WL.nil ?_
      have hbest : best.ok = true ∧ best.g = g ∧ best.f = f ∧ best.es.map Bs.s = es := by have hft2 := hft; rw [show i = 2 by omega, hpk] at hft2; exact hft2
      obtain ⟨hbok, rfl, rfl, rfl⟩ := hbest
      have hesl : best.es.length ≤ 1000000 := by have := needs_le (best.es.map Bs.s); rw [List.length_map] at this; omega
      refine WX.regs (L' := [(9, _), (11, _), (59, _)]) ?_
      refine WX.next ?_
      refine WC.condb rfl (fun h5 => ?_) (fun h5 => ?_)
      ·
        rw [hbok] at h5; cases h5
      ·
        refine WC.skip ?_
        refine WX.next ?_
        refine WC.seq ?_
        refine WC.region ?_
        refine wlv (op_loadAll ag68 (lt_ rfl) rfl xM xL) rfl ?_
        refine wlv (op_fieldAddr fo72_1 (lt_ rfl) rfl) rfl ?_
        refine wlv (op_load1 fl3 (lt_ rfl) rfl xM rfl) rfl ?_
        refine wlv (op_rem (lt_ rfl) rfl rfl (by omega) (by omega)) rfl ?_
        refine wlv (op_fieldAddr fo72_2 (lt_ rfl) rfl) rfl ?_
        refine wlv (op_load1 fl3 (lt_ rfl) rfl xM rfl) rfl ?_
        refine wlv (op_build (cs := [.pointer (some ⟨bd, 0, none⟩), .int .i64 fi, .int .i64 (k : Int), .int .i64 (best.g % 2), .int .i64 0, .int .i64 best.f, .slice none 0 0, .int .i64 0, .int .i64 0, .int .i64 0]) (pv := [(0, _), (1, _), (3, _)]) (lt_ rfl) rfl (by kernel_rfl)) rfl ?_
        refine wl1 (op_box (lt_ rfl) rfl rfl) rfl fun b4 => ?_
        refine wlv (op_assign (lt_ rfl) rfl) rfl ?_
        refine WL.nil ?_
        refine WX.blkEq (b := b4) (jcells (jn0 fi (k : Int) best.g best.f) bd none 0 0) xK (by rfl) ?_
        refine WX.regs (L' := [(11, _), (15, _)]) ?_
        refine WX.next ?_
        refine WC.seq ?_
        refine WC.seq ?_
        refine WC.region ?_
        refine wlv (op_move (lt_ rfl) rfl) rfl ?_
        refine wlv (op_fieldAddr fo72_2 (lt_ rfl) rfl) rfl ?_
        refine wlv (op_load1 fl3 (lt_ rfl) rfl xM rfl) rfl ?_
        refine wlv (op_fieldAddr fo72_3 (lt_ rfl) rfl) rfl ?_
        refine wlv (op_load1 fl70 (lt_ rfl) rfl xM rfl) rfl ?_
        refine wlx (op_call (f36_spec bd bm A c D b4 (jn0 fi (k : Int) best.g best.f) none best.A best.A 0 0 best.es.length best.c best.es.length best.c best.f best.es best.es own_le_rd (fun _ h => h) rfl rfl hck2.2.2.2.2 (by simp only [jn0]; omega) (by simp only [jn0]; omega) hn (by omega) (fun r hr => hes _ (List.mem_map_of_mem hr)) hesl hmx) ca36 (lt_ rfl) rfl) rfl ?_
        rintro ⟨⟨A9, c9⟩, ⟨Aj2, mj2, cj2⟩, A8, c8, es8, rw8⟩ hq
        dsimp only at hq
        obtain ⟨hch2, h8, h9⟩ := hq.resolve_left (fun h => hch h.1)
        simp only [Prod.mk.injEq] at h8 h9
        obtain ⟨rfl, rfl, rfl⟩ := h8
        obtain ⟨rfl, rfl⟩ := h9
        dsimp only
        refine wlv (op_assign (lt_ rfl) rfl) rfl ?_
        refine WL.nil ?_
        refine WX.regs (L' := [(11, _), (15, _), (16, _)]) ?_
        refine WX.next ?_
        refine WC.seq ?_
        refine WC.region ?_
        refine wlv (op_move (lt_ rfl) rfl) rfl ?_
        refine wlv (op_neq (lt_ rfl) rfl rfl) rfl ?_
        refine WL.nil ?_
        refine WX.regs (L' := [(11, _), (15, _), (16, _), (75, _)]) ?_
        refine WX.next ?_
        refine WC.cond rfl (fun h6 => ?_) (fun h6 => ?_)
        ·
          refine WC.seq ?_
          refine WC.region ?_
          refine wlv (op_move (lt_ rfl) rfl) rfl ?_
          refine wlv (op_assign (lt_ rfl) rfl) rfl ?_
          refine wlv (op_assign (lt_ rfl) rfl) rfl ?_
          refine wlv (op_assign (lt_ rfl) rfl) rfl ?_
          refine WL.nil ?_
          refine WX.regs (L' := [(6, _), (7, _), (8, _)]) ?_
          refine WX.next ?_
          refine WC.ret ?_
          refine WX.then_ret ?_
          exact Fin.ret3 xI ((A9, c9)) (trivial) Try.results14 rfl (.tmp rfl) (.tmp rfl) (.tmp rfl) xT (by simp)
        ·
          exact absurd hch h6
end Go.Proofs.Ytkjlbedebmffgaa.Sx

set_option linter.unusedVariables false
set_option linter.unusedSimpArgs false
namespace Go.Proofs.Ytkjlbedebmffgaa.Sx
open Go.RowKit Go.Proofs.Ytkjlbedebmffgaa.Ty
attribute [local irreducible] blk own rd rx frameC

def Jn.watch (J : Jn) (e : Int) : Jn := if e = 28 then { J with failed := e } else J
def syncM (D : Dk) (J : Jn) (m : Nat) : Dk × Jn × Int :=
  if ¬ J.failed = 0 then (D, J, J.failed) else if ¬ D.flush.2 = 0 then (D.flush.1, J.watch D.flush.2, D.flush.2) else (D.flush.1, { J with synced := J.first + m }, 0)
/-- A contract whose results are told in another way. -/
theorem Spec.conseq {P : Program} {f : FuncId} {args : List Value} {T D : List Ch} {R R' : Type} {φ : R → Prop} {ret : R → Value} {B : R → List Ch} {φ' : R' → Prop} {ret' : R' → Value} {B' : R' → List Ch} (h : Spec P f args T D φ ret B)
    (k : ∀ r, φ r → ∃ r', φ' r' ∧ ret r = ret' r' ∧ Weak (B r) (B' r')) : Spec P f args T D φ' ret' B' := fun w hw => (h w hw).mono fun e w' ⟨r, he, hφ, hB, hc, hn⟩ => by
  obtain ⟨r', h1, h2, h3⟩ := k r hφ
  refine ⟨r', by rw [he, h2], h1, hB.weak h3, hc, fun c hc b hb => ?_⟩
  obtain ⟨c', hc', hl⟩ := h3.mem c hc
  exact hn c' hc' b (hl.2 b hb)
def truncM (D : Dk) (J : Jn) (before : Int) (es : List (List UInt8)) : Dk × Jn × List (List UInt8) × Int :=
  if ¬ J.failed = 0 then (D, J, es, J.failed)
  else if before < J.first ∨ before > J.first + es.length then (D, J, es, 2)
  else if before = J.first then (D, J, es, 0)
  else if (changeM D J before (es.drop (before - J.first).toNat)).2.2 = 0 then ((changeM D J before (es.drop (before - J.first).toNat)).1, (changeM D J before (es.drop (before - J.first).toNat)).2.1, es.drop (before - J.first).toNat, 0)
  else ((changeM D J before (es.drop (before - J.first).toNat)).1, (changeM D J before (es.drop (before - J.first).toNat)).2.1.watch (changeM D J before (es.drop (before - J.first).toNat)).2.2, es, (changeM D J before (es.drop (before - J.first).toNat)).2.2)
theorem needs_drop (es : List (List UInt8)) (i : Nat) : needs (es.drop i) ≤ needs es := by
  have := needs_append (es.take i) (es.drop i)
  rw [List.take_append_drop] at this
  omega
theorem watch0 (J : Jn) : J.watch 0 = J := if_neg (by decide)
set_option maxHeartbeats 400000 in
set_option maxRecDepth 10000 in
theorem f44_spec (bj bd : Nat) (J : Jn) (Ae : Option Addr) (me ce : Nat) (be : Nat) (e : Int) :
    SpecD Try.prog 44 [.pointer (some ⟨bj, 0, none⟩), .pointer (some ⟨be, 0, none⟩)] [blk bj (jcells J bd Ae me ce) 76, blk be [.int .i64 e] 27] [] (R := Unit) (fun _ => True) (fun _ => .tuple #[]) (fun _ => [blk bj (jcells (J.watch e) bd Ae me ce) 76, blk be [.int .i64 e] 27]) := by
  refine SpecD.intro Try.func44 Try.ntmps44 rfl (by simp) (by simp) fun w0 => ?_
  refine WC.seq ?_
  refine WC.region ?_
  refine wlv (op_move (lt_ rfl) rfl) rfl ?_
  refine wlv (op_nilCheck (lt_ rfl) rfl) rfl ?_
  refine wlv (op_load1 fl27 (lt_ rfl) rfl xM rfl) rfl ?_
  refine wlv (op_eql (lt_ rfl) rfl rfl) rfl ?_
  refine WL.nil ?_
  refine WX.regs (L' := [(0, _), (1, _), (7, _)]) ?_
  refine WX.next ?_
  refine WC.cond rfl (fun h1 => ?_) (fun h1 => ?_)
  ·
    rw [show J.watch e = { J with failed := e } from if_pos h1]
    refine WC.region ?_
    refine wlv (op_move (lt_ rfl) rfl) rfl ?_
    refine wlv (op_move (lt_ rfl) rfl) rfl ?_
    refine wlv (op_nilCheck (lt_ rfl) rfl) rfl ?_
    refine wlv (op_load1 fl27 (lt_ rfl) rfl xM rfl) rfl ?_
    refine wlv (op_nilCheck (lt_ rfl) rfl) rfl ?_
    refine wlv (op_fieldAddr fo76_7 (lt_ rfl) rfl) rfl ?_
    refine wl (op_store sz27 rfl rfl xK xL xO (by first | exact Nat.le_of_ble_eq_true rfl | (simp; omega))) rfl ?_
    change WL _ _ _ _ _ _ _
    refine WL.nil ?_
    refine WX.blkEq (b := bj) (jcells { J with failed := e } bd Ae me ce) xK (by simp [jcells, pset, Value.cells]) ?_
    refine WX.regs (L' := []) ?_
    exact Fin.ret0 xI (()) (trivial) Try.results44 rfl  xT (by simp)
  ·
    rw [show J.watch e = J from if_neg h1]
    refine WC.skip ?_
    exact Fin.ret0 xI (()) (trivial) Try.results44 rfl  xT (by simp)
set_option maxHeartbeats 400000 in
set_option maxRecDepth 10000 in
theorem f38_spec (bd bm : Nat) (A : Option Addr) (c : Nat) (D : Dk) (bj : Nat) (J : Jn) (Ae : Option Addr) (me ce : Nat) (hmx : D.pend.length ≤ 1000000) (hJ : -1000000000000 ≤ J.first ∧ J.first ≤ 1000000000000 ∧ me ≤ 1000000) :
    Spec Try.prog 38 [.pointer (some ⟨bj, 0, none⟩)] [blk bd (dcells D bm A c) 66, mapC bm (dmap D.dur), own (.slice A D.pend.length c) 84 257 D.pend.length (D.pend.flatMap wcs), blk bj (jcells J bd Ae me ce) 76] [] (R := Option Addr × Nat) (fun _ => True) (fun _ => .int .i64 (syncM D J me).2.2) (fun q => [blk bd (dcells (syncM D J me).1 bm q.1 q.2) 66, mapC bm (dmap (syncM D J me).1.dur), own (.slice q.1 (syncM D J me).1.pend.length q.2) 84 257 (syncM D J me).1.pend.length ((syncM D J me).1.pend.flatMap wcs), blk bj (jcells (syncM D J me).2.1 bd Ae me ce) 76]) := by
  refine Spec.introD Try.func38 Try.ntmps38 rfl (by simp) (by simp) fun w0 => ?_
  refine WC.seq ?_
  refine WC.region ?_
  refine wl1 (op_alloc ti27 (lt_ rfl)) rfl fun b1 => ?_
  refine WL.nil ?_
  refine WX.regs (L' := [(0, _), (2, _)]) ?_
  refine WX.next ?_
  refine WC.seq ?_
  refine WC.seq ?_
  refine WC.region ?_
  refine wlv (op_move (lt_ rfl) rfl) rfl ?_
  refine wlx (op_call (f16_spec bj bd J Ae me ce) ca16 (lt_ rfl) rfl) rfl ?_
  rintro _ _
  refine wlv (op_assign (lt_ rfl) rfl) rfl ?_
  refine WL.nil ?_
  refine WX.regs (L' := [(0, _), (2, _), (3, _)]) ?_
  refine WX.next ?_
  refine WC.seq ?_
  refine WC.region ?_
  refine wlv (op_move (lt_ rfl) rfl) rfl ?_
  refine wlv (op_neq (lt_ rfl) rfl rfl) rfl ?_
  refine WL.nil ?_
  refine WX.regs (L' := [(0, _), (2, _), (3, _), (7, _)]) ?_
  refine WX.next ?_
  refine WC.cond rfl (fun h1 => ?_) (fun h1 => ?_)
  ·
    refine WC.seq ?_
    refine WC.region ?_
    refine wlv (op_move (lt_ rfl) rfl) rfl ?_
    refine wl (op_storeAll sz27 rfl rfl xK xL xO xL) rfl ?_
    change WL _ _ _ _ _ _ _
    refine WL.nil ?_
    refine WX.regs (L' := [(2, _)]) ?_
    refine WX.next ?_
    refine WC.ret ?_
    refine WX.then_ret ?_
    have hs : syncM D J me = (D, J, J.failed) := if_pos h1
    rw [hs]
    dsimp only
    exact FinD.ret1 xI ((A, c)) (trivial) Try.results38 (.cell1 rfl fl27 xM rfl) xT (by simp)
  ·
    refine WC.skip ?_
    refine WX.next ?_
    refine WC.seq ?_
    refine WC.region ?_
    refine wlv (op_move (lt_ rfl) rfl) rfl ?_
    refine wl (op_defer (vs := [.pointer (some ⟨bj, 0, none⟩), .pointer (some ⟨b1, 0, none⟩)]) rfl) rfl ?_
    change WL _ _ _ _ _ _ _
    refine WL.nil ?_
    refine WX.regs (L' := [(0, _), (2, _)]) ?_
    refine WX.next ?_
    refine WC.seq ?_
    refine WC.seq ?_
    refine WC.region ?_
    refine wlv (op_move (lt_ rfl) rfl) rfl ?_
    refine wlv (op_nilCheck (lt_ rfl) rfl) rfl ?_
    refine wlv (op_fieldAddr fo76_0 (lt_ rfl) rfl) rfl ?_
    refine wlv (op_fieldAddr fo68_0 (lt_ rfl) rfl) rfl ?_
    refine wlv (op_load1 fl26 (lt_ rfl) rfl xM rfl) rfl ?_
    refine wlx (op_call (f55_spec bd bm A c D hmx) ca55 (lt_ rfl) rfl) rfl ?_
    rintro ⟨A9, c9⟩ _
    refine wl (op_storeAll sz27 rfl rfl xK xL xO xL) rfl ?_
    change WL _ _ _ _ _ _ _
    refine WL.nil ?_
    refine WX.regs (L' := [(0, _), (2, _)]) ?_
    refine WX.next ?_
    refine WC.seq ?_
    refine WC.region ?_
    refine wlv (op_load1 fl27 (lt_ rfl) rfl xM rfl) rfl ?_
    refine wlv (op_neq (lt_ rfl) rfl rfl) rfl ?_
    refine WL.nil ?_
    refine WX.regs (L' := [(0, _), (2, _), (17, _)]) ?_
    refine WX.next ?_
    refine WC.cond rfl (fun h2 => ?_) (fun h2 => ?_)
    ·
      refine WC.seq ?_
      refine WC.region ?_
      refine wlv (op_load1 fl27 (lt_ rfl) rfl xM rfl) rfl ?_
      refine wl (op_storeAll sz27 rfl rfl xK xL xO xL) rfl ?_
      change WL _ _ _ _ _ _ _
      refine WL.nil ?_
      refine WX.regs (L' := [(2, _)]) ?_
      refine WX.next ?_
      refine WC.ret ?_
      refine WX.then_ret ?_
      have hs : syncM D J me = (D.flush.1, J.watch D.flush.2, D.flush.2) := by unfold syncM; rw [if_neg h1, if_pos h2]
      refine FinD.one xI (f44_spec bj bd J Ae me ce b1 (D.flush.2)) ca44 (by apply Give.mk; (focus (repeat (first | exact Takes.nil | exact Take.here | apply Takes.cons | apply Take.there))); exact Reads.nil) (fun _ _ => ?_)
      rw [hs]
      dsimp only
      exact FinD.ret1 xI ((A9, c9)) (trivial) Try.results38 (.cell1 rfl fl27 xM rfl) xT (by simp)
    ·
      refine WC.skip ?_
      refine WX.next ?_
      refine WC.seq ?_
      refine WC.region ?_
      refine wlv (op_move (lt_ rfl) rfl) rfl ?_
      refine wlv (op_move (lt_ rfl) rfl) rfl ?_
      refine wlx (op_call (f17_spec bj bd J Ae me ce hJ) ca17 (lt_ rfl) rfl) rfl ?_
      rintro _ _
      refine wlv (op_nilCheck (lt_ rfl) rfl) rfl ?_
      refine wlv (op_fieldAddr fo76_6 (lt_ rfl) rfl) rfl ?_
      refine wl (op_store sz3 rfl rfl xK xL xO (by first | exact Nat.le_of_ble_eq_true rfl | (simp; omega))) rfl ?_
      change WL _ _ _ _ _ _ _
      refine WL.nil ?_
      refine WX.regs (L' := [(2, _)]) ?_
      refine WX.next ?_
      refine WC.seq ?_
      refine WC.region ?_
      refine wl (op_storeAll sz27 rfl rfl xK xL xO xL) rfl ?_
      change WL _ _ _ _ _ _ _
      refine WL.nil ?_
      refine WX.regs (L' := [(2, _)]) ?_
      refine WX.next ?_
      refine WC.ret ?_
      have hs : syncM D J me = (D.flush.1, { J with synced := J.first + me }, 0) := by unfold syncM; rw [if_neg h1, if_neg h2]
      refine WX.blkEq (b := bj) (jcells { J with synced := J.first + me } bd Ae me ce) xK (by simp [jcells, pset, Value.cells]) ?_
      refine FinD.one xI (f44_spec bj bd { J with synced := J.first + me } Ae me ce b1 (0)) ca44 (by apply Give.mk; (focus (repeat (first | exact Takes.nil | exact Take.here | apply Takes.cons | apply Take.there))); exact Reads.nil) (fun _ _ => ?_)
      rw [hs, watch0]
      dsimp only
      exact FinD.ret1 xI ((A9, c9)) (trivial) Try.results38 (.cell1 rfl fl27 xM rfl) xT (by simp)
theorem f36t_spec (bd bm : Nat) (A : Option Addr) (c : Nat) (D : Dk) (bj : Nat) (J : Jn) (A0 : Option Addr) (c0 k : Nat) (before : Int) (olds : List Bs) (hk : k ≤ olds.length)
    (hdn : D.down = false) (hfs : 0 ≤ J.fi ∧ 8 ≤ J.se ∧ J.fi + J.se ≤ D.n) (hcur : 0 ≤ J.cur ∧ J.cur ≤ 1) (hn : D.n ≤ 1000000) (hf0 : 0 ≤ before ∧ before ≤ 1000000000000) (hrs : ∀ r ∈ olds, r.s.length ≤ 131072) (hMx : olds.length ≤ 1000000) (hmx : D.pend.length + (1 + needs (olds.map Bs.s)) ≤ 1000000) :
    Spec Try.prog 36 [.pointer (some ⟨bj, 0, none⟩), .int .i64 before, sliced A0 k olds.length c0 1] [blk bj (jcells J bd A0 olds.length c0) 76, blk bd (dcells D bm A c) 66, mapC bm (dmap D.dur), own (.slice A D.pend.length c) 84 257 D.pend.length (D.pend.flatMap wcs), own (.slice A0 olds.length c0) 23 1 olds.length (olds.map Bs.v), rowsC true olds] [] (R := (Option Addr × Nat) × (Option Addr × Nat) × List Bs)
      (fun q => q.2.2 = if (changeM D J before ((olds.drop k).map Bs.s)).2.2 = 0 then olds.drop k else olds) (fun _ => .int .i64 (changeM D J before ((olds.drop k).map Bs.s)).2.2)
      (fun q => [blk bj (jcells (changeM D J before ((olds.drop k).map Bs.s)).2.1 bd q.2.1.1 q.2.2.length q.2.1.2) 76, blk bd (dcells (changeM D J before ((olds.drop k).map Bs.s)).1 bm q.1.1 q.1.2) 66, mapC bm (dmap (changeM D J before ((olds.drop k).map Bs.s)).1.dur), own (.slice q.1.1 (changeM D J before ((olds.drop k).map Bs.s)).1.pend.length q.1.2) 84 257 (changeM D J before ((olds.drop k).map Bs.s)).1.pend.length ((changeM D J before ((olds.drop k).map Bs.s)).1.pend.flatMap wcs), own (.slice q.2.1.1 q.2.2.length q.2.1.2) 23 1 q.2.2.length (q.2.2.map Bs.v), rowsC true q.2.2]) := by
  have hmd : (olds.drop k).map Bs.s = (olds.map Bs.s).drop k := List.map_drop
  refine (f36_spec bd bm A c D bj J A0 A0 _ olds.length c0 olds.length c0 (olds.length - k) _ before olds (olds.drop k) (Ch.Le.trans (rd_dropR rfl hk) own_le_rd) (fun _ h => List.mem_of_mem_drop h) rfl (by rw [List.length_drop]) hdn hfs hcur hn hf0 (fun r hr => hrs r (List.mem_of_mem_drop hr)) (by omega)
    (by have := needs_drop (olds.map Bs.s) k; rw [hmd]; omega)).conseq ?_
  rintro ⟨⟨A9, c9⟩, ⟨Aj2, mj2, cj2⟩, A8, c8, es8, rw8⟩ hq
  dsimp only at hq
  rcases hq with ⟨h1, h2, h3⟩ | ⟨h1, h2, h3⟩
  · simp only [Prod.mk.injEq] at h2 h3
    obtain ⟨rfl, rfl⟩ := h2
    obtain ⟨rfl, rfl, rfl⟩ := h3
    exact ⟨((A9, c9), (Aj2, cj2), olds.drop k), by dsimp only; rw [if_pos h1], rfl, .keep (.refl _) (.keep (.refl _) (.keep (.refl _) (.keep (.refl _) (.drop (.keep (.refl _) (.keep (.refl _) (.nil _)))))))⟩
  · simp only [Prod.mk.injEq] at h2 h3
    obtain ⟨rfl, rfl, rfl⟩ := h2
    obtain ⟨rfl, rfl⟩ := h3
    exact ⟨((A9, c9), (Aj2, cj2), rw8), by dsimp only; rw [if_neg h1], rfl, .keep (.refl _) (.keep (.refl _) (.keep (.refl _) (.keep (.refl _) (.keep (.refl _) (.drop (.keep (.refl _) (.nil _)))))))⟩
set_option maxHeartbeats 400000 in
set_option maxRecDepth 10000 in
theorem f28_spec (bd bm : Nat) (A : Option Addr) (c : Nat) (D : Dk) (bj : Nat) (J : Jn) (A0 : Option Addr) (c0 : Nat) (before : Int) (rs : List Bs)
    (hdn : J.failed = 0 → D.down = false) (hfs : 0 ≤ J.fi ∧ 8 ≤ J.se ∧ J.fi + J.se ≤ D.n) (hcur : 0 ≤ J.cur ∧ J.cur ≤ 1) (hn : D.n ≤ 1000000) (hf0 : 0 ≤ J.first ∧ J.first ≤ 100000000000) (hrs : ∀ r ∈ rs, r.s.length ≤ 131072) (hMx : rs.length ≤ 1000000) (hmx : D.pend.length + (1 + needs (rs.map Bs.s)) ≤ 1000000) :
    Spec Try.prog 28 [.pointer (some ⟨bj, 0, none⟩), .int .i64 before] [blk bd (dcells D bm A c) 66, mapC bm (dmap D.dur), own (.slice A D.pend.length c) 84 257 D.pend.length (D.pend.flatMap wcs), blk bj (jcells J bd A0 rs.length c0) 76, own (.slice A0 rs.length c0) 23 1 rs.length (rs.map Bs.v), rowsC true rs] [] (R := (Option Addr × Nat) × (Option Addr × Nat) × List Bs)
      (fun q => q.2.2.map Bs.s = (truncM D J before (rs.map Bs.s)).2.2.1) (fun _ => .int .i64 (truncM D J before (rs.map Bs.s)).2.2.2)
      (fun q => [blk bd (dcells (truncM D J before (rs.map Bs.s)).1 bm q.1.1 q.1.2) 66, mapC bm (dmap (truncM D J before (rs.map Bs.s)).1.dur), own (.slice q.1.1 (truncM D J before (rs.map Bs.s)).1.pend.length q.1.2) 84 257 (truncM D J before (rs.map Bs.s)).1.pend.length ((truncM D J before (rs.map Bs.s)).1.pend.flatMap wcs), blk bj (jcells (truncM D J before (rs.map Bs.s)).2.1 bd q.2.1.1 q.2.2.length q.2.1.2) 76, own (.slice q.2.1.1 q.2.2.length q.2.1.2) 23 1 q.2.2.length (q.2.2.map Bs.v), rowsC true q.2.2]) := by
  have hrl : ((rs.map Bs.s).length : Int) = rs.length := by rw [List.length_map]
  have hmd : (rs.drop (before - J.first).toNat).map Bs.s = (rs.map Bs.s).drop (before - J.first).toNat := List.map_drop
  refine Spec.introD Try.func28 Try.ntmps28 rfl (by simp) (by simp) fun w0 => ?_
  refine WC.seq ?_
  refine WC.region ?_
  refine wl1 (op_alloc ti27 (lt_ rfl)) rfl fun b1 => ?_
  refine WL.nil ?_
  refine WX.regs (L' := [(0, _), (1, _), (4, _)]) ?_
  refine WX.next ?_
  refine WC.seq ?_
  refine WC.seq ?_
  refine WC.region ?_
  refine wlv (op_move (lt_ rfl) rfl) rfl ?_
  refine wlx (op_call (f16_spec bj bd J A0 rs.length c0) ca16 (lt_ rfl) rfl) rfl ?_
  rintro _ _
  refine wlv (op_assign (lt_ rfl) rfl) rfl ?_
  refine WL.nil ?_
  refine WX.regs (L' := [(0, _), (1, _), (4, _), (5, _)]) ?_
  refine WX.next ?_
  refine WC.seq ?_
  refine WC.region ?_
  refine wlv (op_move (lt_ rfl) rfl) rfl ?_
  refine wlv (op_neq (lt_ rfl) rfl rfl) rfl ?_
  refine WL.nil ?_
  refine WX.regs (L' := [(0, _), (1, _), (4, _), (5, _), (9, _)]) ?_
  refine WX.next ?_
  refine WC.cond rfl (fun h1 => ?_) (fun h1 => ?_)
  ·
    refine WC.seq ?_
    refine WC.region ?_
    refine wlv (op_move (lt_ rfl) rfl) rfl ?_
    refine wl (op_storeAll sz27 rfl rfl xK xL xO xL) rfl ?_
    change WL _ _ _ _ _ _ _
    refine WL.nil ?_
    refine WX.regs (L' := [(4, _)]) ?_
    refine WX.next ?_
    refine WC.ret ?_
    refine WX.then_ret ?_
    have hs : truncM D J before (rs.map Bs.s) = (D, J, rs.map Bs.s, J.failed) := if_pos h1
    rw [hs]
    dsimp only
    exact FinD.ret1 xI (((A, c), (A0, c0), rs)) (rfl) Try.results28 (.cell1 rfl fl27 xM rfl) xT (by simp)
  ·
    refine WC.skip ?_
    refine WX.next ?_
    refine WC.seq ?_
    refine WC.block ?_
    refine WC.seq ?_
    refine WC.region ?_
    refine wlv (op_move (lt_ rfl) rfl) rfl ?_
    refine wlv (op_move (lt_ rfl) rfl) rfl ?_
    refine wlv (op_nilCheck (lt_ rfl) rfl) rfl ?_
    refine wlv (op_fieldAddr fo76_3 (lt_ rfl) rfl) rfl ?_
    refine wlv (op_load1 fl3 (lt_ rfl) rfl xM rfl) rfl ?_
    refine wlv (op_lss (lt_ rfl) rfl rfl) rfl ?_
    refine wlv (op_move (lt_ rfl) rfl) rfl ?_
    refine WL.split (t := 18) rfl (fun g18 => ?_) (fun g18 => ?_)
    ·
      refine wlg_no rfl rfl rfl rfl rfl (by decide) ?_
      refine wlg_no rfl rfl rfl rfl rfl (by decide) ?_
      refine wlg_no rfl rfl rfl rfl rfl (by decide) ?_
      refine wlg_no rfl rfl rfl rfl rfl (by decide) ?_
      refine wlv (op_pickT (lt_ rfl) rfl rfl) rfl ?_
      refine wlv (op_assign (lt_ rfl) rfl) rfl ?_
      refine WL.nil ?_
      refine WX.regs (L' := [(0, _), (1, _), (4, _), (11, _)]) ?_
      refine WX.next ?_
      refine WC.condT rfl ?_
      refine WC.seq ?_
      refine WC.region ?_
      refine wl (op_storeAll sz27 rfl rfl xK xL xO xL) rfl ?_
      change WL _ _ _ _ _ _ _
      refine WL.nil ?_
      refine WX.regs (L' := [(4, _)]) ?_
      refine WX.next ?_
      refine WC.ret ?_
      refine WX.in_ret ?_
      refine WX.then_ret ?_
      have hs : truncM D J before (rs.map Bs.s) = (D, J, rs.map Bs.s, 2) := by unfold truncM; rw [if_neg h1, if_pos (by omega)]
      rw [hs]
      dsimp only
      exact FinD.ret1 xI (((A, c), (A0, c0), rs)) (rfl) Try.results28 (.cell1 rfl fl27 xM rfl) xT (by simp)
    ·
      refine wlgv (op_move (lt_ rfl) rfl) rfl rfl rfl ?_
      refine wlgv (op_move (lt_ rfl) rfl) rfl rfl rfl ?_
      refine wlgx (op_call (f17_spec bj bd J A0 rs.length c0 (by omega)) ca17 (lt_ rfl) rfl) rfl rfl rfl ?_
      rintro _ _
      refine wlgv (op_gtr (lt_ rfl) rfl rfl) rfl rfl rfl ?_
      refine wlv (op_pickF (lt_ rfl) rfl rfl) rfl ?_
      refine wlv (op_assign (lt_ rfl) rfl) rfl ?_
      refine WL.nil ?_
      refine WX.regs (L' := [(0, _), (1, _), (4, _), (11, _)]) ?_
      refine WX.next ?_
      refine WC.cond rfl (fun h2 => ?_) (fun h2 => ?_)
      ·
        refine WC.seq ?_
        refine WC.region ?_
        refine wl (op_storeAll sz27 rfl rfl xK xL xO xL) rfl ?_
        change WL _ _ _ _ _ _ _
        refine WL.nil ?_
        refine WX.regs (L' := [(4, _)]) ?_
        refine WX.next ?_
        refine WC.ret ?_
        refine WX.in_ret ?_
        refine WX.then_ret ?_
        have hs : truncM D J before (rs.map Bs.s) = (D, J, rs.map Bs.s, 2) := by unfold truncM; rw [if_neg h1, if_pos (by omega)]
        rw [hs]
        dsimp only
        exact FinD.ret1 xI (((A, c), (A0, c0), rs)) (rfl) Try.results28 (.cell1 rfl fl27 xM rfl) xT (by simp)
      ·
        refine WC.seq ?_
        refine WC.region ?_
        refine wlv (op_move (lt_ rfl) rfl) rfl ?_
        refine wlv (op_move (lt_ rfl) rfl) rfl ?_
        refine wlv (op_nilCheck (lt_ rfl) rfl) rfl ?_
        refine wlv (op_fieldAddr fo76_3 (lt_ rfl) rfl) rfl ?_
        refine wlv (op_load1 fl3 (lt_ rfl) rfl xM rfl) rfl ?_
        refine wlv (op_eql (lt_ rfl) rfl rfl) rfl ?_
        refine wlv (op_assign (lt_ rfl) rfl) rfl ?_
        refine WL.nil ?_
        refine WX.regs (L' := [(0, _), (1, _), (4, _), (24, _)]) ?_
        refine WX.next ?_
        refine WC.cond rfl (fun h3 => ?_) (fun h3 => ?_)
        ·
          refine WC.seq ?_
          refine WC.region ?_
          refine wl (op_storeAll sz27 rfl rfl xK xL xO xL) rfl ?_
          change WL _ _ _ _ _ _ _
          refine WL.nil ?_
          refine WX.regs (L' := [(4, _)]) ?_
          refine WX.next ?_
          refine WC.ret ?_
          refine WX.in_ret ?_
          refine WX.then_ret ?_
          have hs : truncM D J before (rs.map Bs.s) = (D, J, rs.map Bs.s, 0) := by unfold truncM; rw [if_neg h1, if_neg (by omega), if_pos (by omega)]
          rw [hs]
          dsimp only
          exact FinD.ret1 xI (((A, c), (A0, c0), rs)) (rfl) Try.results28 (.cell1 rfl fl27 xM rfl) xT (by simp)
        ·
          refine WC.skip ?_
          refine WX.in_normal ?_
          refine WX.next ?_
          refine WC.seq ?_
          refine WC.region ?_
          refine wlv (op_move (lt_ rfl) rfl) rfl ?_
          refine wl (op_defer (vs := [.pointer (some ⟨bj, 0, none⟩), .pointer (some ⟨b1, 0, none⟩)]) rfl) rfl ?_
          change WL _ _ _ _ _ _ _
          refine WL.nil ?_
          refine WX.regs (L' := [(0, _), (1, _), (4, _)]) ?_
          refine WX.next ?_
          refine WC.seq ?_
          refine WC.drawnH mo 13 ?_
          refine WA.take (i := 0) rfl (by kernel_rfl) (fun _ _ _ h => h) rfl (op_move (lt_ rfl) rfl) xT ?_
          refine WA.take (i := 1) rfl (by kernel_rfl) (fun _ _ _ h => h) rfl (op_move (lt_ rfl) rfl) xT ?_
          refine WA.take (i := 2) rfl (by kernel_rfl) (fun _ _ _ h => h) rfl (op_move (lt_ rfl) rfl) xT ?_
          refine WA.take (i := 3) rfl (by kernel_rfl) (fun _ _ _ h => h) rfl (op_nilCheck (lt_ rfl) rfl) xT ?_
          refine WA.take (i := 4) rfl (by kernel_rfl) (fun _ _ _ h => h) rfl (op_fieldAddr fo76_4 (lt_ rfl) rfl) xT ?_
          refine WA.take (i := 5) rfl (by kernel_rfl) (fun _ _ _ h => h) rfl (op_load1 fl70 (lt_ rfl) rfl xM rfl) xT ?_
          refine WA.take (i := 6) rfl (by kernel_rfl) (fun _ _ _ h => h) rfl (op_move (lt_ rfl) rfl) xT ?_
          refine WA.take (i := 7) rfl (by kernel_rfl) (fun _ _ _ h => h) rfl (op_move (lt_ rfl) rfl) xT ?_
          refine WA.take (i := 8) rfl (by kernel_rfl) (fun _ _ _ h => h) rfl (op_nilCheck (lt_ rfl) rfl) xT ?_
          refine WA.take (i := 9) rfl (by kernel_rfl) (fun _ _ _ h => h) rfl (op_fieldAddr fo76_3 (lt_ rfl) rfl) xT ?_
          refine WA.take (i := 10) rfl (by kernel_rfl) (fun _ _ _ h => h) rfl (op_load1 fl3 (lt_ rfl) rfl xM rfl) xT ?_
          refine WA.take (i := 11) rfl (by kernel_rfl) (fun _ _ _ h => h) rfl (op_sub (lt_ rfl) rfl rfl (by omega)) xT ?_
          refine WA.take (i := 12) rfl (by kernel_rfl) (fun _ _ _ h => h) rfl (op_slice_l Try.underlying70 sz23 (lt_ rfl) rfl rfl (by omega) (by omega)) xT ?_
          refine WA.stepx (G := fun _ => []) (i := 13) (by kernel_rfl) rfl rfl (op_call (f36t_spec bd bm A c D bj J A0 c0 (before - J.first).toNat before rs (by omega) (hdn (by omega)) hfs hcur hn (by omega) hrs hMx hmx) ca36 (lt_ rfl) rfl) (fun h => absurd rfl h) ?_
          rintro ⟨⟨A9, c9⟩, ⟨Aj2, cj2⟩, rs2⟩ hrs2
          dsimp only at hrs2
          refine WA.stepoA (i := 14) (by kernel_rfl) rfl rfl (by kernel_rfl) (op_storeAll sz27 rfl rfl xK xL xO xL) ?_
          refine WA.done (by kernel_rfl) ?_
          refine WX.regs (L' := [(4, _)]) ?_
          refine WX.next ?_
          refine WC.seq ?_
          refine WC.region ?_
          refine wlv (op_load1 fl27 (lt_ rfl) rfl xM rfl) rfl ?_
          refine wl (op_storeAll sz27 rfl rfl xK xL xO xL) rfl ?_
          change WL _ _ _ _ _ _ _
          refine WL.nil ?_
          refine WX.regs (L' := [(4, _)]) ?_
          refine WX.next ?_
          refine WC.ret ?_
          have hs : truncM D J before (rs.map Bs.s) = ((changeM D J before ((rs.drop (before - J.first).toNat).map Bs.s)).1, (changeM D J before ((rs.drop (before - J.first).toNat).map Bs.s)).2.1.watch (changeM D J before ((rs.drop (before - J.first).toNat).map Bs.s)).2.2, (if (changeM D J before ((rs.drop (before - J.first).toNat).map Bs.s)).2.2 = 0 then (rs.map Bs.s).drop (before - J.first).toNat else rs.map Bs.s), (changeM D J before ((rs.drop (before - J.first).toNat).map Bs.s)).2.2) := by
            unfold truncM
            rw [if_neg h1, if_neg (by omega), if_neg (by omega), ← hmd]
            split
            · rename_i h0; rw [h0, watch0]
            · rename_i h0; simp
          refine FinD.one xI (f44_spec bj bd (changeM D J before ((rs.drop (before - J.first).toNat).map Bs.s)).2.1 Aj2 rs2.length cj2 b1 ((changeM D J before ((rs.drop (before - J.first).toNat).map Bs.s)).2.2)) ca44 (by apply Give.mk; (focus (repeat (first | exact Takes.nil | exact Take.here | apply Takes.cons | apply Take.there))); exact Reads.nil) (fun _ _ => ?_)
          rw [hs]
          dsimp only
          exact FinD.ret1 xI (((A9, c9), (Aj2, cj2), rs2)) (by show rs2.map Bs.s = _; rw [hrs2]; split <;> simp [hmd, *]) Try.results28 (.cell1 rfl fl27 xM rfl) xT (by simp)
end Go.Proofs.Ytkjlbedebmffgaa.Sx

set_option linter.unusedVariables false
set_option linter.unusedSimpArgs false
namespace Go.Proofs.Ytkjlbedebmffgaa.Sx
open Go.RowKit Go.Proofs.Ytkjlbedebmffgaa.Ty
attribute [local irreducible] blk own rd rx frameC

def appendM (D : Dk) (J : Jn) (es : List (List UInt8)) (p : List UInt8) : Dk × Jn × List (List UInt8) × Int × Int :=
  if ¬ J.failed = 0 then (D, J, es, 0, J.failed)
  else if p.length > 100000 then (D, J, es, 0, 5)
  else if ((need p.length : Nat) : Int) > J.se / 2 - J.used then (D, J, es, 0, 9)
  else if ¬ (putM D (J.fi + (J.cur * (J.se / 2) + J.used)) (sects 2 J.gen ((es.length : Int) + 1) p)).2 = 0 then
    ((putM D (J.fi + (J.cur * (J.se / 2) + J.used)) (sects 2 J.gen ((es.length : Int) + 1) p)).1, J.watch (putM D (J.fi + (J.cur * (J.se / 2) + J.used)) (sects 2 J.gen ((es.length : Int) + 1) p)).2, es, 0, (putM D (J.fi + (J.cur * (J.se / 2) + J.used)) (sects 2 J.gen ((es.length : Int) + 1) p)).2)
  else ((putM D (J.fi + (J.cur * (J.se / 2) + J.used)) (sects 2 J.gen ((es.length : Int) + 1) p)).1, { J with used := J.used + (need p.length : Nat) }, es ++ [p], J.first + es.length, 0)
set_option maxHeartbeats 400000 in
set_option maxRecDepth 10000 in
theorem f27_spec (bd bm : Nat) (A : Option Addr) (c : Nat) (D : Dk) (bj : Nat) (J : Jn) (A0 : Option Addr) (c0 : Nat) (rs : List Bs) (Ab : Option Addr) (mb cb : Nat) (p : List UInt8) (hp : p.length = mb)
    (hfs : 0 ≤ J.fi ∧ 8 ≤ J.se ∧ J.fi + J.se ≤ 1000000) (hcur : 0 ≤ J.cur ∧ J.cur ≤ 1) (hg : 0 ≤ J.gen ∧ J.gen ≤ 2147483647) (hu : 0 ≤ J.used ∧ J.used ≤ 1000000) (hf0 : 0 ≤ J.first ∧ J.first ≤ 100000000000) (hMx : rs.length ≤ 100000) (hmx : D.pend.length + 1000 ≤ 1000000) :
    Spec Try.prog 27 [.pointer (some ⟨bj, 0, none⟩), .slice Ab mb cb] [blk bd (dcells D bm A c) 66, mapC bm (dmap D.dur), own (.slice A D.pend.length c) 84 257 D.pend.length (D.pend.flatMap wcs), blk bj (jcells J bd A0 rs.length c0) 76, own (.slice A0 rs.length c0) 23 1 rs.length (rs.map Bs.v), rowsC true rs] [rd (.slice Ab mb cb) 1 mb (bvs p)] (R := (Option Addr × Nat) × (Option Addr × Nat) × List Bs)
      (fun q => q.2.2.map Bs.s = (appendM D J (rs.map Bs.s) p).2.2.1) (fun _ => .tuple #[.int .i64 (appendM D J (rs.map Bs.s) p).2.2.2.1, .int .i64 (appendM D J (rs.map Bs.s) p).2.2.2.2])
      (fun q => [blk bd (dcells (appendM D J (rs.map Bs.s) p).1 bm q.1.1 q.1.2) 66, mapC bm (dmap (appendM D J (rs.map Bs.s) p).1.dur), own (.slice q.1.1 (appendM D J (rs.map Bs.s) p).1.pend.length q.1.2) 84 257 (appendM D J (rs.map Bs.s) p).1.pend.length ((appendM D J (rs.map Bs.s) p).1.pend.flatMap wcs), blk bj (jcells (appendM D J (rs.map Bs.s) p).2.1 bd q.2.1.1 q.2.2.length q.2.1.2) 76, own (.slice q.2.1.1 q.2.2.length q.2.1.2) 23 1 q.2.2.length (q.2.2.map Bs.v), rowsC true q.2.2]) := by
  have hrl : ((rs.map Bs.s).length : Int) = rs.length := by rw [List.length_map]
  have hcs : 0 ≤ J.cur * (J.se / 2) ∧ J.cur * (J.se / 2) ≤ J.se / 2 := by
    rcases (show J.cur = 0 ∨ J.cur = 1 by omega) with h | h
    · rw [h, Int.zero_mul]; omega
    · rw [h, Int.one_mul]; omega
  refine Spec.introD Try.func27 Try.ntmps27 rfl (by simp) (by simp) fun w0 => ?_
  refine WC.seq ?_
  refine WC.region ?_
  refine wlv (op_assign (lt_ rfl) rfl) rfl ?_
  refine wl1 (op_alloc ti27 (lt_ rfl)) rfl fun b1 => ?_
  refine WL.nil ?_
  refine WX.regs (L' := [(0, _), (1, _), (5, _)]) ?_
  refine WX.next ?_
  refine WC.seq ?_
  refine WC.seq ?_
  refine WC.region ?_
  refine wlv (op_move (lt_ rfl) rfl) rfl ?_
  refine wlx (op_call (f16_spec bj bd J A0 rs.length c0) ca16 (lt_ rfl) rfl) rfl ?_
  rintro _ _
  refine wlv (op_assign (lt_ rfl) rfl) rfl ?_
  refine WL.nil ?_
  refine WX.regs (L' := [(0, _), (1, _), (5, _), (6, _)]) ?_
  refine WX.next ?_
  refine WC.seq ?_
  refine WC.region ?_
  refine wlv (op_move (lt_ rfl) rfl) rfl ?_
  refine wlv (op_neq (lt_ rfl) rfl rfl) rfl ?_
  refine WL.nil ?_
  refine WX.regs (L' := [(0, _), (1, _), (5, _), (6, _), (11, _)]) ?_
  refine WX.next ?_
  refine WC.cond rfl (fun h1 => ?_) (fun h1 => ?_)
  ·
    refine WC.seq ?_
    refine WC.region ?_
    refine wlv (op_move (lt_ rfl) rfl) rfl ?_
    refine wlv (op_assign (lt_ rfl) rfl) rfl ?_
    refine wl (op_storeAll sz27 rfl rfl xK xL xO xL) rfl ?_
    change WL _ _ _ _ _ _ _
    refine WL.nil ?_
    refine WX.regs (L' := [(4, _), (5, _)]) ?_
    refine WX.next ?_
    refine WC.ret ?_
    refine WX.then_ret ?_
    have hs : appendM D J (rs.map Bs.s) p = (D, J, rs.map Bs.s, 0, J.failed) := if_pos h1
    rw [hs]
    dsimp only
    exact FinD.ret2 xI (((A, c), (A0, c0), rs)) (rfl) Try.results27 rfl (.tmp rfl) (.cell1 rfl fl27 xM rfl) xT (by simp)
  ·
    refine WC.skip ?_
    refine WX.next ?_
    refine WC.seq ?_
    refine WC.seq ?_
    refine WC.region ?_
    refine wlv (op_move (lt_ rfl) rfl) rfl ?_
    refine wlv (op_len Try.underlying23 (lt_ rfl) rfl) rfl ?_
    refine wlv (op_gtr (lt_ rfl) rfl rfl) rfl ?_
    refine WL.nil ?_
    refine WX.regs (L' := [(0, _), (1, _), (5, _), (15, _)]) ?_
    refine WX.next ?_
    refine WC.cond rfl (fun h2 => ?_) (fun h2 => ?_)
    ·
      refine WC.seq ?_
      refine WC.region ?_
      refine wlv (op_assign (lt_ rfl) rfl) rfl ?_
      refine wl (op_storeAll sz27 rfl rfl xK xL xO xL) rfl ?_
      change WL _ _ _ _ _ _ _
      refine WL.nil ?_
      refine WX.regs (L' := [(4, _), (5, _)]) ?_
      refine WX.next ?_
      refine WC.ret ?_
      refine WX.then_ret ?_
      have hs : appendM D J (rs.map Bs.s) p = (D, J, rs.map Bs.s, 0, 5) := by unfold appendM; rw [if_neg h1, if_pos (by omega)]
      rw [hs]
      dsimp only
      exact FinD.ret2 xI (((A, c), (A0, c0), rs)) (rfl) Try.results27 rfl (.tmp rfl) (.cell1 rfl fl27 xM rfl) xT (by simp)
    ·
      refine WC.skip ?_
      refine WX.next ?_
      refine WC.seq ?_
      refine WC.drawnH mo 17 ?_
      refine WA.take (i := 0) rfl (by kernel_rfl) (fun _ _ _ h => h) rfl (op_move (lt_ rfl) rfl) xT ?_
      refine WA.take (i := 1) rfl (by kernel_rfl) (fun _ _ _ h => h) rfl (op_nilCheck (lt_ rfl) rfl) xT ?_
      refine WA.take (i := 2) rfl (by kernel_rfl) (fun _ _ _ h => h) rfl (op_fieldAddr fo76_2 (lt_ rfl) rfl) xT ?_
      refine WA.take (i := 3) rfl (by kernel_rfl) (fun _ _ _ h => h) rfl (op_load1 fl3 (lt_ rfl) rfl xM rfl) xT ?_
      refine WA.take (i := 4) rfl (by kernel_rfl) (fun _ _ _ h => h) rfl (op_move (lt_ rfl) rfl) xT ?_
      refine WA.take (i := 5) rfl (by kernel_rfl) (fun _ _ _ h => h) rfl (op_nilCheck (lt_ rfl) rfl) xT ?_
      refine WA.take (i := 6) rfl (by kernel_rfl) (fun _ _ _ h => h) rfl (op_fieldAddr fo76_4 (lt_ rfl) rfl) xT ?_
      refine WA.take (i := 7) rfl (by kernel_rfl) (fun _ _ _ h => h) rfl (op_load1 fl70 (lt_ rfl) rfl xM rfl) xT ?_
      refine WA.take (i := 8) rfl (by kernel_rfl) (fun _ _ _ h => h) rfl (op_len Try.underlying70 (lt_ rfl) rfl) xT ?_
      refine WA.take (i := 9) rfl (by kernel_rfl) (fun _ _ _ h => h) rfl (op_add (lt_ rfl) rfl rfl (by omega)) xT ?_
      refine WA.take (i := 10) rfl (by kernel_rfl) (fun _ _ _ h => h) rfl (op_move (lt_ rfl) rfl) xT ?_
      refine WA.take (i := 11) rfl (by kernel_rfl) (fun _ _ _ h => h) rfl (op_build (cs := [.int .i64 2, .int .i64 J.gen, .int .i64 ((rs.length : Int) + 1), .slice Ab mb cb]) (pv := [(0, _), (1, _), (2, _), (3, _)]) (lt_ rfl) rfl (by kernel_rfl)) xT ?_
      refine WA.stepx (i := 12) (by kernel_rfl) rfl rfl (op_call (f43_spec 2 J.gen ((rs.length : Int) + 1) Ab mb cb p hp) ca43 (lt_ rfl) rfl) (fun _ r => xT) ?_
      rintro ⟨Ax, cx, xs, ex⟩ hxs
      dsimp only at hxs
      rw [split_ok (fine_of (.inr rfl) hg (by omega)) (by omega), Prod.mk.injEq] at hxs
      obtain ⟨hxs, rfl⟩ := hxs
      have hxl : xs.length = need p.length := by have := congrArg List.length hxs; rwa [List.length_map, sects_length] at this
      have hnl := need_le (show p.length ≤ 131072 by omega)
      dsimp only
      refine WA.take (i := 13) rfl (by kernel_rfl) (fun _ _ _ h => h) rfl (op_move (lt_ rfl) rfl) xT ?_
      refine WA.take (i := 14) rfl (by kernel_rfl) (fun _ _ _ h => h) rfl (op_extract (lt_ rfl) rfl rfl) xT ?_
      refine WA.take (i := 15) rfl (by kernel_rfl) (fun _ _ _ h => h) rfl (op_extract (lt_ rfl) rfl rfl) xT ?_
      refine WA.take (i := 16) rfl (by kernel_rfl) (fun _ _ _ h => h) rfl (op_assign (lt_ rfl) rfl) xT ?_
      refine WA.stepo (G := []) (i := 17) (by kernel_rfl) rfl rfl (op_storeAll sz27 rfl rfl xK xL xO xL) (fun h => absurd rfl h) ?_
      refine WA.done (by kernel_rfl) ?_
      refine WX.regs (L' := [(0, _), (1, _), (5, _), (7, _)]) ?_
      refine WX.next ?_
      refine WC.seq ?_
      refine WC.seq ?_
      refine WC.region ?_
      refine wlv (op_load1 fl27 (lt_ rfl) rfl xM rfl) rfl ?_
      refine wlv (op_neq (lt_ rfl) rfl rfl) rfl ?_
      refine WL.nil ?_
      refine WX.regs (L' := [(0, _), (1, _), (5, _), (7, _), (33, _)]) ?_
      refine WX.next ?_
      refine WC.cond rfl (fun h3 => ?_) (fun h3 => ?_)
      ·
        exact absurd rfl h3
      ·
        refine WC.skip ?_
        refine WX.next ?_
        refine WC.seq ?_
        refine WC.seq ?_
        refine WC.region ?_
        refine wlv (op_move (lt_ rfl) rfl) rfl ?_
        refine wlv (op_len Try.underlying70 (lt_ rfl) rfl) rfl ?_
        refine wlv (op_move (lt_ rfl) rfl) rfl ?_
        refine wlx (op_call (f26_spec bj bd J A0 rs.length c0 (by omega)) ca26 (lt_ rfl) rfl) rfl ?_
        rintro _ _
        refine wlv (op_gtr (lt_ rfl) rfl rfl) rfl ?_
        refine WL.nil ?_
        refine WX.regs (L' := [(0, _), (1, _), (5, _), (7, _), (39, _)]) ?_
        refine WX.next ?_
        refine WC.cond rfl (fun h4 => ?_) (fun h4 => ?_)
        ·
          refine WC.seq ?_
          refine WC.region ?_
          refine wlv (op_assign (lt_ rfl) rfl) rfl ?_
          refine wl (op_storeAll sz27 rfl rfl xK xL xO xL) rfl ?_
          change WL _ _ _ _ _ _ _
          refine WL.nil ?_
          refine WX.regs (L' := [(4, _), (5, _)]) ?_
          refine WX.next ?_
          refine WC.ret ?_
          refine WX.then_ret ?_
          have hs : appendM D J (rs.map Bs.s) p = (D, J, rs.map Bs.s, 0, 9) := by unfold appendM; rw [if_neg h1, if_neg (by omega), if_pos (by omega)]
          rw [hs]
          dsimp only
          exact FinD.ret2 xI (((A, c), (A0, c0), rs)) (rfl) Try.results27 rfl (.tmp rfl) (.cell1 rfl fl27 xM rfl) xT (by simp)
        ·
          refine WC.skip ?_
          refine WX.next ?_
          refine WC.seq ?_
          refine WC.region ?_
          refine wlv (op_move (lt_ rfl) rfl) rfl ?_
          refine wl (op_defer (vs := [.pointer (some ⟨bj, 0, none⟩), .pointer (some ⟨b1, 0, none⟩)]) rfl) rfl ?_
          change WL _ _ _ _ _ _ _
          refine WL.nil ?_
          refine WX.regs (L' := [(0, _), (1, _), (5, _), (7, _)]) ?_
          refine WX.next ?_
          refine WC.seq ?_
          refine WC.seq ?_
          refine WC.drawn (Hs := [blk bj (jcells J bd A0 rs.length c0) 76]) mo 21 ?_
          refine WA.take (i := 0) rfl (by kernel_rfl) (fun _ _ _ h => h) rfl (op_move (lt_ rfl) rfl) xT ?_
          refine WA.take (i := 1) rfl (by kernel_rfl) (fun _ _ _ h => h) rfl (op_nilCheck (lt_ rfl) rfl) xT ?_
          refine WA.take (i := 2) rfl (by kernel_rfl) (fun _ _ _ h => h) rfl (op_fieldAddr fo76_0 (lt_ rfl) rfl) xT ?_
          refine WA.take (i := 3) rfl (by kernel_rfl) (fun _ _ _ h => h) rfl (op_loadN ag68 (lt_ rfl) rfl xM rfl) xT ?_
          refine WA.take (i := 4) rfl (by kernel_rfl) (fun _ _ _ h => h) rfl (op_move (lt_ rfl) rfl) xT ?_
          refine WA.take (i := 5) rfl (by kernel_rfl) (fun _ _ _ h => h) rfl (op_nilCheck (lt_ rfl) rfl) xT ?_
          refine WA.take (i := 6) rfl (by kernel_rfl) (fun _ _ _ h => h) rfl (op_fieldAddr fo76_1 (lt_ rfl) rfl) xT ?_
          refine WA.take (i := 7) rfl (by kernel_rfl) (fun _ _ _ h => h) rfl (op_load1 fl3 (lt_ rfl) rfl xM rfl) xT ?_
          refine WA.take (i := 8) rfl (by kernel_rfl) (fun _ _ _ h => h) rfl (op_move (lt_ rfl) rfl) xT ?_
          refine WA.take (i := 9) rfl (by kernel_rfl) (fun _ _ _ h => h) rfl (op_nilCheck (lt_ rfl) rfl) xT ?_
          refine WA.take (i := 10) rfl (by kernel_rfl) (fun _ _ _ h => h) rfl (op_fieldAddr fo76_0 (lt_ rfl) rfl) xT ?_
          refine WA.take (i := 11) rfl (by kernel_rfl) (fun _ _ _ h => h) rfl (op_loadN ag68 (lt_ rfl) rfl xM rfl) xT ?_
          refine WA.take (i := 14) rfl (by kernel_rfl) (fun _ _ _ h => h) rfl (op_move (lt_ rfl) rfl) xT ?_
          refine WA.take (i := 15) rfl (by kernel_rfl) (fun _ _ _ h => h) rfl (op_nilCheck (lt_ rfl) rfl) xT ?_
          refine WA.take (i := 16) rfl (by kernel_rfl) (fun _ _ _ h => h) rfl (op_fieldAddr fo76_5 (lt_ rfl) rfl) xT ?_
          refine WA.take (i := 17) rfl (by kernel_rfl) (fun _ _ _ h => h) rfl (op_load1 fl3 (lt_ rfl) rfl xM rfl) xT ?_
          refine WA.take (i := 19) rfl (by kernel_rfl) (fun _ _ _ h => h) rfl (op_move (lt_ rfl) rfl) xT ?_
          refine WA.stepx (i := 12) (by kernel_rfl) rfl rfl (op_call (f42_spec bd J.fi J.se (by omega) (by omega)) ca42 (lt_ rfl) rfl) (fun _ r => xT) ?_
          rintro _ _
          refine WA.take (i := 13) rfl (by kernel_rfl) (fun _ _ _ h => h) rfl (op_mul (lt_ rfl) rfl rfl (by omega)) xT ?_
          refine WA.take (i := 18) rfl (by kernel_rfl) (fun _ _ _ h => h) rfl (op_add (lt_ rfl) rfl rfl (by omega)) xT ?_
          refine WA.stepx (i := 20) (by kernel_rfl) rfl rfl (op_call (f45_spec bd bm A c D J.fi J.se (J.cur * (J.se / 2) + J.used) Ax xs.length cx xs rfl (by omega) (by omega)) ca45 (lt_ rfl) rfl) (fun _ r => xT) ?_
          rintro ⟨A9, c9⟩ _
          rw [hxs]
          refine WA.stepo (G := []) (i := 21) (by kernel_rfl) rfl rfl (op_storeAll sz27 rfl rfl xK xL xO xL) (fun h => absurd rfl h) ?_
          refine WA.done (by kernel_rfl) ?_
          refine WX.regs (L' := [(0, _), (1, _), (5, _), (7, _)]) ?_
          refine WX.next ?_
          refine WC.seq ?_
          refine WC.region ?_
          refine wlv (op_load1 fl27 (lt_ rfl) rfl xM rfl) rfl ?_
          refine wlv (op_neq (lt_ rfl) rfl rfl) rfl ?_
          refine WL.nil ?_
          refine WX.regs (L' := [(0, _), (1, _), (5, _), (7, _), (63, _)]) ?_
          refine WX.next ?_
          refine WC.cond rfl (fun h5 => ?_) (fun h5 => ?_)
          ·
            refine WC.seq ?_
            refine WC.drawnH mo 2 ?_
            refine WA.take (i := 0) rfl (by kernel_rfl) (fun _ _ _ h => h) rfl (op_load1 fl27 (lt_ rfl) rfl xM rfl) xT ?_
            refine WA.take (i := 1) rfl (by kernel_rfl) (fun _ _ _ h => h) rfl (op_assign (lt_ rfl) rfl) xT ?_
            refine WA.stepo (G := []) (i := 2) (by kernel_rfl) rfl rfl (op_storeAll sz27 rfl rfl xK xL xO xL) (fun h => absurd rfl h) ?_
            refine WA.done (by kernel_rfl) ?_
            refine WX.regs (L' := [(4, _), (5, _)]) ?_
            refine WX.next ?_
            refine WC.ret ?_
            refine WX.then_ret ?_
            have hs : appendM D J (rs.map Bs.s) p = ((putM D (J.fi + (J.cur * (J.se / 2) + J.used)) (sects 2 J.gen ((rs.length : Int) + 1) p)).1, J.watch (putM D (J.fi + (J.cur * (J.se / 2) + J.used)) (sects 2 J.gen ((rs.length : Int) + 1) p)).2, rs.map Bs.s, 0, (putM D (J.fi + (J.cur * (J.se / 2) + J.used)) (sects 2 J.gen ((rs.length : Int) + 1) p)).2) := by unfold appendM; rw [hrl, if_neg h1, if_neg (by omega), if_neg (by omega), if_pos (by assumption)]
            refine FinD.one xI (f44_spec bj bd J A0 rs.length c0 b1 ((putM D (J.fi + (J.cur * (J.se / 2) + J.used)) (sects 2 J.gen ((rs.length : Int) + 1) p)).2)) ca44 (by apply Give.mk; (focus (repeat (first | exact Takes.nil | exact Take.here | apply Takes.cons | apply Take.there))); exact Reads.nil) (fun _ _ => ?_)
            rw [hs]
            dsimp only
            exact FinD.ret2 xI (((A9, c9), (A0, c0), rs)) (rfl) Try.results27 rfl (.tmp rfl) (.cell1 rfl fl27 xM rfl) xT (by simp)
          ·
            refine WC.skip ?_
            refine WX.next ?_
            refine WC.seq ?_
            refine WC.region ?_
            refine wlv (op_move (lt_ rfl) rfl) rfl ?_
            refine wlx (op_call (f17_spec bj bd J A0 rs.length c0 (by omega)) ca17 (lt_ rfl) rfl) rfl ?_
            rintro _ _
            refine wlv (op_assign (lt_ rfl) rfl) rfl ?_
            refine WL.nil ?_
            refine WX.regs (L' := [(0, _), (1, _), (4, _), (5, _), (7, _)]) ?_
            refine WX.next ?_
            refine WC.seq ?_
            refine WC.region ?_
            refine WL.capx (A := A0) (m := rs.length) (c := c0) (sz := 1) (xs := rs.map Bs.v) (Src.own xM) (fun hcap => ?_)
            refine wlv (op_move (lt_ rfl) rfl) rfl ?_
            refine wlv (op_move (lt_ rfl) rfl) rfl ?_
            refine wlv (op_nilCheck (lt_ rfl) rfl) rfl ?_
            refine wlv (op_fieldAddr fo76_4 (lt_ rfl) rfl) rfl ?_
            refine wlv (op_load1 fl70 (lt_ rfl) rfl xM rfl) rfl ?_
            refine wlx (op_call (f46_spec A0 rs.length c0 hcap) ca46 (lt_ rfl) rfl) rfl ?_
            rintro _ _
            refine wlv (op_move (lt_ rfl) rfl) rfl ?_
            refine wlx (op_call (f37_spec Ab mb cb p hp (by omega)) ca37 (lt_ rfl) rfl) rfl ?_
            rintro ⟨A8, c8⟩ _
            refine wl1 (op_lit1 Try.underlying70 ti23 rfl (by decide) (lt_ rfl) rfl rfl) rfl fun b2 => ?_
            refine wl2 (op_appendFull (m := rs.length) (k := 1) (xs := rs.map Bs.v) Try.underlying70 ti23 rfl (by decide) (lt_ rfl) rfl rfl ⟨own (.slice A0 rs.length c0) 23 1 rs.length (rs.map Bs.v), xM, own_le_rdc⟩ xS (by decide) (by omega) (by omega)) rfl fun A1 c1 => ?_
            refine wlv (op_nilCheck (lt_ rfl) rfl) rfl ?_
            refine wlv (op_fieldAddr fo76_4 (lt_ rfl) rfl) rfl ?_
            refine wl (op_store sz70 rfl rfl xK xL xO (by first | exact Nat.le_of_ble_eq_true rfl | (simp; omega))) rfl ?_
            change WL _ _ _ _ _ _ _
            refine WL.nil ?_
            refine WX.regs (L' := [(0, _), (4, _), (5, _), (7, _)]) ?_
            refine WX.next ?_
            refine WC.seq ?_
            refine WC.region ?_
            refine wlv (op_move (lt_ rfl) rfl) rfl ?_
            refine wlv (op_nilCheck (lt_ rfl) rfl) rfl ?_
            refine wlv (op_fieldAddr fo76_5 (lt_ rfl) rfl) rfl ?_
            refine wlv (op_load1 fl3 (lt_ rfl) rfl xM rfl) rfl ?_
            refine wlv (op_move (lt_ rfl) rfl) rfl ?_
            refine wlv (op_len Try.underlying70 (lt_ rfl) rfl) rfl ?_
            refine wlv (op_add (lt_ rfl) rfl rfl (by omega)) rfl ?_
            refine wlv (op_nilCheck (lt_ rfl) rfl) rfl ?_
            refine wlv (op_fieldAddr fo76_5 (lt_ rfl) rfl) rfl ?_
            refine wl (op_store sz3 rfl rfl xK xL xO (by first | exact Nat.le_of_ble_eq_true rfl | (simp; omega))) rfl ?_
            change WL _ _ _ _ _ _ _
            refine WL.nil ?_
            refine WX.regs (L' := [(4, _), (5, _)]) ?_
            refine WX.next ?_
            refine WC.seq ?_
            refine WC.region ?_
            refine wlv (op_move (lt_ rfl) rfl) rfl ?_
            refine wlv (op_assign (lt_ rfl) rfl) rfl ?_
            refine wl (op_storeAll sz27 rfl rfl xK xL xO xL) rfl ?_
            change WL _ _ _ _ _ _ _
            refine WL.nil ?_
            refine WX.regs (L' := [(4, _), (5, _)]) ?_
            refine WX.next ?_
            refine WC.ret ?_
            have hs : appendM D J (rs.map Bs.s) p = ((putM D (J.fi + (J.cur * (J.se / 2) + J.used)) (sects 2 J.gen ((rs.length : Int) + 1) p)).1, { J with used := J.used + (need p.length : Nat) }, rs.map Bs.s ++ [p], J.first + rs.length, 0) := by unfold appendM; rw [hrl, if_neg h1, if_neg (by omega), if_neg (by omega), if_neg (by assumption)]
            refine WX.blkEq (b := bj) (jcells { J with used := J.used + (need p.length : Nat) } bd A1 (rs.length + 1) c1) xK (by simp [jcells, pset, Value.cells, hxl]) ?_
            refine FinD.one xI (f44_spec bj bd { J with used := J.used + (need p.length : Nat) } A1 (rs.length + 1) c1 b1 (0)) ca44 (by apply Give.mk; (focus (repeat (first | exact Takes.nil | exact Take.here | apply Takes.cons | apply Take.there))); exact Reads.nil) (fun _ _ => ?_)
            rw [watch0, hs]
            refine WX.ownEq (v := .slice A1 (rs.length + 1) c1) ((rs ++ [(⟨A8, c8, p⟩ : Bs)]).map Bs.v) xK (by rw [← map_push]; unfold Bs.v; rw [hp]; rfl) ?_
            refine WX.merge2 (c1 := rowsC true rs) (c2 := own (.slice A8 mb c8) 5 1 mb (bvs p)) (d := rowsC true (rs ++ [(⟨A8, c8, p⟩ : Bs)])) xK xK (rowsC_snoc (own_le_bs hp) (fun _ => by simp)) ?_
            rw [len_push rs ⟨A8, c8, p⟩]
            dsimp only
            exact FinD.ret2 xI (((A9, c9), (A1, c1), rs ++ [⟨A8, c8, p⟩])) (by show (rs ++ [_]).map Bs.s = _; rw [List.map_append]; rfl) Try.results27 rfl (.tmp rfl) (.cell1 rfl fl27 xM rfl) xT (by simp)
end Go.Proofs.Ytkjlbedebmffgaa.Sx

