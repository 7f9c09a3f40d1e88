import Derived.Test.YtkjlbedebmffgaaGreatNo
set_option linter.unusedVariables false
set_option linter.unusedSimpArgs false
namespace Go.Proofs.YtkjlbedebmffgaaGreat.Sx
open Go.RowKit Go.Proofs.YtkjlbedebmffgaaGreat.Ty
attribute [local irreducible] blk own rd rx frameC
theorem sizeM_in (s : UInt8) : 8 ≤ sizeM s ∧ sizeM s ≤ 43 := by unfold sizeM; omega
theorem nextF_zero {ss : List (List UInt8)} (h : ∀ s ∈ ss, gof s = none) : nextF 0 ss = 0 := by
 obtain ⟨g, g1, g2, g3, g4, _⟩ := nextM_facts (n := 0) (B := -1) (ss := ss) (.inl rfl) (by omega) fun s hs g' hg => by rw [h s hs] at hg; cases hg
 by_cases hn : nextF 0 ss ≤ 2147483647
 ·rw [nextM_of_le hn] at g1
  have : nextF 0 ss = g := congrArg Prod.fst g1
  omega
 ·rw [nextM_of_gt (by omega)] at g1
  cases congrArg Prod.snd g1
theorem new_vis (n : Nat) (a : Int) : ((Dk.new n).vis a).s = List.replicate 256 0 := by rw [vis_nil rfl]; rfl
theorem format_both {k : Nat} (hk : 8 ≤ k ∧ k ≤ 43) {r : Rd} (hz : ∀ i : Int, 0 ≤ i → i < ((48 : Nat) : Int) → r.V i = List.replicate 256 0) (hl : r.ds.length = 48) (hok : r.Ok) :
  (formatM (Dk.new 48) 3 (k : Int)).2 = 0 ∧ (formatM (Dk.new 48) 3 (k : Int)).1.n = 48 ∧ (formatM (Dk.new 48) 3 (k : Int)).1.lim = false ∧ (formatM (Dk.new 48) 3 (k : Int)).1.pend = [] ∧ (∃ J, J.fi = 3 ∧ Strong k 10 (formatM (Dk.new 48) 3 (k : Int)).1 J [] 0 0) ∧
   nextF 0 (seenR r.V 3 k) = 0 ∧ (∀ q : Rd, q.Area r (3 + nextF 0 (seenR r.V 3 k) % 2 * ((k : Int) / 2)) (areaS (nextF 0 (seenR r.V 3 k)) 0 []) → Same q (formatM (Dk.new 48) 3 (k : Int)).1) := by
 have hS : Same r (Dk.new 48) := ⟨hl, fun i h1 h2 => by rw [hz i h1 h2]; exact (new_vis 48 i).symm, hok⟩
 have hse : (Dk.new 48).seen 3 k = seenR r.V 3 k := hS.seen ⟨by omega, by show (3 : Int) + k ≤ ((48 : Nat) : Int); omega⟩
 obtain ⟨h1, h2, h3, h4, _, J, h5, _, _, h6⟩ := format_new (D := Dk.new 48) (fi := 3) (k := k) hk.1 (by omega) (by show (3 : Int) + k ≤ ((48 : Nat) : Int); omega) (by decide) rfl rfl (fun a _ _ => gof_zero)
 have hn0 : nextF 0 (seenR r.V 3 k) = 0 := by
  rw [← hse]
  refine nextF_zero fun s hs => ?_
  obtain ⟨i, _, rfl⟩ := mem_seen.1 hs
  exact gof_zero
 refine ⟨h1, h2, h3, h4, ⟨J, h5, h6⟩, hn0, fun q hq => ?_⟩
 have hfine : Fine 0 [] := ⟨⟨by omega, by omega⟩, Nat.zero_le _, fun p hp => by cases hp⟩
 rw [hn0, show (3 : Int) + 0 % 2 * ((k : Int) / 2) = 3 by omega] at hq
 have hse2 : (Dk.new 48).seen 3 ((k : Int)).toNat = seenR r.V 3 k := by rw [Int.toNat_natCast]; exact hse
 have hc : (Dk.new 48).check 3 (k : Int) = 0 := check_zero hk.1 (by omega) (by show (3 : Int) + k ≤ ((48 : Nat) : Int); omega) rfl
 have hnx : nextM 0 ((Dk.new 48).seen 3 ((k : Int)).toNat) = (0, 0) := by rw [hse2, nextM_of_le (by omega), hn0]
 have hfm : (formatM (Dk.new 48) 3 (k : Int)).1 = (writeM (Dk.new 48) 3 0 0 []).1 := by
  unfold formatM
  rw [if_neg (fun h => h hc), hnx, if_neg (fun h => h rfl)]
 have hal := areaS_length 0 0 ([] : List Sec)
 obtain ⟨hw, _, hwn⟩ := writeM_cases (D := Dk.new 48) (base := 3) (g := 0) (f := 0) (es := []) rfl (by omega) (by simp only [needs]; show (3 : Int) + _ ≤ ((48 : Nat) : Int); omega) (by rw [areaS_C]; exact areaC_256 hfine)
 rcases hw with ⟨w1, w2, w3, w4, w5, w6, w7⟩ | ⟨w1, w2, w3⟩
 ·refine hS.area hq h2 ?_
  rw [hfm]
  refine ovl_of (fun i s hi => ?_) fun b hb => ?_
  ·show ((writeM (Dk.new 48) 3 0 0 []).1.vis _).s = s
   rw [vis_nil w5]
   exact w6 i s hi
  ·show ((writeM (Dk.new 48) 3 0 0 []).1.vis b).s = ((Dk.new 48).vis b).s
   rw [vis_nil w5, w7 b (by rw [hal] at hb; exact hb)]
 ·cases w3
theorem f13_both (bd bm : Nat) {k : Nat} (hk : 8 ≤ k ∧ k ≤ 43) {r : Rd} (hz : ∀ i : Int, 0 ≤ i → i < ((48 : Nat) : Int) → r.V i = List.replicate 256 0) (hl : r.ds.length = 48) (hok : r.Ok) :
  Spec Tryz.prog 13 [.pointer (some ⟨bd, 0, none⟩), .int .i64 3, .int .i64 (k : Int)] [blk bd (dcells (Dk.new 48) bm none 0) 77, mapC bm (dmap (Dk.new 48).dur), own (.slice none (Dk.new 48).pend.length 0) 80 257 (Dk.new 48).pend.length ((Dk.new 48).pend.flatMap wcs)] [] (R := Dk × Option Addr × Nat)
   (fun q => q.1.n = 48 ∧ q.1.lim = false ∧ q.1.pend = [] ∧ (∃ J, J.fi = 3 ∧ Strong k 10 q.1 J [] 0 0) ∧ nextF 0 (seenR r.V 3 k) = 0 ∧ (∀ p : Rd, p.Area r (3 + nextF 0 (seenR r.V 3 k) % 2 * ((k : Int) / 2)) (areaS (nextF 0 (seenR r.V 3 k)) 0 []) → Same p q.1)) (fun _ => .int .i64 0) (fun q => [blk bd (dcells q.1 bm q.2.1 q.2.2) 77, mapC bm (dmap q.1.dur), own (.slice q.2.1 q.1.pend.length q.2.2) 80 257 q.1.pend.length (q.1.pend.flatMap wcs)]) := by
 obtain ⟨h1, h2⟩ := format_both hk hz hl hok
 refine (f13_spec bd bm none 0 (Dk.new 48) 3 k (by decide) (by omega) (by decide)).conseq ?_
 rintro ⟨A9, c9⟩ _
 exact ⟨((formatM (Dk.new 48) 3 k).1, A9, c9), h2, by rw [h1], weak_refl _⟩
theorem f11_live (bx bd bm : Nat) (A : Option Addr) (c : Nat) (D : Dk) (pj : Value) (r : Rd) (J0 : Jn) (A0 : Option Addr) (c0 m0 : Nat) {k : Nat} (hs : Same r D) {N : Int} {J : Jn} {es : List Sec} {a0 b0 : Nat} (h : Strong k N D J es a0 b0) (hN : 0 ≤ N ∧ N ≤ 800000) (hl : D.lim = false) (hfi : J.fi = 3) (hk : 8 ≤ k ∧ k ≤ 43) (hn : D.n = 48) (hp : D.pend = []) (hw : r.ws = []) :
  Spec Tryz.prog 11 [.pointer (some ⟨bx, 0, none⟩)] [blk bx (wcl bd pj r (rjc J0 A0 c0 m0) k) 43, blk bd (dcells D bm A c) 77, mapC bm (dmap D.dur), own (.slice A D.pend.length c) 80 257 D.pend.length (D.pend.flatMap wcs), own (.slice r.A r.ds.length r.c) 30 1 r.ds.length (r.ds.map Bs.v), rowsC true r.ds, own (.slice r.Aw r.ws.length r.cw) 84 2 r.ws.length (r.ws.flatMap Wb.cells), rowsC true (r.ws.map Wb.b)] [] (R := Wo) (fun s => Wi k (N + 1000) 0 s) (fun _ => .bool true) (fun s => [blk bx (wcl bd (.pointer (some ⟨s.bj, 0, none⟩)) s.r (rjc s.p.J s.A s.c s.es.length) k) 43, blk bd (dcells s.p.D bm s.p.A s.p.c) 77, mapC bm (dmap s.p.D.dur), own (.slice s.p.A s.p.D.pend.length s.p.c) 80 257 s.p.D.pend.length (s.p.D.pend.flatMap wcs), blk s.bj (jcells s.p.J bd s.p.Aj s.p.rs.length s.p.cj) 96, own (.slice s.p.Aj s.p.rs.length s.p.cj) 30 1 s.p.rs.length (s.p.rs.map Bs.v), rowsC true s.p.rs, own (.slice s.r.A s.r.ds.length s.r.c) 30 1 s.r.ds.length (s.r.ds.map Bs.v), rowsC true s.r.ds, own (.slice s.r.Aw s.r.ws.length s.r.cw) 84 2 s.r.ws.length (s.r.ws.flatMap Wb.cells), rowsC true (s.r.ws.map Wb.b), own (.slice s.A s.es.length s.c) 30 1 s.es.length (s.es.map Bs.v), rowsC true s.es]) := by
 refine (f11_spec bx bd bm A c D pj r J0 A0 c0 m0 k hs h.dn hl (by omega) ⟨by omega, by omega⟩ (by omega) (by rw [hp]; decide) (by rw [hw]; decide)).conseq ?_
 obtain ⟨_, hpk⟩ := h.found (by omega)
 have ho := h.open' (by omega) hl
 have hg := h.gens
 rw [hfi] at hpk ho hg
 rintro (s | u) hq
 ·dsimp only at hq
  obtain ⟨g, f, es0, q1, q2, q3, q4, q5, q6, q7⟩ := hq
  rw [hpk] at q1
  simp only [Option.some.injEq, Prod.mk.injEq] at q1
  obtain ⟨rfl, rfl, rfl⟩ := q1
  obtain ⟨o1, o2, o3, o4, o5, o6, o7, o8, o9⟩ := ho
  exact ⟨s, ⟨⟨_, _, by rw [q2, q3, q4]; exact o9⟩, by rw [q2]; exact o3, by rw [q3]; exact o6, by rw [q2, o2, hn], by rw [q2, o4]; exact Nat.le_refl _, by rw [q7]; exact Nat.le_refl _, q6, by rw [q4, q5]⟩, rfl, weak_refl _⟩
 ·exfalso
  obtain ⟨e, hb⟩ := hq
  have hpr := hs.pk (a := 3) (k := k) (by omega)
  rw [hpk] at hpr
  rcases hb with ⟨b1, _⟩ | ⟨g, f, es', b1, b2, _⟩
  ·rw [← hpr] at b1; cases b1
  ·rw [← hpr] at b1
   simp only [Option.some.injEq, Prod.mk.injEq] at b1
   obtain ⟨rfl, rfl, rfl⟩ := b1
   have hgb := h.geo.gb
   obtain ⟨g, g1, _⟩ := nextM_facts (n := 1 - J.gen % 2) (B := J.gen) (ss := D.seen 3 k) (by omega) (by omega) fun s hs' g' hg' => by
    obtain ⟨i, hi, rfl⟩ := mem_seen.1 hs'
    exact hg _ g' (by omega) (by omega) hg'
   rw [hs.seen (by omega), nextM_of_gt b2] at g1
   cases congrArg Prod.snd g1
set_option maxHeartbeats 400000 in
set_option maxRecDepth 10000 in
theorem f6_spec (k : Nat) (hk : 8 ≤ k ∧ k ≤ 43) :
  Spec Tryz.prog 6 [.int .i64 (k : Int)] [] [] (R := Nat × Nat × Nat × Wo) (fun q => Wi k 1010 0 q.2.2.2) (fun q => .tuple #[.pointer (some ⟨q.1, 0, none⟩), .bool true]) (fun q => [blk q.1 (wcl q.2.1 (.pointer (some ⟨q.2.2.2.bj, 0, none⟩)) q.2.2.2.r (rjc q.2.2.2.p.J q.2.2.2.A q.2.2.2.c q.2.2.2.es.length) k) 43, blk q.2.1 (dcells q.2.2.2.p.D q.2.2.1 q.2.2.2.p.A q.2.2.2.p.c) 77, mapC q.2.2.1 (dmap q.2.2.2.p.D.dur), own (.slice q.2.2.2.p.A q.2.2.2.p.D.pend.length q.2.2.2.p.c) 80 257 q.2.2.2.p.D.pend.length (q.2.2.2.p.D.pend.flatMap wcs), blk q.2.2.2.bj (jcells q.2.2.2.p.J q.2.1 q.2.2.2.p.Aj q.2.2.2.p.rs.length q.2.2.2.p.cj) 96, own (.slice q.2.2.2.p.Aj q.2.2.2.p.rs.length q.2.2.2.p.cj) 30 1 q.2.2.2.p.rs.length (q.2.2.2.p.rs.map Bs.v), rowsC true q.2.2.2.p.rs, own (.slice q.2.2.2.r.A q.2.2.2.r.ds.length q.2.2.2.r.c) 30 1 q.2.2.2.r.ds.length (q.2.2.2.r.ds.map Bs.v), rowsC true q.2.2.2.r.ds, own (.slice q.2.2.2.r.Aw q.2.2.2.r.ws.length q.2.2.2.r.cw) 84 2 q.2.2.2.r.ws.length (q.2.2.2.r.ws.flatMap Wb.cells), rowsC true (q.2.2.2.r.ws.map Wb.b), own (.slice q.2.2.2.A q.2.2.2.es.length q.2.2.2.c) 30 1 q.2.2.2.es.length (q.2.2.2.es.map Bs.v), rowsC true q.2.2.2.es]) := by
 refine Spec.intro Tryz.func6 Tryz.ntmps6 rfl (by simp) (by simp) fun w0 => ?_
 refine W240 ?_
 refine W251 ?_
 refine W31 ?_
 refine W249 ?_
 refine wlx (op_call (f12_spec 48 (by omega)) ca12 (lt_ rfl) rfl) rfl ?_
 rintro ⟨bd, bm⟩ _
 refine W341 ?_
 refine WX.regs (L' := [(0, _), (4, _), (5, _)]) ?_
 refine W249 ?_
 refine wlx (op_call (f20_spec 48 (by omega)) ca20 (lt_ rfl) rfl) rfl ?_
 rintro r ⟨hz, hrl, hw0, hok⟩
 refine W296 ?_
 refine wl1 (op_alloc ti39 (lt_ rfl)) rfl fun b1 => ?_
 refine W50 ?_
 refine W271 ?_
 refine WX.regs (L' := [(0, _), (4, _), (5, _), (6, _)]) ?_
 refine W269 ?_
 refine W256 ?_
 refine W4 ?_
 refine W345 ?_
 refine wlgx (op_call (f13_both bd bm hk hz hrl hok) ca13 (lt_ rfl) rfl) rfl rfl rfl ?_
 rintro ⟨D1, A1, c1⟩ ⟨h1, h2, h3, ⟨J, hJ, h4⟩, h5, h6⟩
 dsimp only at h1 h2 h3 h4 h6 ⊢
 refine W44 ?_
 refine W285 ?_
 refine WX.regs (L' := [(0, _), (4, _), (6, _), (24, _)]) ?_
 refine W281 ?_
 refine W249 ?_
 refine W41 ?_
 refine W4 ?_
 refine wlx (op_call (f21_spec r hok 3 k ⟨by omega, hk.1, by omega⟩ (by omega) (by rw [hw0]; decide)) ca21 (lt_ rfl) rfl) rfl ?_
 rintro p hap
 refine W296 ?_
 refine W50 ?_
 refine W252 ?_
 refine WX.blkEq (b := b1) p.cells xK (by rfl) ?_
 refine WX.regs (L' := [(0, _), (4, _), (6, _)]) ?_
 refine W261 ?_
 refine W41 ?_
 refine W4 ?_
 refine wlv (op_build (cs := wcl bd (.pointer none) p (rjc ⟨0, 0, 0, 0, 0, 0, 0, 0⟩ none 0 0) k) (pv := [(0, _), (2, _), (4, _)]) (lt_ rfl) rfl (by kernel_rfl)) rfl ?_
 refine wl1 (op_box (lt_ rfl) rfl rfl) rfl fun b2 => ?_
 refine W241 ?_
 refine WX.blkEq (b := b2) (wcl bd (.pointer none) p (rjc ⟨0, 0, 0, 0, 0, 0, 0, 0⟩ none 0 0) k) xK (by rfl) ?_
 refine WX.regs (L' := [(8, _)]) ?_
 refine W299 ?_
 refine wlx (op_call (f11_live b2 bd bm A1 c1 D1 (.pointer none) p ⟨0, 0, 0, 0, 0, 0, 0, 0⟩ none 0 0 (h6 p hap) h4 (by omega) h2 hJ hk h1 h3 hap.m) ca11 (lt_ rfl) rfl) rfl ?_
 rintro s hs
 refine W251 ?_
 refine W33 ?_
 refine W242 ?_
 exact Fin.ret2 xI ((b2, bd, bm, s)) (hs) Tryz.results6 rfl (.tmp rfl) (.tmp rfl) xT (by simp)
end Go.Proofs.YtkjlbedebmffgaaGreat.Sx
namespace Go.Proofs.YtkjlbedebmffgaaGreat.Sx
open Go.RowKit Go.Proofs.YtkjlbedebmffgaaGreat.Ty
attribute [local irreducible] blk own rd rx frameC
theorem Wi.up {k : Nat} {N N' : Int} {M M' : Nat} {s : Wo} (h : Wi k N M s) (hN : N ≤ N') (hM : M ≤ M') : Wi k N' M' s :=
 ⟨h.S.imp fun _ ⟨k1, q⟩ => ⟨k1, q.up hN⟩, h.lim, h.fi, h.n, Nat.le_trans h.pd hM, Nat.le_trans h.ws hM, h.same, h.es⟩
def OpR.m3 (o : OpR) : OpR := { o with k := o.k % 3 }
theorem m3_lt (o : OpR) : o.m3.k.toNat < 3 := by
 show (o.k % 3).toNat < 3
 rw [UInt8.toNat_mod]
 exact Nat.mod_lt _ (by decide)
theorem m3_k (o : OpR) : (.int .u8 ((o.k.toNat : Int) % 3) : Value) = bv o.m3.k := by
 show _ = Value.int .u8 (((o.k % 3).toNat : Nat) : Int)
 rw [UInt8.toNat_mod]
 rfl
theorem f11_any (bx bd bm : Nat) (A : Option Addr) (c : Nat) (D : Dk) (pj : Value) (r : Rd) (J0 : Jn) (A0 : Option Addr) (c0 m0 : Nat) {k : Nat} (hs : Same r D) (hd : D.down = false) (hl : D.lim = false) (hk : 8 ≤ k ∧ k ≤ 43) (hn : D.n = 48) (hp : D.pend = []) (hw : r.ws = []) :
  Spec Tryz.prog 11 [.pointer (some ⟨bx, 0, none⟩)] [blk bx (wcl bd pj r (rjc J0 A0 c0 m0) k) 43, blk bd (dcells D bm A c) 77, mapC bm (dmap D.dur), own (.slice A D.pend.length c) 80 257 D.pend.length (D.pend.flatMap wcs), own (.slice r.A r.ds.length r.c) 30 1 r.ds.length (r.ds.map Bs.v), rowsC true r.ds, own (.slice r.Aw r.ws.length r.cw) 84 2 r.ws.length (r.ws.flatMap Wb.cells), rowsC true (r.ws.map Wb.b)] [] (R := Unit) (fun _ => True) (fun _ => .bool true) (fun _ => []) := by
 refine (f11_spec bx bd bm A c D pj r J0 A0 c0 m0 k hs hd hl (by omega) ⟨by omega, by omega⟩ (by omega) (by rw [hp]; decide) (by rw [hw]; decide)).conseq ?_
 intro x _
 exact ⟨(), trivial, rfl, .nil _⟩
set_option maxHeartbeats 400000 in
set_option maxRecDepth 10000 in
theorem f3_spec (s w f y : UInt8) (A : Option Addr) (M c : Nat) (l : List OpR) (hM : l.length = M) (hln : ∀ o ∈ l, o.n < 65536) :
  Spec Tryz.prog 3 [bv s, .slice A M c, bv w, bv f, bv y] [] [rd (.slice A M c) 4 M (l.flatMap OpR.cells)] (R := Bool) (fun b => b = true) (fun b => .bool b) (fun _ => []) := by
 have hk := sizeM_in s
 have hflt := f.toNat_lt
 refine Spec.intro Tryz.func3 Tryz.ntmps3 rfl (by simp) (by simp) fun w0 => ?_
 refine W283 ?_
 refine WX.regs (L' := [(0, _), (1, _), (2, _), (3, _), (4, _)]) ?_
 refine W269 ?_
 refine wlx (op_call (f4_spec) ca4 (lt_ rfl) rfl) rfl ?_
 rintro _ _
 refine W85 ?_
 refine W361 ?_
 refine wlgx (op_call (f5_spec A M c l hM) ca5 (lt_ rfl) rfl) rfl rfl rfl ?_
 rintro f1 hf1
 refine W113 ?_
 refine W15 ?_
 refine W4 ?_
 refine WL.splitb (t := 25) rfl (fun g25 => ?_) (fun g25 => ?_)
 ·
  refine W243 ?_
  refine W313 ?_
  refine WX.regs (L' := [(0, _), (1, _), (2, _), (3, _), (4, _), (28, _)]) ?_
  refine W353 ?_
  refine wlx (op_call (f4_spec) ca4 (lt_ rfl) rfl) rfl ?_
  rintro _ _
  refine W241 ?_
  refine WX.regs (L' := [(10, _)]) ?_
  refine W263 ?_
  exact Fin.ret1 xI (_) (rfl) Tryz.results3 (.tmp rfl) xT (by simp)
 ·
  refine W13 ?_
  refine wlgv (op_eql8 (b := 0) (lt_ rfl) rfl rfl) rfl rfl rfl ?_
  refine W285 ?_
  refine WX.regs (L' := [(0, _), (1, _), (2, _), (3, _), (4, _), (28, _)]) ?_
  refine W0 ?_
  refine WC.cond rfl (fun h1 => ?_) (fun h1 => ?_)
  ·
   refine W240 ?_
   refine wlx (op_call (f4_spec) ca4 (lt_ rfl) rfl) rfl ?_
   rintro _ _
   refine W241 ?_
   refine WX.regs (L' := [(10, _)]) ?_
   refine W263 ?_
   exact Fin.ret1 xI (_) (rfl) Tryz.results3 (.tmp rfl) xT (by simp)
  ·
   have hfit1 := hf1.1 (by cases f1 <;> simp_all)
   have hM30 := hfit1.1
   rw [hM] at hM30
   refine W8 ?_
   refine W261 ?_
   refine wlx (op_call (f7_spec s) ca7 (lt_ rfl) rfl) rfl ?_
   rintro _ _
   refine wlx (op_call (f6_spec (sizeM s) hk) ca6 (lt_ rfl) rfl) rfl ?_
   rintro ⟨bx, bd, bm, ⟨⟨D2, A2, c2, J2, Aj2, cj2, rs2⟩, bj2, r2, Ar2, cr2, es2⟩⟩ hw2
   dsimp only at hw2 ⊢
   refine W341 ?_
   refine WX.regs (L' := [(1, _), (2, _), (3, _), (4, _), (11, _), (12, _)]) ?_
   refine W282 ?_
   refine W85 ?_
   refine W2 ?_
   refine WX.regs (L' := [(1, _), (2, _), (3, _), (4, _), (11, _), (37, _)]) ?_
   refine W281 ?_
   refine W310 ?_
   refine WX.regs (L' := [(1, _), (2, _), (3, _), (4, _), (11, _), (13, _)]) ?_
   refine W294 ?_
   refine WC.loop (X := Wo × Nat) (fun q => M - q.2) (fun q => Wi (sizeM s) (1010 + 1000 * q.2) (600 * q.2) q.1 ∧ q.2 ≤ M) (fun q => [(1, .slice A M c), (2, bv w), (3, bv f), (4, bv y), (11, .pointer (some ⟨bx, 0, none⟩)), (13, .int .i64 (q.2 : Int))]) (fun q => [blk bx (wcl bd (.pointer (some ⟨q.1.bj, 0, none⟩)) q.1.r (rjc q.1.p.J q.1.A q.1.c q.1.es.length) (sizeM s)) 43, blk bd (dcells q.1.p.D bm q.1.p.A q.1.p.c) 77, mapC bm (dmap q.1.p.D.dur), own (.slice q.1.p.A q.1.p.D.pend.length q.1.p.c) 80 257 q.1.p.D.pend.length (q.1.p.D.pend.flatMap wcs), blk q.1.bj (jcells q.1.p.J bd q.1.p.Aj q.1.p.rs.length q.1.p.cj) 96, own (.slice q.1.p.Aj q.1.p.rs.length q.1.p.cj) 30 1 q.1.p.rs.length (q.1.p.rs.map Bs.v), rowsC true q.1.p.rs, own (.slice q.1.r.A q.1.r.ds.length q.1.r.c) 30 1 q.1.r.ds.length (q.1.r.ds.map Bs.v), rowsC true q.1.r.ds, own (.slice q.1.r.Aw q.1.r.ws.length q.1.r.cw) 84 2 q.1.r.ws.length (q.1.r.ws.flatMap Wb.cells), rowsC true (q.1.r.ws.map Wb.b), own (.slice q.1.A q.1.es.length q.1.c) 30 1 q.1.es.length (q.1.es.map Bs.v), rowsC true q.1.es, rd (.slice A M c) 4 M (l.flatMap OpR.cells), frameC w0 (MutF [])]) ((⟨⟨D2, A2, c2, J2, Aj2, cj2, rs2⟩, bj2, r2, Ar2, cr2, es2⟩, 0)) (⟨hw2.up (by simp only []; omega) (by simp only []; omega), Nat.zero_le _⟩) (fun a w hs => hs.sub xY xT) ?_
   rintro ⟨⟨⟨D3, A3, c3, J3, Aj3, cj3, rs3⟩, bj3, r3, Ar3, cr3, es3⟩, i⟩ ⟨hw3, hi⟩
   try dsimp only at hw3 hi ⊢
   refine W314 ?_
   refine wlv (op_len Tryz.underlying22 (lt_ rfl) rfl) rfl ?_
   refine W265 ?_
   refine WX.regs (L' := [(1, _), (2, _), (3, _), (4, _), (11, _), (13, _), (41, _)]) ?_
   refine W0 ?_
   refine WC.cond rfl (fun h3 => ?_) (fun h3 => ?_)
   ·
    refine W298 ?_
    obtain ⟨o, hoo⟩ : ∃ r, l[i]? = some r := ⟨l[i]'(by omega), List.getElem?_eq_getElem _⟩
    have ho := hln o (List.mem_of_getElem? hoo)
    have hx : ∀ j, j = i * 4 → ((l.flatMap OpR.cells).drop j).take 4 = o.cells := fun j hj => by rw [hj]; exact flat_at (f := OpR.cells) (sz := 4) (fun _ => rfl) l i o hoo
    refine W244 ?_
    refine wlv (op_index Tryz.underlying22 sz32 (lt_ rfl) rfl rfl (by omega) (by omega) (by decide) xS) rfl ?_
    refine wlv (op_loadSN ag32 (lt_ rfl) rfl xS (by rw [hx _ (by omega)]; rfl) (by decide)) rfl ?_
    rw [hx _ (by omega)]
    refine wl1 (op_alloc ti32 (lt_ rfl)) rfl fun b1 => ?_
    refine wl (op_storeAll sz32 rfl rfl xK xL xO xL) rfl ?_
    refine W252 ?_
    refine WX.regs (L' := [(1, _), (2, _), (3, _), (4, _), (11, _), (13, _), (14, _)]) ?_
    refine W249 ?_
    refine W292 ?_
    refine W176 ?_
    rw [m3_k o]
    refine wlv (op_fieldAddr fo32_0 (lt_ rfl) rfl) rfl ?_
    refine wl (op_store sz5 rfl rfl xK xL xO (by first | exact Nat.le_of_ble_eq_true rfl | (simp; omega))) rfl ?_
    refine W252 ?_
    refine WX.blkEq (b := b1) o.m3.cells xK (by rfl) ?_
    refine WX.regs (L' := [(1, _), (2, _), (3, _), (4, _), (11, _), (13, _), (14, _)]) ?_
    refine W261 ?_
    refine wlv (op_loadAll ag32 (lt_ rfl) rfl xM xL) rfl ?_
    refine wlx (op_call (f8_spec bx bd bm D3 A3 c3 J3 Aj3 cj3 rs3 bj3 r3 Ar3 cr3 es3 hw3 ⟨by omega, by omega⟩ (by omega) o.m3 ho (m3_lt o)) ca8 (lt_ rfl) rfl) rfl ?_
    rintro ⟨⟨D4, A4, c4, J4, Aj4, cj4, rs4⟩, bj4, r4, Ar4, cr4, es4⟩ ⟨hw4, _⟩
    dsimp only at hw4 ⊢
    refine W85 ?_
    refine W2 ?_
    refine WX.regs (L' := [(1, _), (2, _), (3, _), (4, _), (11, _), (13, _), (55, _)]) ?_
    refine W281 ?_
    refine W352 ?_
    refine WX.regs (L' := [(1, _), (2, _), (3, _), (4, _), (11, _), (13, _)]) ?_
    refine WX.meet ((⟨⟨D4, A4, c4, J4, Aj4, cj4, rs4⟩, bj4, r4, Ar4, cr4, es4⟩, i + 1)) ⟨⟨hw4.up (by simp only []; omega) (by simp only []; omega), by simp only []; omega⟩, by simp only []; omega⟩ (fun a w hs => hs.sub xY xT)
   ·
    refine W264 ?_
    refine W282 ?_
    refine wlv (op_build (cs := (OpR.cells ⟨1, 0, 0, ⟨none, 0, []⟩⟩)) (pv := [(0, _)]) (lt_ rfl) rfl (by kernel_rfl)) rfl ?_
    refine wlx (op_call (f8_spec bx bd bm D3 A3 c3 J3 Aj3 cj3 rs3 bj3 r3 Ar3 cr3 es3 hw3 ⟨by omega, by omega⟩ (by omega) ⟨1, 0, 0, ⟨none, 0, []⟩⟩ (by decide) (by decide)) ca8 (lt_ rfl) rfl) rfl ?_
    rintro ⟨⟨D5, A5, c5, J5, Aj5, cj5, rs5⟩, bj5, r5, Ar5, cr5, es5⟩ ⟨hw5, hsy⟩
    dsimp only at hw5 hsy ⊢
    obtain ⟨hp5, hr5⟩ := hsy rfl
    have hs5 := hw5.same
    have hn5 := hw5.n
    have hl5 := hw5.lim
    obtain ⟨_, _, hst5⟩ := hw5.S
    have hd5 := hst5.dn
    dsimp only at hs5 hn5 hl5 hd5
    refine W85 ?_
    refine W2 ?_
    refine WX.regs (L' := [(2, _), (3, _), (4, _), (11, _), (59, _)]) ?_
    refine W281 ?_
    refine W261 ?_
    refine W166 ?_
    refine W4 ?_
    refine W27 ?_
    refine wlv (op_fieldAddr fo43_4 (lt_ rfl) rfl) rfl ?_
    refine W21 ?_
    refine W78 ?_
    rw [← Int.natCast_emod w.toNat (sizeM s)]
    have hml := Nat.mod_lt w.toNat (show 0 < sizeM s by omega)
    generalize w.toNat % sizeM s = u at hml ⊢
    refine W16 ?_
    rw [show (3 : Int) + (u : Int) = ((3 + u : Nat) : Int) by omega]
    refine W241 ?_
    refine WX.regs (L' := [(3, _), (4, _), (11, _), (15, _)]) ?_
    refine W282 ?_
    refine W27 ?_
    refine wlv (op_fieldAddr fo43_0 (lt_ rfl) rfl) rfl ?_
    refine W132 ?_
    refine W244 ?_
    refine W166 ?_
    refine W4 ?_
    refine wlx (op_call (f9_dmg bd bm A5 c5 D5 hp5 ((3 + u : Nat) : Int) ⟨by omega, by rw [hn5]; omega⟩ f.toNat hflt y) ca9 (lt_ rfl) rfl) rfl ?_
    rintro _ _
    refine W24 ?_
    refine W2 ?_
    refine WX.regs (L' := [(3, _), (4, _), (11, _), (15, _), (77, _)]) ?_
    refine W281 ?_
    refine W323 ?_
    refine wlv (op_fieldAddr fo43_2 (lt_ rfl) rfl) rfl ?_
    refine wlv (op_loadN ag39 (lt_ rfl) rfl xM rfl) rfl ?_
    refine W244 ?_
    refine W166 ?_
    refine W4 ?_
    refine wlx (op_call (f10_spec r5 hs5.ok hr5 (3 + u) (by rw [hs5.n, hn5]; omega) f.toNat hflt y) ca10 (lt_ rfl) rfl) rfl ?_
    rintro q hq
    refine W296 ?_
    refine wl1 (op_alloc ti39 (lt_ rfl)) rfl fun b2 => ?_
    refine W50 ?_
    refine W271 ?_
    refine WX.regs (L' := [(11, _), (16, _), (17, _)]) ?_
    refine W261 ?_
    refine W41 ?_
    refine W27 ?_
    refine wlv (op_fieldAddr fo43_2 (lt_ rfl) rfl) rfl ?_
    refine wl (op_store sz39 rfl rfl xK xL xO (by first | exact Nat.le_of_ble_eq_true rfl | (simp; omega))) rfl ?_
    refine W252 ?_
    refine WX.regs (L' := [(11, _), (17, _)]) ?_
    refine W261 ?_
    refine W42 ?_
    refine W361 ?_
    refine wlgx (op_call (f11_any bx bd bm A5 c5 (D5.dmgS ((3 + u : Nat) : Int) f.toNat y) (.pointer (some ⟨bj5, 0, none⟩)) q J5 Ar5 cr5 es5.length (hs5.dmg hq hp5) hd5 hl5 hk hn5 hp5 hq.m) ca11 (lt_ rfl) rfl) rfl rfl rfl ?_
    rintro _ _
    refine W17 ?_
    refine W241 ?_
    refine WX.regs (L' := [(10, _)]) ?_
    refine W242 ?_
    exact Fin.ret1 xI (_) (rfl) Tryz.results3 (.tmp rfl) xT (by simp)
end Go.Proofs.YtkjlbedebmffgaaGreat.Sx
