import Derived.Test.YtkjlbedebmffgaaMh
set_option linter.unusedVariables false
set_option linter.unusedSimpArgs false
namespace Go.Proofs.Ytkjlbedebmffgaa.Sx
open Go.RowKit Go.Proofs.Ytkjlbedebmffgaa.Ty
attribute [local irreducible] blk own rd rx frameC
set_option maxHeartbeats 400000 in
set_option maxRecDepth 10000 in
theorem f5_spec (n : Int) : Spec Try.prog 5 [.int .i64 n] [] [] (R := Bool) (fun b => b = true) (fun b => .bool b) (fun _ => []) := by
  refine Spec.intro Try.func5 Try.ntmps5 rfl (by simp) (by simp) fun w0 => ?_
  refine WC.seq ?_
  refine WC.region ?_
  refine wlv (op_assign (lt_ rfl) rfl) rfl ?_
  refine WL.nil ?_
  refine WX.regs (L' := [(0, _)]) ?_
  refine WX.next ?_
  refine WC.seq ?_
  refine WC.seq ?_
  refine WC.region ?_
  refine wlx (op_call (f9_spec) ca9 (lt_ rfl) rfl) rfl ?_
  rintro _ _
  refine wlv (op_not (lt_ rfl) rfl) rfl ?_
  refine WL.nil ?_
  refine WX.regs (L' := [(0, _), (6, _)]) ?_
  refine WX.next ?_
  refine WC.condF rfl ?_
  refine WC.skip ?_
  refine WX.next ?_
  refine WC.seq ?_
  refine WC.region ?_
  refine wlv (op_move (lt_ rfl) rfl) rfl ?_
  refine wlx (op_call (f25_spec n) ca25 (lt_ rfl) rfl) rfl ?_
  rintro ⟨q1, q2⟩ hq
  dsimp only
  refine wlv (op_move (lt_ rfl) rfl) rfl ?_
  refine wlv (op_extract (lt_ rfl) rfl rfl) rfl ?_
  refine wlv (op_extract (lt_ rfl) rfl rfl) rfl ?_
  refine wlv (op_assign (lt_ rfl) rfl) rfl ?_
  refine wlv (op_assign (lt_ rfl) rfl) rfl ?_
  refine WL.nil ?_
  refine WX.regs (L' := [(0, _), (3, _), (4, _)]) ?_
  refine WX.next ?_
  refine WC.seq ?_
  refine WC.seq ?_
  refine WC.region ?_
  refine wlv (op_move (lt_ rfl) rfl) rfl ?_
  refine wlv (op_lss (lt_ rfl) rfl rfl) rfl ?_
  refine wlv (op_move (lt_ rfl) rfl) rfl ?_
  refine WL.split (t := 14) rfl (fun g14 => ?_) (fun g14 => ?_)
  ·
    refine wlg_no rfl rfl rfl rfl rfl (by decide) ?_
    refine wlg_no rfl rfl rfl rfl rfl (by decide) ?_
    refine wlv (op_pickT (lt_ rfl) rfl rfl) rfl ?_
    refine WL.nil ?_
    refine WX.regs (L' := [(0, _), (3, _), (4, _), (17, _)]) ?_
    refine WX.next ?_
    refine WC.condT rfl ?_
    refine WC.seq ?_
    refine WC.region ?_
    refine wlv (op_move (lt_ rfl) rfl) rfl ?_
    refine wlv (op_eql (lt_ rfl) rfl rfl) rfl ?_
    refine wlv (op_move (lt_ rfl) rfl) rfl ?_
    refine WL.split (t := 20) rfl (fun g20 => ?_) (fun g20 => ?_)
    ·
      rw [if_neg (by omega), Prod.mk.injEq] at hq
      refine wlgv (op_move (lt_ rfl) rfl) rfl rfl rfl ?_
      refine wlgv (op_eql (lt_ rfl) rfl rfl) rfl rfl rfl ?_
      refine wlv (op_pickT (lt_ rfl) rfl rfl) rfl ?_
      refine wlv (op_assign (lt_ rfl) rfl) rfl ?_
      refine WL.nil ?_
      refine WX.regs (L' := [(2, _)]) ?_
      refine WX.next ?_
      refine WC.ret ?_
      refine WX.then_ret ?_
      exact Fin.ret1 xI (_) (decide_eq_true (by omega)) Try.results5 (.tmp rfl) xT (by simp)
    ·
      rw [if_neg (by omega), Prod.mk.injEq] at hq
      omega
  ·
    refine wlgv (op_move (lt_ rfl) rfl) rfl rfl rfl ?_
    refine wlgv (op_gtr (lt_ rfl) rfl rfl) rfl rfl rfl ?_
    refine wlv (op_pickF (lt_ rfl) rfl rfl) rfl ?_
    refine WL.nil ?_
    refine WX.regs (L' := [(0, _), (3, _), (4, _), (17, _)]) ?_
    refine WX.next ?_
    refine WC.cond rfl (fun h2 => ?_) (fun h2 => ?_)
    ·
      refine WC.seq ?_
      refine WC.region ?_
      refine wlv (op_move (lt_ rfl) rfl) rfl ?_
      refine wlv (op_eql (lt_ rfl) rfl rfl) rfl ?_
      refine wlv (op_move (lt_ rfl) rfl) rfl ?_
      refine WL.split (t := 20) rfl (fun g20 => ?_) (fun g20 => ?_)
      ·
        rw [if_neg (by omega), Prod.mk.injEq] at hq
        refine wlgv (op_move (lt_ rfl) rfl) rfl rfl rfl ?_
        refine wlgv (op_eql (lt_ rfl) rfl rfl) rfl rfl rfl ?_
        refine wlv (op_pickT (lt_ rfl) rfl rfl) rfl ?_
        refine wlv (op_assign (lt_ rfl) rfl) rfl ?_
        refine WL.nil ?_
        refine WX.regs (L' := [(2, _)]) ?_
        refine WX.next ?_
        refine WC.ret ?_
        refine WX.then_ret ?_
        exact Fin.ret1 xI (_) (decide_eq_true (by omega)) Try.results5 (.tmp rfl) xT (by simp)
      ·
        rw [if_neg (by omega), Prod.mk.injEq] at hq
        omega
    ·
      refine WC.skip ?_
      refine WX.next ?_
      refine WC.seq ?_
      refine WC.region ?_
      refine wlv (op_move (lt_ rfl) rfl) rfl ?_
      refine wlv (op_eql (lt_ rfl) rfl rfl) rfl ?_
      refine wlv (op_move (lt_ rfl) rfl) rfl ?_
      refine WL.split (t := 26) rfl (fun g26 => ?_) (fun g26 => ?_)
      ·
        rw [if_pos (by omega), Prod.mk.injEq] at hq
        refine wlgv (op_move (lt_ rfl) rfl) rfl rfl rfl ?_
        refine wlgv (op_move (lt_ rfl) rfl) rfl rfl rfl ?_
        refine wlgv (op_add (lt_ rfl) rfl rfl (by omega)) rfl rfl rfl ?_
        refine wlgv (op_quo (lt_ rfl) rfl rfl (by omega) (by omega)) rfl rfl rfl ?_
        refine wlgv (op_max (t := 0) (lt_ rfl) rfl rfl) rfl rfl rfl ?_
        refine wlgv (op_eql (lt_ rfl) rfl rfl) rfl rfl rfl ?_
        refine wlv (op_pickT (lt_ rfl) rfl rfl) rfl ?_
        refine wlv (op_assign (lt_ rfl) rfl) rfl ?_
        refine WL.nil ?_
        refine WX.regs (L' := [(2, _)]) ?_
        refine WX.next ?_
        refine WC.ret ?_
        exact Fin.ret1 xI (_) (decide_eq_true (by have h := hq.1; unfold need at h; omega)) Try.results5 (.tmp rfl) xT (by simp)
      ·
        rw [if_pos (by omega), Prod.mk.injEq] at hq
        omega
end Go.Proofs.Ytkjlbedebmffgaa.Sx

set_option linter.unusedVariables false
set_option linter.unusedSimpArgs false
namespace Go.Proofs.Ytkjlbedebmffgaa.Sx
open Go.RowKit Go.Proofs.Ytkjlbedebmffgaa.Ty
attribute [local irreducible] blk own rd rx frameC

theorem sizeM_le (s : UInt8) : 8 ≤ sizeM s ∧ sizeM s ≤ 43 := by unfold sizeM; omega
/-- An entry, with room or without. -/
theorem f27_any (bd bm bj : Nat) (A : Option Addr) (c : Nat) (D : Dk) (J : Jn) (Aj : Option Addr) (cj : Nat) (rs : List Bs) {k : Nat} {N : Int} {es : List Sec} {c0 k0 : Nat} (h : Strong k N D J es c0 k0) (hrs : rs.map Bs.s = es) (hN : 0 ≤ N ∧ N ≤ 900000) (hpd : D.pend.length ≤ 800000) (hl : D.lim = false) (Ab : Option Addr) (mb cb : Nat) (p : List UInt8) (hp : p.length = mb) (hp2 : mb ≤ 100000) :
    Spec Try.prog 27 [.pointer (some ⟨bj, 0, none⟩), .slice Ab mb cb] [blk bd (dcells D bm A c) 66, mapC bm (dmap D.dur), own (.slice A D.pend.length c) 84 257 D.pend.length (D.pend.flatMap wcs), blk bj (jcells J bd Aj rs.length cj) 76, own (.slice Aj rs.length cj) 23 1 rs.length (rs.map Bs.v), rowsC true rs] [rd (.slice Ab mb cb) 1 mb (bvs p)] (R := JP × Int × Int)
      (fun r => r.2.2 = if 1 + needs es + need mb ≤ k / 2 then 0 else 9) (fun r => .tuple #[.int .i64 r.2.1, .int .i64 r.2.2])
      (fun r => [blk bd (dcells r.1.D bm r.1.A r.1.c) 66, mapC bm (dmap r.1.D.dur), own (.slice r.1.A r.1.D.pend.length r.1.c) 84 257 r.1.D.pend.length (r.1.D.pend.flatMap wcs), blk bj (jcells r.1.J bd r.1.Aj r.1.rs.length r.1.cj) 76, own (.slice r.1.Aj r.1.rs.length r.1.cj) 23 1 r.1.rs.length (r.1.rs.map Bs.v), rowsC true r.1.rs]) := by
  by_cases hf : 1 + needs es + need mb ≤ k / 2
  · refine (f27_live bd bm bj A c D J Aj cj rs h hrs hN hpd hl Ab mb cb p hp hp2 hf).conseq ?_
    rintro q hq
    exact ⟨(q, J.first + (es.length : Nat), 0), by rw [if_pos hf], rfl, weak_refl _⟩
  · refine (f27_full bd bm bj A c D J Aj cj rs h hrs hN hpd Ab mb cb p hp hp2 (by omega)).conseq ?_
    rintro q hq
    exact ⟨(q, 0, 9), by rw [if_neg hf], rfl, weak_refl _⟩
def fullE (n c : Nat) : List Sec := (List.range c).map fun i => bytesM n (UInt8.ofNat i)
theorem fullE_succ (n c : Nat) : fullE n (c + 1) = fullE n c ++ [bytesM n (UInt8.ofNat c)] := by unfold fullE; rw [List.range_succ, List.map_append]; rfl
theorem fullE_length (n c : Nat) : (fullE n c).length = c := by simp [fullE]
theorem needs_same {L : Nat} : ∀ {es : List Sec}, (∀ p ∈ es, p.length = L) → needs es = es.length * need L := by
  intro es
  induction es with
  | nil => intro _; simp [needs]
  | cons p es ih =>
    intro h
    simp only [needs, List.length_cons, h p (List.mem_cons_self ..), ih fun q hq => h q (List.mem_cons_of_mem _ hq), Nat.succ_mul]
    omega
theorem fullE_same (n c : Nat) : ∀ p ∈ fullE n c, p.length = n % 1500 := by
  intro p hp
  obtain ⟨i, _, rfl⟩ := List.mem_map.1 hp
  exact bytesM_length ..
theorem fullE_needs (n c : Nat) : needs (fullE n c) = c * need (n % 1500) := by rw [needs_same (fullE_same n c), fullE_length]
theorem fullE_drop (n c m : Nat) : needs ((fullE n c).drop m) = (c - m) * need (n % 1500) := by rw [needs_same fun p hp => fullE_same n c p (List.mem_of_mem_drop hp), List.length_drop, fullE_length]
set_option maxHeartbeats 400000 in
set_option maxRecDepth 10000 in
theorem f4_spec (s : UInt8) (n : Nat) (hn : n < 65536) (kp : UInt8) : Spec Try.prog 4 [bv s, .int .u16 (n : Int), bv kp] [] [] (R := Bool) (fun b => b = true) (fun b => .bool b) (fun _ => []) := by
  have hk := sizeM_le s
  have hL : n % 1500 < 1500 := Nat.mod_lt _ (by decide)
  obtain ⟨nd, hnd⟩ : ∃ nd, nd = need (n % 1500) := ⟨_, rfl⟩
  have hnd1 : 1 ≤ nd ∧ nd ≤ 586 := by rw [hnd]; exact need_le (by omega)
  refine Spec.intro Try.func4 Try.ntmps4 rfl (by simp) (by simp) fun w0 => ?_
  refine WC.seq ?_
  refine WC.region ?_
  refine wlv (op_assign (lt_ rfl) rfl) rfl ?_
  refine WL.nil ?_
  refine WX.regs (L' := [(0, _), (1, _), (2, _)]) ?_
  refine WX.next ?_
  refine WC.seq ?_
  refine WC.seq ?_
  refine WC.region ?_
  refine wlx (op_call (f9_spec) ca9 (lt_ rfl) rfl) rfl ?_
  rintro _ _
  refine wlv (op_not (lt_ rfl) rfl) rfl ?_
  refine WL.nil ?_
  refine WX.regs (L' := [(0, _), (1, _), (2, _), (21, _)]) ?_
  refine WX.next ?_
  refine WC.condF rfl ?_
  refine WC.skip ?_
  refine WX.next ?_
  refine WC.seq ?_
  refine WC.region ?_
  refine wlx (op_call (f11_spec 48 (by omega)) ca11 (lt_ rfl) rfl) rfl ?_
  rintro ⟨bd, bm⟩ _
  refine wlv (op_move (lt_ rfl) rfl) rfl ?_
  refine wlv (op_extract (lt_ rfl) rfl rfl) rfl ?_
  refine wlv (op_extract (lt_ rfl) rfl rfl) rfl ?_
  refine wlv (op_assign (lt_ rfl) rfl) rfl ?_
  refine wlv (op_assign (lt_ rfl) rfl) rfl ?_
  refine WL.nil ?_
  refine WX.regs (L' := [(0, _), (1, _), (2, _), (7, _), (8, _)]) ?_
  refine WX.next ?_
  refine WC.seq ?_
  refine WC.seq ?_
  refine WC.region ?_
  refine wlv (op_move (lt_ rfl) rfl) rfl ?_
  refine wlv (op_neq (lt_ rfl) rfl rfl) rfl ?_
  refine wlv (op_move (lt_ rfl) rfl) rfl ?_
  refine wlgv (op_move (lt_ rfl) rfl) rfl rfl rfl ?_
  refine wlgv (op_move (lt_ rfl) rfl) rfl rfl rfl ?_
  refine wlgx (op_call (f13_spec s) ca13 (lt_ rfl) rfl) rfl rfl rfl ?_
  rintro _ _
  refine wlgx (op_call (f12_new bd bm none 0 (Dk.new 48) 3 (sizeM s) (by omega) (by omega) (by show (3 : Int) + (sizeM s : Int) ≤ 48; omega) (by decide) rfl rfl (fun a _ _ => gof_zero) (by decide)) ca12 (lt_ rfl) rfl) rfl rfl rfl ?_
  rintro ⟨D1, A1, c1⟩ ⟨hn1, hl1, hp1, ho1, J0, hj1, hj2, hj3, hs1⟩
  refine wlgv (op_neq (lt_ rfl) rfl rfl) rfl rfl rfl ?_
  refine wlv (op_pickF (lt_ rfl) rfl rfl) rfl ?_
  refine WL.nil ?_
  refine WX.regs (L' := [(0, _), (1, _), (2, _), (7, _), (34, _)]) ?_
  refine WX.next ?_
  refine WC.condF rfl ?_
  refine WC.skip ?_
  refine WX.next ?_
  refine WC.seq ?_
  refine WC.region ?_
  refine wlv (op_move (lt_ rfl) rfl) rfl ?_
  refine wlv (op_move (lt_ rfl) rfl) rfl ?_
  refine wlx (op_call (f13_spec s) ca13 (lt_ rfl) rfl) rfl ?_
  rintro _ _
  refine wlx (op_call (f14_live bd bm A1 c1 D1 J0 hs1 (by omega) (by rw [hp1]; decide) hl1 3 hj1) ca14 (lt_ rfl) rfl) rfl ?_
  rintro ⟨⟨D2, A2, c2, J2, Aj2, cj2, rs2⟩, bj, ⟨Ax, cx⟩, xs⟩ ⟨hr2, hx2, hn2, hl2, hp2, hf2, hfi2, hg2, ho2, hs2⟩
  dsimp only at hr2 hx2 hn2 hl2 hp2 hf2 hfi2 hg2 ho2 hs2 ⊢
  have hse2 := hs2.geo.se
  have hu2 := hs2.used
  simp only [needs] at hu2
  refine wlv (op_move (lt_ rfl) rfl) rfl ?_
  refine wlv (op_extract (lt_ rfl) rfl rfl) rfl ?_
  refine wlv (op_extract (lt_ rfl) rfl rfl) rfl ?_
  refine wlv (op_extract (lt_ rfl) rfl rfl) rfl ?_
  refine wlv (op_assign (lt_ rfl) rfl) rfl ?_
  refine wlv (op_assign (lt_ rfl) rfl) rfl ?_
  refine wlv (op_assign (lt_ rfl) rfl) rfl ?_
  refine WL.nil ?_
  refine WX.regs (L' := [(0, _), (1, _), (2, _), (8, _), (9, _)]) ?_
  refine WX.next ?_
  refine WC.seq ?_
  refine WC.region ?_
  refine wlv (op_move (lt_ rfl) rfl) rfl ?_
  refine wlx (op_call (f19_spec n hn 1) ca19 (lt_ rfl) rfl) rfl ?_
  rintro bz _
  refine wlv (op_len Try.underlying23 (lt_ rfl) rfl) rfl ?_
  refine wlx (op_call (f25_spec ((n % 1500 : Nat) : Int)) ca25 (lt_ rfl) rfl) rfl ?_
  rintro ⟨q1, q2⟩ hq
  rw [if_pos (by omega), Int.toNat_natCast, ← hnd, Prod.mk.injEq] at hq
  obtain ⟨rfl, rfl⟩ := hq
  dsimp only
  refine wlv (op_move (lt_ rfl) rfl) rfl ?_
  refine wlv (op_extract (lt_ rfl) rfl rfl) rfl ?_
  refine wlv (op_extract (lt_ rfl) rfl rfl) rfl ?_
  refine wlv (op_assign (lt_ rfl) rfl) rfl ?_
  refine wlv (op_assign (lt_ rfl) rfl) rfl ?_
  refine WL.nil ?_
  refine WX.regs (L' := [(0, _), (1, _), (2, _), (8, _), (9, _), (11, _), (12, _)]) ?_
  refine WX.next ?_
  refine WC.seq ?_
  refine WC.seq ?_
  refine WC.region ?_
  refine wlv (op_move (lt_ rfl) rfl) rfl ?_
  refine wlv (op_neq (lt_ rfl) rfl rfl) rfl ?_
  refine wlv (op_move (lt_ rfl) rfl) rfl ?_
  refine wlgv (op_move (lt_ rfl) rfl) rfl rfl rfl ?_
  refine wlgv (op_neq (lt_ rfl) rfl rfl) rfl rfl rfl ?_
  refine wlv (op_pickF (lt_ rfl) rfl rfl) rfl ?_
  refine wlv (op_move (lt_ rfl) rfl) rfl ?_
  refine wlgv (op_move (lt_ rfl) rfl) rfl rfl rfl ?_
  refine wlgv (op_lss (lt_ rfl) rfl rfl) rfl rfl rfl ?_
  refine wlv (op_pickF (lt_ rfl) rfl rfl) rfl ?_
  refine WL.nil ?_
  refine WX.regs (L' := [(0, _), (1, _), (2, _), (9, _), (11, _), (59, _)]) ?_
  refine WX.next ?_
  refine WC.cond rfl (fun h3 => ?_) (fun h3 => ?_)
  ·
    omega
  ·
    refine WC.skip ?_
    refine WX.next ?_
    refine WC.seq ?_
    refine WC.region ?_
    refine wlv (op_move (lt_ rfl) rfl) rfl ?_
    refine wlx (op_call (f26_spec bj bd J2 Aj2 rs2.length cj2 (by omega)) ca26 (lt_ rfl) rfl) rfl ?_
    rintro _ _
    rw [show J2.se / 2 - J2.used = ((sizeM s / 2 : Nat) : Int) - 1 by omega]
    refine wlv (op_assign (lt_ rfl) rfl) rfl ?_
    refine WL.nil ?_
    refine WX.regs (L' := [(0, _), (1, _), (2, _), (9, _), (11, _), (13, _)]) ?_
    refine WX.next ?_
    refine WC.seq ?_
    refine WC.seq ?_
    refine WC.region ?_
    refine wlv (op_move (lt_ rfl) rfl) rfl ?_
    refine wlv (op_move (lt_ rfl) rfl) rfl ?_
    refine wlx (op_call (f13_spec s) ca13 (lt_ rfl) rfl) rfl ?_
    rintro _ _
    refine wlv (op_quo (lt_ rfl) rfl rfl (by omega) (by omega)) rfl ?_
    refine wlv (op_sub (lt_ rfl) rfl rfl (by omega)) rfl ?_
    refine wlv (op_neq (lt_ rfl) rfl rfl) rfl ?_
    refine WL.nil ?_
    refine WX.regs (L' := [(1, _), (2, _), (9, _), (11, _), (13, _), (67, _)]) ?_
    refine WX.next ?_
    refine WC.cond rfl (fun h4 => ?_) (fun h4 => ?_)
    ·
      exact (h4 (by omega)).elim
    ·
      refine WC.skip ?_
      refine WX.next ?_
      refine WC.seq ?_
      refine WC.region ?_
      refine wlv (op_assign (lt_ rfl) rfl) rfl ?_
      refine WL.nil ?_
      refine WX.regs (L' := [(1, _), (2, _), (9, _), (11, _), (13, _), (14, _)]) ?_
      refine WX.next ?_
      refine WC.seq ?_
      refine WC.block ?_
      refine WC.loop (X := JP × Nat) (fun q => sizeM s - q.2) (fun q => ∃ c0 k0, Strong (sizeM s) 1010 q.1.D q.1.J (fullE n q.2) c0 k0 ∧ q.1.rs.map Bs.s = fullE n q.2 ∧ q.1.D.lim = false ∧ q.1.J.first = 0 ∧ q.1.D.pend.length ≤ 500 * q.2 + 500 ∧ q.2 * nd + 1 ≤ sizeM s / 2 ∧ q.2 ≤ q.2 * nd) (fun q => [(1, .int .u16 (n : Int)), (2, bv kp), (9, .pointer (some ⟨bj, 0, none⟩)), (11, .int .i64 (nd : Int)), (13, .int .i64 (((sizeM s / 2 : Nat) : Int) - 1 - ((q.2 * nd : Nat) : Int))), (14, .int .i64 (q.2 : Int))]) (fun q => [blk bd (dcells q.1.D bm q.1.A q.1.c) 66, mapC bm (dmap q.1.D.dur), own (.slice q.1.A q.1.D.pend.length q.1.c) 84 257 q.1.D.pend.length (q.1.D.pend.flatMap wcs), blk bj (jcells q.1.J bd q.1.Aj q.1.rs.length q.1.cj) 76, own (.slice q.1.Aj q.1.rs.length q.1.cj) 23 1 q.1.rs.length (q.1.rs.map Bs.v), rowsC true q.1.rs, frameC w0 (MutF [])]) ((⟨D2, A2, c2, J2, Aj2, cj2, rs2⟩, 0)) (⟨_, _, hs2, hr2, hl2, by rw [hf2, hj2], by rw [hp2]; exact Nat.zero_le _, by omega, by omega⟩) (fun a w hs => hs.sub xY xT) ?_
      rintro ⟨⟨D3, A3, c3, J3, Aj3, cj3, rs3⟩, ct⟩ ⟨c0, k0, hs3, hr3, hl3, hf3, hp3, hb3, hc3⟩
      try dsimp only at hs3 hr3 hl3 hf3 hp3 hb3 hc3 ⊢
      refine WC.seq ?_
      refine WC.seq ?_
      refine WC.region ?_
      refine wlv (op_move (lt_ rfl) rfl) rfl ?_
      refine wlv (op_move (lt_ rfl) rfl) rfl ?_
      refine wlv (op_geq (lt_ rfl) rfl rfl) rfl ?_
      refine WL.nil ?_
      refine WX.regs (L' := [(1, _), (2, _), (9, _), (11, _), (13, _), (14, _), (70, _)]) ?_
      refine WX.next ?_
      refine WC.cond rfl (fun h5 => ?_) (fun h5 => ?_)
      ·
        refine WC.skip ?_
        refine WX.next ?_
        refine WC.block ?_
        refine WC.seq ?_
        refine WC.region ?_
        refine wlv (op_move (lt_ rfl) rfl) rfl ?_
        refine wlv (op_move (lt_ rfl) rfl) rfl ?_
        refine wlv (op_move (lt_ rfl) rfl) rfl ?_
        refine wlv (op_convByte (by kernel_rfl) Try.underlying5 (lt_ rfl) rfl (by omega)) rfl ?_
        rw [Int.toNat_natCast]
        refine wlx (op_call (f19_spec n hn (UInt8.ofNat ct)) ca19 (lt_ rfl) rfl) rfl ?_
        rintro bb _
        refine wlx (op_call (f27_live bd bm bj A3 c3 D3 J3 Aj3 cj3 rs3 hs3 hr3 (by omega) (by omega) hl3 (some ⟨bb, 0, none⟩) (n % 1500) (n % 1500) (bytesM n (UInt8.ofNat ct)) (bytesM_length ..) (by omega) (by rw [fullE_needs, ← hnd]; omega)) ca27 (lt_ rfl) rfl) rfl ?_
        rintro ⟨D4, A4, c4, J4, Aj4, cj4, rs4⟩ ⟨hr4, hn4, hl4, hp4, hf4, hfi4, hg4, ho4, hs4⟩
        dsimp only at hr4 hn4 hl4 hp4 hf4 hfi4 hg4 ho4 hs4 ⊢
        rw [← fullE_succ] at hs4 hr4
        have hse4 := hs4.geo.se
        have hu4 := hs4.used
        have hfn4 := fullE_needs n (ct + 1)
        rw [← hnd, Nat.succ_mul] at hfn4
        rw [fullE_length, hf3, Int.zero_add]
        refine wlv (op_move (lt_ rfl) rfl) rfl ?_
        refine wlv (op_extract (lt_ rfl) rfl rfl) rfl ?_
        refine wlv (op_extract (lt_ rfl) rfl rfl) rfl ?_
        refine wlv (op_assign (lt_ rfl) rfl) rfl ?_
        refine wlv (op_assign (lt_ rfl) rfl) rfl ?_
        refine WL.nil ?_
        refine WX.regs (L' := [(1, _), (2, _), (9, _), (11, _), (13, _), (14, _), (15, _), (16, _)]) ?_
        refine WX.next ?_
        refine WC.seq ?_
        refine WC.seq ?_
        refine WC.region ?_
        refine wlv (op_move (lt_ rfl) rfl) rfl ?_
        refine wlv (op_neq (lt_ rfl) rfl rfl) rfl ?_
        refine wlv (op_move (lt_ rfl) rfl) rfl ?_
        refine wlgv (op_move (lt_ rfl) rfl) rfl rfl rfl ?_
        refine wlgv (op_move (lt_ rfl) rfl) rfl rfl rfl ?_
        refine wlgv (op_neq (lt_ rfl) rfl rfl) rfl rfl rfl ?_
        refine wlv (op_pickF (lt_ rfl) rfl rfl) rfl ?_
        refine wlv (op_move (lt_ rfl) rfl) rfl ?_
        refine WL.split (t := 87) rfl (fun g87 => ?_) (fun g87 => ?_)
        ·
          exact absurd rfl g87
        ·
          refine wlgv (op_move (lt_ rfl) rfl) rfl rfl rfl ?_
          refine wlgx (op_call (f26_spec bj bd J4 Aj4 rs4.length cj4 (by omega)) ca26 (lt_ rfl) rfl) rfl rfl rfl ?_
          rintro _ _
          refine wlgv (op_move (lt_ rfl) rfl) rfl rfl rfl ?_
          refine wlgv (op_move (lt_ rfl) rfl) rfl rfl rfl ?_
          refine wlgv (op_sub (lt_ rfl) rfl rfl (by omega)) rfl rfl rfl ?_
          refine wlgv (op_neq (lt_ rfl) rfl rfl) rfl rfl rfl ?_
          refine wlv (op_pickF (lt_ rfl) rfl rfl) rfl ?_
          refine WL.nil ?_
          refine WX.regs (L' := [(1, _), (2, _), (9, _), (11, _), (13, _), (14, _), (94, _)]) ?_
          refine WX.next ?_
          refine WC.cond rfl (fun h6 => ?_) (fun h6 => ?_)
          ·
            exact (h6 (by omega)).elim
          ·
            refine WC.skip ?_
            refine WX.next ?_
            refine WC.region ?_
            refine wlv (op_move (lt_ rfl) rfl) rfl ?_
            refine wlv (op_move (lt_ rfl) rfl) rfl ?_
            refine wlv (op_sub (lt_ rfl) rfl rfl (by omega)) rfl ?_
            refine wlv (op_move (lt_ rfl) rfl) rfl ?_
            refine wlv (op_add (lt_ rfl) rfl rfl (by omega)) rfl ?_
            refine wlv (op_assign (lt_ rfl) rfl) rfl ?_
            refine wlv (op_assign (lt_ rfl) rfl) rfl ?_
            refine WL.nil ?_
            refine WX.regs (L' := [(1, _), (2, _), (9, _), (11, _), (13, _), (14, _)]) ?_
            refine WX.in_normal ?_
            rw [show ((sizeM s / 2 : Nat) : Int) - 1 - ((ct * nd : Nat) : Int) - (nd : Int) = ((sizeM s / 2 : Nat) : Int) - 1 - (((ct + 1) * nd : Nat) : Int) by rw [Nat.succ_mul]; omega]
            refine WX.meet ((⟨D4, A4, c4, J4, Aj4, cj4, rs4⟩, ct + 1)) ⟨⟨_, _, hs4, hr4, hl4, by rw [hf4, hf3], by simp only []; omega, by simp only [Nat.succ_mul]; omega, by simp only [Nat.succ_mul]; omega⟩, by simp only []; omega⟩ (fun a w hs => hs.sub xY xT)
      ·
        refine WC.exit ?_
        refine WX.then_exit ?_
        refine WX.then_exit ?_
        refine WX.in_hit ?_
        refine WX.next ?_
        refine WC.seq ?_
        refine WC.seq ?_
        refine WC.region ?_
        refine wlv (op_move (lt_ rfl) rfl) rfl ?_
        refine wlv (op_move (lt_ rfl) rfl) rfl ?_
        refine wlx (op_call (f19_spec n hn 1) ca19 (lt_ rfl) rfl) rfl ?_
        rintro bf _
        refine wlx (op_call (f27_full bd bm bj A3 c3 D3 J3 Aj3 cj3 rs3 hs3 hr3 (by omega) (by omega) (some ⟨bf, 0, none⟩) (n % 1500) (n % 1500) (bytesM n 1) (bytesM_length ..) (by omega) (by rw [fullE_needs, ← hnd]; omega)) ca27 (lt_ rfl) rfl) rfl ?_
        rintro ⟨D5, A5, c5, J5, Aj5, cj5, rs5⟩ ⟨hr5, hD5, hJ5⟩
        dsimp only at hr5 hD5 hJ5 ⊢
        subst hD5
        subst hJ5
        have hlen5 : rs5.length = ct := by have := congrArg List.length hr5; rwa [List.length_map, fullE_length] at this
        refine wlv (op_move (lt_ rfl) rfl) rfl ?_
        refine wlv (op_extract (lt_ rfl) rfl rfl) rfl ?_
        refine wlv (op_extract (lt_ rfl) rfl rfl) rfl ?_
        refine wlv (op_assign (lt_ rfl) rfl) rfl ?_
        refine wlv (op_assign (lt_ rfl) rfl) rfl ?_
        refine WL.nil ?_
        refine WX.regs (L' := [(1, _), (2, _), (9, _), (11, _), (13, _), (14, _), (18, _)]) ?_
        refine WX.next ?_
        refine WC.seq ?_
        refine WC.region ?_
        refine wlv (op_move (lt_ rfl) rfl) rfl ?_
        refine wlv (op_neq (lt_ rfl) rfl rfl) rfl ?_
        refine wlv (op_move (lt_ rfl) rfl) rfl ?_
        refine wlgv (op_move (lt_ rfl) rfl) rfl rfl rfl ?_
        refine wlgx (op_call (f17_spec bj bd J5 Aj5 rs5.length cj5 (by omega)) ca17 (lt_ rfl) rfl) rfl rfl rfl ?_
        rintro _ _
        rw [show J5.first + (rs5.length : Int) = (ct : Int) by omega]
        refine wlgv (op_move (lt_ rfl) rfl) rfl rfl rfl ?_
        refine wlgv (op_neq (lt_ rfl) rfl rfl) rfl rfl rfl ?_
        refine wlv (op_pickF (lt_ rfl) rfl rfl) rfl ?_
        refine WL.nil ?_
        refine WX.regs (L' := [(1, _), (2, _), (9, _), (11, _), (13, _), (14, _), (114, _)]) ?_
        refine WX.next ?_
        refine WC.cond rfl (fun h7 => ?_) (fun h7 => ?_)
        ·
          exact (h7 rfl).elim
        ·
          refine WC.skip ?_
          refine WX.next ?_
          refine WC.seq ?_
          refine WC.region ?_
          refine wlv (op_move (lt_ rfl) rfl) rfl ?_
          refine wlv (op_conv8i (by kernel_rfl) Try.underlying3 (lt_ rfl) rfl) rfl ?_
          refine wlv (op_move (lt_ rfl) rfl) rfl ?_
          refine wlv (op_add (lt_ rfl) rfl rfl (by omega)) rfl ?_
          refine wlv (op_rem (lt_ rfl) rfl rfl (by omega) (by omega)) rfl ?_
          rw [show ((ct : Int)) + 1 = ((ct + 1 : Nat) : Int) by omega, ← Int.natCast_emod]
          obtain ⟨m, hm⟩ : ∃ m, m = kp.toNat % (ct + 1) := ⟨_, rfl⟩
          rw [← hm]
          have hml : m ≤ ct := by rw [hm]; have := Nat.mod_lt kp.toNat (show 0 < ct + 1 by omega); omega
          refine wlv (op_assign (lt_ rfl) rfl) rfl ?_
          refine WL.nil ?_
          refine WX.regs (L' := [(1, _), (9, _), (11, _), (13, _), (14, _), (19, _)]) ?_
          refine WX.next ?_
          refine WC.seq ?_
          refine WC.seq ?_
          refine WC.region ?_
          refine wlv (op_move (lt_ rfl) rfl) rfl ?_
          refine wlv (op_move (lt_ rfl) rfl) rfl ?_
          refine wlx (op_call (f28_live bd bm bj A5 c5 D5 J5 Aj5 cj5 rs5 hs3 hr5 (by omega) (by omega) hl3 m (by rw [fullE_length]; exact hml) (m : Int) (by omega)) ca28 (lt_ rfl) rfl) rfl ?_
          rintro ⟨D6, A6, c6, J6, Aj6, cj6, rs6⟩ ⟨hr6, hn6, hl6, hp6, hf6, hfi6, hg6, ho6, k6, k7, hs6⟩
          dsimp only at hr6 hn6 hl6 hp6 hf6 hfi6 hg6 ho6 hs6 ⊢
          have hlen6 : rs6.length = ct - m := by have := congrArg List.length hr6; rwa [List.length_map, List.length_drop, fullE_length] at this
          have hse6 := hs6.geo.se
          have hu6 := hs6.used
          rw [fullE_drop, ← hnd] at hu6
          have hsub : (ct - m) * nd = ct * nd - m * nd := Nat.sub_mul ..
          have hmn : m * nd ≤ ct * nd := Nat.mul_le_mul_right _ hml
          refine wlv (op_neq (lt_ rfl) rfl rfl) rfl ?_
          refine wlv (op_move (lt_ rfl) rfl) rfl ?_
          refine wlgv (op_move (lt_ rfl) rfl) rfl rfl rfl ?_
          refine wlgx (op_call (f18_spec bj bd J6 Aj6 rs6.length cj6) ca18 (lt_ rfl) rfl) rfl rfl rfl ?_
          rintro _ _
          rw [hf6]
          refine wlgv (op_move (lt_ rfl) rfl) rfl rfl rfl ?_
          refine wlgv (op_neq (lt_ rfl) rfl rfl) rfl rfl rfl ?_
          refine wlv (op_pickF (lt_ rfl) rfl rfl) rfl ?_
          refine wlv (op_move (lt_ rfl) rfl) rfl ?_
          refine WL.split (t := 130) rfl (fun g130 => ?_) (fun g130 => ?_)
          ·
            exact absurd rfl g130
          ·
            refine wlgv (op_move (lt_ rfl) rfl) rfl rfl rfl ?_
            refine wlgx (op_call (f17_spec bj bd J6 Aj6 rs6.length cj6 (by omega)) ca17 (lt_ rfl) rfl) rfl rfl rfl ?_
            rintro _ _
            rw [show J6.first + (rs6.length : Int) = (m : Int) + ((ct - m : Nat) : Int) by omega]
            refine wlgv (op_move (lt_ rfl) rfl) rfl rfl rfl ?_
            refine wlgv (op_neq (lt_ rfl) rfl rfl) rfl rfl rfl ?_
            refine wlv (op_pickF (lt_ rfl) rfl rfl) rfl ?_
            refine wlv (op_move (lt_ rfl) rfl) rfl ?_
            refine WL.split (t := 136) rfl (fun g136 => ?_) (fun g136 => ?_)
            ·
              exact (g136 (by omega)).elim
            ·
              refine wlgv (op_move (lt_ rfl) rfl) rfl rfl rfl ?_
              refine wlgx (op_call (f26_spec bj bd J6 Aj6 rs6.length cj6 (by omega)) ca26 (lt_ rfl) rfl) rfl rfl rfl ?_
              rintro _ _
              refine wlgv (op_move (lt_ rfl) rfl) rfl rfl rfl ?_
              refine wlgv (op_move (lt_ rfl) rfl) rfl rfl rfl ?_
              refine wlgv (op_move (lt_ rfl) rfl) rfl rfl rfl ?_
              refine wlgv (op_mul (lt_ rfl) rfl rfl (by rw [← Int.natCast_mul]; omega)) rfl rfl rfl ?_
              rw [show (m : Int) * (nd : Int) = ((m * nd : Nat) : Int) from (Int.natCast_mul m nd).symm]
              refine wlgv (op_add (lt_ rfl) rfl rfl (by omega)) rfl rfl rfl ?_
              refine wlgv (op_neq (lt_ rfl) rfl rfl) rfl rfl rfl ?_
              refine wlv (op_pickF (lt_ rfl) rfl rfl) rfl ?_
              refine WL.nil ?_
              refine WX.regs (L' := [(1, _), (9, _), (11, _), (13, _), (19, _), (145, _)]) ?_
              refine WX.next ?_
              refine WC.cond rfl (fun h8 => ?_) (fun h8 => ?_)
              ·
                exact (h8 (by omega)).elim
              ·
                refine WC.skip ?_
                refine WX.next ?_
                refine WC.seq ?_
                refine WC.region ?_
                refine wlv (op_move (lt_ rfl) rfl) rfl ?_
                refine wlv (op_move (lt_ rfl) rfl) rfl ?_
                refine wlx (op_call (f19_spec n hn 9) ca19 (lt_ rfl) rfl) rfl ?_
                rintro bg _
                refine wlx (op_call (f27_any bd bm bj A6 c6 D6 J6 Aj6 cj6 rs6 hs6 hr6 (by omega) (by omega) hl6 (some ⟨bg, 0, none⟩) (n % 1500) (n % 1500) (bytesM n 9) (bytesM_length ..) (by omega)) ca27 (lt_ rfl) rfl) rfl ?_
                rintro ⟨⟨D7, A7, c7, J7, Aj7, cj7, rs7⟩, nn, ee⟩ he
                dsimp only at he
                rw [fullE_drop, ← hnd] at he
                dsimp only
                refine wlv (op_move (lt_ rfl) rfl) rfl ?_
                refine wlv (op_extract (lt_ rfl) rfl rfl) rfl ?_
                refine wlv (op_extract (lt_ rfl) rfl rfl) rfl ?_
                refine wlv (op_assign (lt_ rfl) rfl) rfl ?_
                refine WL.nil ?_
                refine WX.regs (L' := [(8, _), (11, _), (13, _), (19, _)]) ?_
                refine WX.next ?_
                refine WC.seq ?_
                refine WC.region ?_
                refine wlv (op_move (lt_ rfl) rfl) rfl ?_
                refine wlv (op_eql (lt_ rfl) rfl rfl) rfl ?_
                refine wlv (op_move (lt_ rfl) rfl) rfl ?_
                refine wlv (op_move (lt_ rfl) rfl) rfl ?_
                refine wlv (op_move (lt_ rfl) rfl) rfl ?_
                refine wlv (op_mul (lt_ rfl) rfl rfl (by rw [← Int.natCast_mul]; omega)) rfl ?_
                rw [show (m : Int) * (nd : Int) = ((m * nd : Nat) : Int) from (Int.natCast_mul m nd).symm]
                refine wlv (op_add (lt_ rfl) rfl rfl (by omega)) rfl ?_
                refine wlv (op_move (lt_ rfl) rfl) rfl ?_
                refine wlv (op_geq (lt_ rfl) rfl rfl) rfl ?_
                refine wlv (op_eqlb (lt_ rfl) rfl rfl Try.underlying4) rfl ?_
                refine wlv (op_assign (lt_ rfl) rfl) rfl ?_
                refine WL.nil ?_
                refine WX.regs (L' := [(6, _)]) ?_
                refine WX.next ?_
                refine WC.ret ?_
                exact Fin.ret1 xI (_) (by split at he <;> simp_all <;> omega) Try.results4 (.tmp rfl) xT (by simp)
end Go.Proofs.Ytkjlbedebmffgaa.Sx

set_option linter.unusedVariables false
set_option linter.unusedSimpArgs false
namespace Go.Proofs.Ytkjlbedebmffgaa.Sx
open Go.RowKit Go.Proofs.Ytkjlbedebmffgaa.Ty
attribute [local irreducible] blk own rd rx frameC

def fput (f : Int → Option Sec) (a : Int) (p : Sec) (i : Int) : Option Sec := if i = a then some p else f i
theorem fput_map (f : Int → Option Sec) (a : Int) (p : Sec) : (fun x => if x = a then some (sv p) else (f x).map sv) = fun x => (fput f a p x).map sv := by
  funext x
  unfold fput
  split <;> rfl
theorem mapC_put {b : Nat} (f : Int → Option Sec) (a : Int) (p : Sec) : mapC b (fun x => if x = a then some (sv p) else (f x).map sv) = mapC b (fun x => (fput f a p x).map sv) := by rw [fput_map]
/-- The map holds the entries from a number on. -/
def Told (f : Int → Option Sec) (n : Int) (es : List Sec) : Prop := ∀ (j : Nat) p, es[j]? = some p → f (n + j) = some p
theorem Told.put {f : Int → Option Sec} {n : Int} {es : List Sec} (h : Told f n es) (p : Sec) : Told (fput f (n + es.length) p) n (es ++ [p]) := by
  intro j q hq
  unfold fput
  by_cases hj : j < es.length
  · rw [List.getElem?_append_left hj] at hq
    rw [if_neg (by omega)]
    exact h j q hq
  · rw [List.getElem?_append_right (by omega)] at hq
    have hlt := (List.getElem?_eq_some_iff.1 hq).1
    simp only [List.length_singleton] at hlt
    rw [show j - es.length = 0 by omega] at hq
    simp only [List.getElem?_cons_zero, Option.some.injEq] at hq
    rw [if_pos (by omega), hq]
theorem Told.drop {f : Int → Option Sec} {n : Int} {es : List Sec} (h : Told f n es) (m : Nat) : Told f (n + m) (es.drop m) := by
  intro j q hq
  rw [List.getElem?_drop] at hq
  have := h (m + j) q hq
  rw [show n + ((m + j : Nat) : Int) = n + m + j by omega] at this
  exact this
theorem Eff.rest {k : Nat} {J J' : Jn} {es es' : List Sec} {o : OpR} {e : Int} (h : Eff k J J' es es' o e) (hn : ¬ (e = 0 ∧ o.k.toNat % 3 = 0)) : ∃ m : Nat, m ≤ es.length ∧ es' = es.drop m ∧ J'.first = J.first + m := by
  by_cases h0 : o.k.toNat % 3 = 0
  · rcases h.a h0 with ⟨h1, _⟩ | ⟨_, h2, h3, _⟩
    · exact absurd ⟨h1, h0⟩ hn
    · exact ⟨0, Nat.zero_le _, h2, by rw [h3]; simp⟩
  · by_cases h1 : o.k.toNat % 3 = 1
    · obtain ⟨_, h2, h3⟩ := h.s h1
      exact ⟨0, Nat.zero_le _, h2, by rw [h3]; simp⟩
    · rcases h.t (by omega) with ⟨_, h2, h3⟩ | ⟨m, _, h2, h3, h4, _⟩
      · exact ⟨0, Nat.zero_le _, h2, by rw [h3]; simp⟩
      · exact ⟨m, h2, h3, h4⟩
theorem Eff.app {k : Nat} {J J' : Jn} {es es' : List Sec} {o : OpR} {e : Int} (h : Eff k J J' es es' o e) (he : e = 0) (hk : o.k.toNat % 3 = 0) : es' = es ++ [bytesM o.n o.b] ∧ J'.first = J.first := by
  rcases h.a hk with ⟨_, h2, h3, _⟩ | ⟨h1, _⟩
  · exact ⟨h2, h3⟩
  · omega
theorem entC_at {rs : List Bs} {i : Nat} {r : Bs} (h : rs[i]? = some r) (n : Int) : (entC n rs)[i * 2]? = some (.int .i64 (n + i)) ∧ (entC n rs)[i * 2 + 1]? = some r.v := by
  induction rs generalizing i n with
  | nil => simp at h
  | cons x rs ih =>
    cases i with
    | zero =>
      simp only [List.getElem?_cons_zero, Option.some.injEq] at h
      subst h
      exact ⟨by simp [entC], by simp [entC]⟩
    | succ i =>
      rw [List.getElem?_cons_succ] at h
      obtain ⟨h1, h2⟩ := ih h (n + 1)
      rw [show (i + 1) * 2 = i * 2 + 1 + 1 by omega]
      simp only [entC, List.getElem?_cons_succ]
      exact ⟨by rw [h1]; congr 2; omega, h2⟩
theorem entC_length (rs : List Bs) : ∀ n : Int, (entC n rs).length = rs.length * 2 := by
  induction rs with
  | nil => intro n; rfl
  | cons x rs ih => intro n; simp [entC, ih]; omega
set_option maxHeartbeats 400000 in
set_option maxRecDepth 10000 in
theorem f6_spec (s : UInt8) (A : Option Addr) (M c : Nat) (l : List OpR) (hM : l.length = M) (hln : ∀ o ∈ l, o.n < 65536) : Spec Try.prog 6 [bv s, .slice A M c] [] [rd (.slice A M c) 4 M (l.flatMap OpR.cells)] (R := Bool) (fun b => b = true) (fun b => .bool b) (fun _ => []) := by
  have hk := sizeM_le s
  refine Spec.intro Try.func6 Try.ntmps6 rfl (by simp) (by simp) fun w0 => ?_
  refine WC.seq ?_
  refine WC.region ?_
  refine wlv (op_assign (lt_ rfl) rfl) rfl ?_
  refine WL.nil ?_
  refine WX.regs (L' := [(0, _), (1, _)]) ?_
  refine WX.next ?_
  refine WC.seq ?_
  refine WC.seq ?_
  refine WC.region ?_
  refine wlx (op_call (f9_spec) ca9 (lt_ rfl) rfl) rfl ?_
  rintro _ _
  refine wlv (op_not (lt_ rfl) rfl) rfl ?_
  refine wlv (op_move (lt_ rfl) rfl) rfl ?_
  refine wlgv (op_move (lt_ rfl) rfl) rfl rfl rfl ?_
  refine wlgx (op_call (f10_spec A M c l hM) ca10 (lt_ rfl) rfl) rfl rfl rfl ?_
  rintro bf hbf
  refine wlgv (op_not (lt_ rfl) rfl) rfl rfl rfl ?_
  refine wlv (op_pickF (lt_ rfl) rfl rfl) rfl ?_
  refine WL.nil ?_
  refine WX.regs (L' := [(0, _), (1, _), (23, _)]) ?_
  refine WX.next ?_
  refine WC.condb rfl (fun h1 => ?_) (fun h1 => ?_)
  ·
    refine WC.seq ?_
    refine WC.region ?_
    refine wlx (op_call (f9_spec) ca9 (lt_ rfl) rfl) rfl ?_
    rintro _ _
    refine wlv (op_assign (lt_ rfl) rfl) rfl ?_
    refine WL.nil ?_
    refine WX.regs (L' := [(4, _)]) ?_
    refine WX.next ?_
    refine WC.ret ?_
    refine WX.then_ret ?_
    exact Fin.ret1 xI (_) (rfl) Try.results6 (.tmp rfl) xT (by simp)
  ·
    have hfit := hbf.1 (by cases bf <;> simp_all)
    refine WC.skip ?_
    refine WX.next ?_
    refine WC.seq ?_
    refine WC.region ?_
    refine wlx (op_call (f11_spec 48 (by omega)) ca11 (lt_ rfl) rfl) rfl ?_
    rintro ⟨bd, bm⟩ _
    refine wlv (op_move (lt_ rfl) rfl) rfl ?_
    refine wlv (op_extract (lt_ rfl) rfl rfl) rfl ?_
    refine wlv (op_extract (lt_ rfl) rfl rfl) rfl ?_
    refine wlv (op_assign (lt_ rfl) rfl) rfl ?_
    refine wlv (op_assign (lt_ rfl) rfl) rfl ?_
    refine WL.nil ?_
    refine WX.regs (L' := [(0, _), (1, _), (5, _), (6, _)]) ?_
    refine WX.next ?_
    refine WC.seq ?_
    refine WC.seq ?_
    refine WC.region ?_
    refine wlv (op_move (lt_ rfl) rfl) rfl ?_
    refine wlv (op_neq (lt_ rfl) rfl rfl) rfl ?_
    refine wlv (op_move (lt_ rfl) rfl) rfl ?_
    refine wlgv (op_move (lt_ rfl) rfl) rfl rfl rfl ?_
    refine wlgv (op_move (lt_ rfl) rfl) rfl rfl rfl ?_
    refine wlgx (op_call (f13_spec s) ca13 (lt_ rfl) rfl) rfl rfl rfl ?_
    rintro _ _
    refine wlgx (op_call (f12_new bd bm none 0 (Dk.new 48) 3 (sizeM s) (by omega) (by omega) (by show (3 : Int) + (sizeM s : Int) ≤ 48; omega) (by decide) rfl rfl (fun a _ _ => gof_zero) (by decide)) ca12 (lt_ rfl) rfl) rfl rfl rfl ?_
    rintro ⟨D1, A1, c1⟩ ⟨hn1, hl1, hp1, ho1, J0, hj1, hj2, hj3, hs1⟩
    refine wlgv (op_neq (lt_ rfl) rfl rfl) rfl rfl rfl ?_
    refine wlv (op_pickF (lt_ rfl) rfl rfl) rfl ?_
    refine WL.nil ?_
    refine WX.regs (L' := [(0, _), (1, _), (5, _), (37, _)]) ?_
    refine WX.next ?_
    refine WC.condF rfl ?_
    refine WC.skip ?_
    refine WX.next ?_
    refine WC.seq ?_
    refine WC.region ?_
    refine wlv (op_move (lt_ rfl) rfl) rfl ?_
    refine wlv (op_move (lt_ rfl) rfl) rfl ?_
    refine wlx (op_call (f13_spec s) ca13 (lt_ rfl) rfl) rfl ?_
    rintro _ _
    refine wlx (op_call (f14_live bd bm A1 c1 D1 J0 hs1 (by omega) (by rw [hp1]; decide) hl1 3 hj1) ca14 (lt_ rfl) rfl) rfl ?_
    rintro ⟨⟨D2, A2, c2, J2, Aj2, cj2, rs2⟩, bj, ⟨Ax, cx⟩, xs⟩ ⟨hr2, hx2, hn2, hl2, hp2, hf2, hfi2, hg2, ho2, hs2⟩
    dsimp only at hr2 hx2 hn2 hl2 hp2 hf2 hfi2 hg2 ho2 hs2 ⊢
    refine wlv (op_move (lt_ rfl) rfl) rfl ?_
    refine wlv (op_extract (lt_ rfl) rfl rfl) rfl ?_
    refine wlv (op_extract (lt_ rfl) rfl rfl) rfl ?_
    refine wlv (op_extract (lt_ rfl) rfl rfl) rfl ?_
    refine wlv (op_assign (lt_ rfl) rfl) rfl ?_
    refine wlv (op_assign (lt_ rfl) rfl) rfl ?_
    refine wlv (op_assign (lt_ rfl) rfl) rfl ?_
    refine WL.nil ?_
    refine WX.regs (L' := [(0, _), (1, _), (5, _), (6, _), (7, _)]) ?_
    refine WX.next ?_
    refine WC.seq ?_
    refine WC.seq ?_
    refine WC.region ?_
    refine wlv (op_move (lt_ rfl) rfl) rfl ?_
    refine wlv (op_neq (lt_ rfl) rfl rfl) rfl ?_
    refine WL.nil ?_
    refine WX.regs (L' := [(0, _), (1, _), (5, _), (7, _), (47, _)]) ?_
    refine WX.next ?_
    refine WC.condF rfl ?_
    refine WC.skip ?_
    refine WX.next ?_
    refine WC.seq ?_
    refine WC.region ?_
    refine wl1 (op_makeMap (lt_ rfl)) rfl fun b1 => ?_
    refine wlv (op_assign (lt_ rfl) rfl) rfl ?_
    refine WL.nil ?_
    refine WX.chEq (c := mapC b1 (fun _ => none)) (mapC b1 (fun x => ((fun _ => none : Int → Option Sec) x).map sv)) xK rfl ?_
    refine WX.regs (L' := [(0, _), (1, _), (5, _), (7, _), (9, _)]) ?_
    refine WX.next ?_
    refine WC.seq ?_
    refine WC.seq ?_
    refine WC.region ?_
    refine wlv (op_assign (lt_ rfl) rfl) rfl ?_
    refine WL.nil ?_
    refine WX.regs (L' := [(0, _), (1, _), (5, _), (7, _), (9, _), (10, _)]) ?_
    refine WX.next ?_
    refine WC.block ?_
    refine WC.loop (X := JP × Nat × (Int → Option Sec)) (fun q => M - q.2.1) (fun q => ∃ c0 k0, Strong (sizeM s) (1010 + 1000 * q.2.1) q.1.D q.1.J (q.1.rs.map Bs.s) c0 k0 ∧ q.1.D.lim = false ∧ q.1.J.fi = 3 ∧ q.1.D.pend.length ≤ 500 * q.2.1 ∧ Told q.2.2 q.1.J.first (q.1.rs.map Bs.s) ∧ q.2.1 ≤ M) (fun q => [(0, bv s), (1, .slice A M c), (5, .pointer (some ⟨bd, 0, none⟩)), (7, .pointer (some ⟨bj, 0, none⟩)), (9, .map (some b1)), (10, .int .i64 (q.2.1 : Int))]) (fun q => [blk bd (dcells q.1.D bm q.1.A q.1.c) 66, mapC bm (dmap q.1.D.dur), own (.slice q.1.A q.1.D.pend.length q.1.c) 84 257 q.1.D.pend.length (q.1.D.pend.flatMap wcs), blk bj (jcells q.1.J bd q.1.Aj q.1.rs.length q.1.cj) 76, own (.slice q.1.Aj q.1.rs.length q.1.cj) 23 1 q.1.rs.length (q.1.rs.map Bs.v), rowsC true q.1.rs, mapC b1 (fun x => (q.2.2 x).map sv), rd (.slice A M c) 4 M (l.flatMap OpR.cells), frameC w0 (MutF [])]) ((⟨D2, A2, c2, J2, Aj2, cj2, rs2⟩, 0, fun _ => none)) (⟨_, _, by rw [hr2]; exact hs2, hl2, by rw [hfi2, hj1], by rw [hp2]; exact Nat.zero_le _, by rw [hr2]; intro j p h; simp at h, Nat.zero_le _⟩) (fun a w hs => hs.sub xY xT) ?_
    rintro ⟨⟨D3, A3, c3, J3, Aj3, cj3, rs3⟩, i, f⟩ ⟨c0, k0, hs3, hl3, hfi3, hp3, ht3, hi⟩
    try dsimp only at hs3 hl3 hfi3 hp3 ht3 hi ⊢
    have hfb3 := hs3.geo.fb
    have hfit3 := hs3.fit
    have hle3 := needs_le (rs3.map Bs.s)
    rw [List.length_map] at hle3
    have hM30 := hfit.1
    refine WC.seq ?_
    refine WC.seq ?_
    refine WC.region ?_
    refine wlv (op_move (lt_ rfl) rfl) rfl ?_
    refine wlv (op_move (lt_ rfl) rfl) rfl ?_
    refine wlv (op_len Try.underlying22 (lt_ rfl) rfl) rfl ?_
    refine wlv (op_lss (lt_ rfl) rfl rfl) rfl ?_
    refine WL.nil ?_
    refine WX.regs (L' := [(0, _), (1, _), (5, _), (7, _), (9, _), (10, _), (52, _)]) ?_
    refine WX.next ?_
    refine WC.cond rfl (fun h4 => ?_) (fun h4 => ?_)
    ·
      refine WC.skip ?_
      refine WX.next ?_
      refine WC.seq ?_
      refine WC.block ?_
      refine WC.seq ?_
      refine WC.region ?_
      refine wlv (op_move (lt_ rfl) rfl) rfl ?_
      refine wlx (op_call (f17_spec bj bd J3 Aj3 rs3.length cj3 (by omega)) ca17 (lt_ rfl) rfl) rfl ?_
      rintro _ _
      refine wlv (op_assign (lt_ rfl) rfl) rfl ?_
      refine WL.nil ?_
      refine WX.regs (L' := [(0, _), (1, _), (5, _), (7, _), (9, _), (10, _), (11, _)]) ?_
      refine WX.next ?_
      refine WC.seq ?_
      refine WC.region ?_
      refine wlv (op_move (lt_ rfl) rfl) rfl ?_
      refine wlv (op_move (lt_ rfl) rfl) rfl ?_
      refine wlv (op_move (lt_ rfl) rfl) rfl ?_
      obtain ⟨o, hoo⟩ : ∃ r, l[i]? = some r := ⟨l[i]'(by omega), List.getElem?_eq_getElem _⟩
      have ho := hln o (List.mem_of_getElem? hoo)
      have hk8 := o.k.toNat_lt
      have hx : ∀ j, j = i * 4 → ((l.flatMap OpR.cells).drop j).take 4 = o.cells := fun j hj => by rw [hj]; exact flat_at (f := OpR.cells) (sz := 4) (fun _ => rfl) l i o hoo
      refine wlv (op_index Try.underlying22 sz42 (lt_ rfl) rfl rfl (by omega) (by omega) (by decide) xS) rfl ?_
      refine wlv (op_loadSN ag42 (lt_ rfl) rfl xS (by rw [hx _ (by omega)]; rfl) (by decide)) rfl ?_
      rw [hx _ (by omega)]
      refine wlx (op_call (f20_live bd bm bj A3 c3 D3 J3 Aj3 cj3 rs3 hs3 rfl (by omega) (by omega) hl3 o ho) ca20 (lt_ rfl) rfl) rfl ?_
      rintro ⟨⟨D4, A4, c4, J4, Aj4, cj4, rs4⟩, e⟩ ⟨es4, hr4, hn4, hl4, hp4, hfi4, ho4, ⟨k4, k5, hs4⟩, hef⟩
      dsimp only at hr4 hn4 hl4 hp4 hfi4 ho4 hs4 hef ⊢
      subst hr4
      refine wlv (op_assign (lt_ rfl) rfl) rfl ?_
      refine WL.nil ?_
      refine WX.regs (L' := [(0, _), (1, _), (5, _), (7, _), (9, _), (10, _), (11, _), (12, _)]) ?_
      refine WX.next ?_
      refine WC.seq ?_
      refine WC.region ?_
      refine wlv (op_move (lt_ rfl) rfl) rfl ?_
      refine wlv (op_eql (lt_ rfl) rfl rfl) rfl ?_
      refine wlv (op_move (lt_ rfl) rfl) rfl ?_
      refine WL.split (t := 65) rfl (fun g65 => ?_) (fun g65 => ?_)
      ·
        refine wlgv (op_move (lt_ rfl) rfl) rfl rfl rfl ?_
        refine wlgv (op_move (lt_ rfl) rfl) rfl rfl rfl ?_
        refine wlgv (op_index Try.underlying22 sz42 (lt_ rfl) rfl rfl (by omega) (by omega) (by decide) xS) rfl rfl rfl ?_
        refine wlgv (op_fieldAddrS fo42_0 (lt_ rfl) rfl xS (by rw [flat_len (f := OpR.cells) (sz := 4) (fun _ => rfl)]; omega)) rfl rfl rfl ?_
        refine wlgv (op_loadS fl5 (lt_ rfl) rfl xS ((row_get (k := 0) (hx _ (by omega)) (by decide)).trans rfl)) rfl rfl rfl ?_
        refine wlgv (op_rem (k := .u8) (a := (o.k.toNat : Int)) (lt_ rfl) rfl rfl (by omega) (by omega)) rfl rfl rfl ?_
        refine wlgv (op_eql (lt_ rfl) rfl rfl) rfl rfl rfl ?_
        refine wlv (op_pickT (lt_ rfl) rfl rfl) rfl ?_
        refine WL.nil ?_
        refine WX.regs (L' := [(0, _), (1, _), (5, _), (7, _), (9, _), (10, _), (11, _), (73, _)]) ?_
        refine WX.next ?_
        refine WC.cond rfl (fun h5 => ?_) (fun h5 => ?_)
        ·
          refine WC.drawnH mo 14 ?_
          refine WA.take (i := 0) rfl (by kernel_rfl) (fun _ _ _ h => h) rfl (op_move (lt_ rfl) rfl) xT ?_
          refine WA.take (i := 1) rfl (by kernel_rfl) (fun _ _ _ h => h) rfl (op_move (lt_ rfl) rfl) xT ?_
          refine WA.take (i := 2) rfl (by kernel_rfl) (fun _ _ _ h => h) rfl (op_move (lt_ rfl) rfl) xT ?_
          refine WA.take (i := 3) rfl (by kernel_rfl) (fun _ _ _ h => h) rfl (op_move (lt_ rfl) rfl) xT ?_
          refine WA.take (i := 4) rfl (by kernel_rfl) (fun _ _ _ h => h) rfl (op_index Try.underlying22 sz42 (lt_ rfl) rfl rfl (by omega) (by omega) (by decide) xS) xT ?_
          refine WA.take (i := 5) rfl (by kernel_rfl) (fun _ _ _ h => h) rfl (op_fieldAddrS fo42_1 (lt_ rfl) rfl xS (by rw [flat_len (f := OpR.cells) (sz := 4) (fun _ => rfl)]; omega)) xT ?_
          refine WA.take (i := 6) rfl (by kernel_rfl) (fun _ _ _ h => h) rfl (op_loadS fl40 (lt_ rfl) rfl xS ((row_get (k := 1) (hx _ (by omega)) (by decide)).trans rfl)) xT ?_
          refine WA.take (i := 7) rfl (by kernel_rfl) (fun _ _ _ h => h) rfl (op_move (lt_ rfl) rfl) xT ?_
          refine WA.take (i := 8) rfl (by kernel_rfl) (fun _ _ _ h => h) rfl (op_move (lt_ rfl) rfl) xT ?_
          refine WA.take (i := 9) rfl (by kernel_rfl) (fun _ _ _ h => h) rfl (op_index Try.underlying22 sz42 (lt_ rfl) rfl rfl (by omega) (by omega) (by decide) xS) xT ?_
          refine WA.take (i := 10) rfl (by kernel_rfl) (fun _ _ _ h => h) rfl (op_fieldAddrS fo42_2 (lt_ rfl) rfl xS (by rw [flat_len (f := OpR.cells) (sz := 4) (fun _ => rfl)]; omega)) xT ?_
          refine WA.take (i := 11) rfl (by kernel_rfl) (fun _ _ _ h => h) rfl (op_loadS fl5 (lt_ rfl) rfl xS ((row_get (k := 2) (hx _ (by omega)) (by decide)).trans rfl)) xT ?_
          refine WA.stepx (i := 12) (by kernel_rfl) rfl rfl (op_call (f19_spec o.n ho o.b) ca19 (lt_ rfl) rfl) (fun _ r => xT) ?_
          rintro bb _
          refine WA.stepv (i := 13) (by kernel_rfl) rfl rfl (op_bytesStr (bs := bytesM o.n o.b) Try.underlying23 Try.underlying5 Try.underlying9 (lt_ rfl) rfl (Src.own xM)) (fun _ => xT) ?_
          refine WA.stepo (G := []) (i := 14) (by kernel_rfl) rfl rfl (op_mapUpdate Try.underlying37 Try.underlying3 rfl rfl rfl xK) (fun h => absurd rfl h) ?_
          refine WA.done (by kernel_rfl) ?_
          refine WX.regs (L' := [(0, _), (1, _), (5, _), (7, _), (9, _), (10, _)]) ?_
          refine WX.in_normal ?_
          refine WX.next ?_
          refine WC.region ?_
          refine wlv (op_move (lt_ rfl) rfl) rfl ?_
          refine wlv (op_add (lt_ rfl) rfl rfl (by omega)) rfl ?_
          refine wlv (op_assign (lt_ rfl) rfl) rfl ?_
          refine WL.nil ?_
          refine WX.regs (L' := [(0, _), (1, _), (5, _), (7, _), (9, _), (10, _)]) ?_
          have hap := hef.app (by omega) (by omega)
          have htp : Told (fput f (J3.first + rs3.length) (bytesM o.n o.b)) J4.first (rs4.map Bs.s) := by have := ht3.put (bytesM o.n o.b); rw [List.length_map] at this; rw [hap.1, hap.2]; exact this
          refine WX.chEq (c := mapC b1 (fun x => if x = J3.first + rs3.length then some (sv (bytesM o.n o.b)) else (f x).map sv)) (mapC b1 (fun x => (fput f (J3.first + rs3.length) (bytesM o.n o.b) x).map sv)) xK (mapC_put ..) ?_
          refine WX.meet ((⟨D4, A4, c4, J4, Aj4, cj4, rs4⟩, i + 1, fput f (J3.first + rs3.length) (bytesM o.n o.b))) ⟨⟨_, _, hs4.up (by simp only []; omega), hl4, by rw [hfi4, hfi3], by simp only []; omega, htp, by simp only []; omega⟩, by simp only []; omega⟩ (fun a w hs => hs.sub xY xT)
        ·
          refine WC.skip ?_
          refine WX.in_normal ?_
          refine WX.next ?_
          refine WC.region ?_
          refine wlv (op_move (lt_ rfl) rfl) rfl ?_
          refine wlv (op_add (lt_ rfl) rfl rfl (by omega)) rfl ?_
          refine wlv (op_assign (lt_ rfl) rfl) rfl ?_
          refine WL.nil ?_
          refine WX.regs (L' := [(0, _), (1, _), (5, _), (7, _), (9, _), (10, _)]) ?_
          obtain ⟨m, hm1, hm2, hm3⟩ := hef.rest (by omega)
          have htd : Told f J4.first (rs4.map Bs.s) := by rw [hm2, hm3]; exact ht3.drop m
          refine WX.meet ((⟨D4, A4, c4, J4, Aj4, cj4, rs4⟩, i + 1, f)) ⟨⟨_, _, hs4.up (by simp only []; omega), hl4, by rw [hfi4, hfi3], by simp only []; omega, htd, by simp only []; omega⟩, by simp only []; omega⟩ (fun a w hs => hs.sub xY xT)
      ·
        refine wlg_no rfl rfl rfl rfl rfl (by decide) ?_
        refine wlg_no rfl rfl rfl rfl rfl (by decide) ?_
        refine wlg_no rfl rfl rfl rfl rfl (by decide) ?_
        refine wlg_no rfl rfl rfl rfl rfl (by decide) ?_
        refine wlg_no rfl rfl rfl rfl rfl (by decide) ?_
        refine wlg_no rfl rfl rfl rfl rfl (by decide) ?_
        refine wlg_no rfl rfl rfl rfl rfl (by decide) ?_
        refine wlv (op_pickF (lt_ rfl) rfl rfl) rfl ?_
        refine WL.nil ?_
        refine WX.regs (L' := [(0, _), (1, _), (5, _), (7, _), (9, _), (10, _), (11, _), (73, _)]) ?_
        refine WX.next ?_
        refine WC.condF rfl ?_
        refine WC.skip ?_
        refine WX.in_normal ?_
        refine WX.next ?_
        refine WC.region ?_
        refine wlv (op_move (lt_ rfl) rfl) rfl ?_
        refine wlv (op_add (lt_ rfl) rfl rfl (by omega)) rfl ?_
        refine wlv (op_assign (lt_ rfl) rfl) rfl ?_
        refine WL.nil ?_
        refine WX.regs (L' := [(0, _), (1, _), (5, _), (7, _), (9, _), (10, _)]) ?_
        obtain ⟨m, hm1, hm2, hm3⟩ := hef.rest (by omega)
        have htd : Told f J4.first (rs4.map Bs.s) := by rw [hm2, hm3]; exact ht3.drop m
        refine WX.meet ((⟨D4, A4, c4, J4, Aj4, cj4, rs4⟩, i + 1, f)) ⟨⟨_, _, hs4.up (by simp only []; omega), hl4, by rw [hfi4, hfi3], by simp only []; omega, htd, by simp only []; omega⟩, by simp only []; omega⟩ (fun a w hs => hs.sub xY xT)
    ·
      refine WC.exit ?_
      refine WX.then_exit ?_
      refine WX.then_exit ?_
      refine WX.in_hit ?_
      refine WX.next ?_
      refine WC.seq ?_
      refine WC.region ?_
      refine wlv (op_move (lt_ rfl) rfl) rfl ?_
      refine wlv (op_move (lt_ rfl) rfl) rfl ?_
      refine wlx (op_call (f13_spec s) ca13 (lt_ rfl) rfl) rfl ?_
      rintro _ _
      refine wlx (op_call (f14_live bd bm A3 c3 D3 J3 hs3 (by omega) (by omega) hl3 3 hfi3) ca14 (lt_ rfl) rfl) rfl ?_
      rintro ⟨⟨D5, A5, c5, J5, Aj5, cj5, rs5⟩, bk, ⟨Ay, cy⟩, ys⟩ ⟨hr5, hx5, hn5, hl5, hp5, hf5, hfi5, hg5, ho5, hs5⟩
      dsimp only at hr5 hx5 hn5 hl5 hp5 hf5 hfi5 hg5 ho5 hs5 ⊢
      have hlen5 : rs5.length = rs3.length := by have := congrArg List.length hr5; simpa using this
      have hlen6 : ys.length = rs3.length := by have := congrArg List.length hx5; simpa using this
      refine wlv (op_move (lt_ rfl) rfl) rfl ?_
      refine wlv (op_extract (lt_ rfl) rfl rfl) rfl ?_
      refine wlv (op_extract (lt_ rfl) rfl rfl) rfl ?_
      refine wlv (op_extract (lt_ rfl) rfl rfl) rfl ?_
      refine wlv (op_assign (lt_ rfl) rfl) rfl ?_
      refine wlv (op_assign (lt_ rfl) rfl) rfl ?_
      refine wlv (op_assign (lt_ rfl) rfl) rfl ?_
      refine WL.nil ?_
      refine WX.regs (L' := [(7, _), (9, _), (13, _), (14, _), (15, _)]) ?_
      refine WX.next ?_
      refine WC.seq ?_
      refine WC.seq ?_
      refine WC.region ?_
      refine wlv (op_move (lt_ rfl) rfl) rfl ?_
      refine wlv (op_neq (lt_ rfl) rfl rfl) rfl ?_
      refine wlv (op_move (lt_ rfl) rfl) rfl ?_
      refine wlgv (op_move (lt_ rfl) rfl) rfl rfl rfl ?_
      refine wlgx (op_call (f18_spec bk bd J5 Aj5 rs5.length cj5) ca18 (lt_ rfl) rfl) rfl rfl rfl ?_
      rintro _ _
      rw [hf5]
      refine wlgv (op_move (lt_ rfl) rfl) rfl rfl rfl ?_
      refine wlgx (op_call (f18_spec bj bd J3 Aj3 rs3.length cj3) ca18 (lt_ rfl) rfl) rfl rfl rfl ?_
      rintro _ _
      refine wlgv (op_neq (lt_ rfl) rfl rfl) rfl rfl rfl ?_
      refine wlv (op_pickF (lt_ rfl) rfl rfl) rfl ?_
      refine wlv (op_move (lt_ rfl) rfl) rfl ?_
      refine WL.split (t := 105) rfl (fun g105 => ?_) (fun g105 => ?_)
      ·
        exact absurd rfl g105
      ·
        refine wlgv (op_move (lt_ rfl) rfl) rfl rfl rfl ?_
        refine wlgx (op_call (f17_spec bk bd J5 Aj5 rs5.length cj5 (by omega)) ca17 (lt_ rfl) rfl) rfl rfl rfl ?_
        rintro _ _
        rw [show J5.first + (rs5.length : Int) = J3.first + (rs3.length : Int) by omega]
        refine wlgv (op_move (lt_ rfl) rfl) rfl rfl rfl ?_
        refine wlgx (op_call (f17_spec bj bd J3 Aj3 rs3.length cj3 (by omega)) ca17 (lt_ rfl) rfl) rfl rfl rfl ?_
        rintro _ _
        refine wlgv (op_neq (lt_ rfl) rfl rfl) rfl rfl rfl ?_
        refine wlv (op_pickF (lt_ rfl) rfl rfl) rfl ?_
        refine wlv (op_move (lt_ rfl) rfl) rfl ?_
        refine WL.split (t := 112) rfl (fun g112 => ?_) (fun g112 => ?_)
        ·
          exact absurd rfl g112
        ·
          refine wlgv (op_move (lt_ rfl) rfl) rfl rfl rfl ?_
          refine wlgv (op_len Try.underlying33 (lt_ rfl) rfl) rfl rfl rfl ?_
          refine wlgv (op_move (lt_ rfl) rfl) rfl rfl rfl ?_
          refine wlgx (op_call (f17_spec bj bd J3 Aj3 rs3.length cj3 (by omega)) ca17 (lt_ rfl) rfl) rfl rfl rfl ?_
          rintro _ _
          refine wlgv (op_move (lt_ rfl) rfl) rfl rfl rfl ?_
          refine wlgx (op_call (f18_spec bj bd J3 Aj3 rs3.length cj3) ca18 (lt_ rfl) rfl) rfl rfl rfl ?_
          rintro _ _
          refine wlgv (op_sub (lt_ rfl) rfl rfl (by omega)) rfl rfl rfl ?_
          refine wlgv (op_neq (lt_ rfl) rfl rfl) rfl rfl rfl ?_
          refine wlv (op_pickF (lt_ rfl) rfl rfl) rfl ?_
          refine WL.nil ?_
          refine WX.regs (L' := [(7, _), (9, _), (14, _), (121, _)]) ?_
          refine WX.next ?_
          refine WC.cond rfl (fun h6 => ?_) (fun h6 => ?_)
          ·
            exact (h6 (by omega)).elim
          ·
            refine WC.skip ?_
            refine WX.next ?_
            refine WC.seq ?_
            refine WC.seq ?_
            refine WC.region ?_
            refine wlv (op_assign (lt_ rfl) rfl) rfl ?_
            refine WL.nil ?_
            refine WX.regs (L' := [(7, _), (9, _), (14, _), (16, _)]) ?_
            refine WX.next ?_
            refine WC.block ?_
            refine WC.loop (X := Nat) (fun q => ys.length - q) (fun q => q ≤ ys.length) (fun q => [(7, .pointer (some ⟨bj, 0, none⟩)), (9, .map (some b1)), (14, .slice Ay ys.length cy), (16, .int .i64 (q : Int))]) (fun q => [blk bj (jcells J3 bd Aj3 rs3.length cj3) 76, own (.slice Ay ys.length cy) 49 2 ys.length (entC J3.first ys), rowsC true ys, mapC b1 (fun x => (f x).map sv), frameC w0 (MutF [])]) (0) (Nat.zero_le _) (fun a w hs => hs.sub xY xT) ?_
            rintro i hi2
            try dsimp only
            refine WC.seq ?_
            refine WC.seq ?_
            refine WC.region ?_
            refine wlv (op_move (lt_ rfl) rfl) rfl ?_
            refine wlv (op_move (lt_ rfl) rfl) rfl ?_
            refine wlv (op_len Try.underlying33 (lt_ rfl) rfl) rfl ?_
            refine wlv (op_lss (lt_ rfl) rfl rfl) rfl ?_
            refine WL.nil ?_
            refine WX.regs (L' := [(7, _), (9, _), (14, _), (16, _), (125, _)]) ?_
            refine WX.next ?_
            refine WC.cond rfl (fun h7 => ?_) (fun h7 => ?_)
            ·
              refine WC.skip ?_
              refine WX.next ?_
              refine WC.seq ?_
              refine WC.block ?_
              refine WC.seq ?_
              refine WC.drawnH mo 999 ?_
              obtain ⟨y, hy⟩ : ∃ r, ys[i]? = some r := ⟨ys[i]'(by omega), List.getElem?_eq_getElem _⟩
              have hye := entC_at hy J3.first
              have hft := ht3 i y.s (by rw [← hx5]; simp [hy])
              refine WA.take (i := 0) rfl (by kernel_rfl) (fun _ _ _ h => h) rfl (op_move (lt_ rfl) rfl) xT ?_
              refine WA.take (i := 1) rfl (by kernel_rfl) (fun _ _ _ h => h) rfl (op_move (lt_ rfl) rfl) xT ?_
              refine WA.take (i := 2) rfl (by kernel_rfl) (fun _ _ _ h => h) rfl (op_index Try.underlying33 sz49 (lt_ rfl) rfl rfl (by omega) (by omega) (by decide) xS) xT ?_
              refine WA.take (i := 3) rfl (by kernel_rfl) (fun _ _ _ h => h) rfl (op_fieldAddrS fo49_0 (lt_ rfl) rfl xS (by rw [entC_length]; omega)) xT ?_
              refine WA.take (i := 4) rfl (by kernel_rfl) (fun _ _ _ h => h) rfl (op_loadS fl3 (lt_ rfl) rfl xS (by rw [show ((i : Int)).toNat * 2 + 0 = i * 2 + 0 by omega]; exact hye.1)) xT ?_
              refine WA.take (i := 5) rfl (by kernel_rfl) (fun _ _ _ h => h) rfl (op_move (lt_ rfl) rfl) xT ?_
              refine WA.take (i := 7) rfl (by kernel_rfl) (fun _ _ _ h => h) rfl (op_move (lt_ rfl) rfl) xT ?_
              refine WA.stepx (i := 6) (by kernel_rfl) rfl rfl (op_call (f18_spec bj bd J3 Aj3 rs3.length cj3) ca18 (lt_ rfl) rfl) (fun _ r => xT) ?_
              rintro _ _
              refine WA.take (i := 8) rfl (by kernel_rfl) (fun _ _ _ h => h) rfl (op_add (lt_ rfl) rfl rfl (by omega)) xT ?_
              refine WA.take (i := 9) rfl (by kernel_rfl) (fun _ _ _ h => h) rfl (op_neq (lt_ rfl) rfl rfl) xT ?_
              refine WA.take (i := 10) rfl (by kernel_rfl) (fun _ _ _ h => h) rfl (op_move (lt_ rfl) rfl) xT ?_
              refine WA.split (t := 138) rfl (fun g138 => ?_) (fun g138 => ?_)
              ·
                exact absurd rfl g138
              ·
                refine WA.takeG (i := 11) rfl (by kernel_rfl) (fun _ _ _ h => h) rfl rfl rfl (op_move (lt_ rfl) rfl) xT ?_
                refine WA.takeG (i := 12) rfl (by kernel_rfl) (fun _ _ _ h => h) rfl rfl rfl (op_move (lt_ rfl) rfl) xT ?_
                refine WA.takeG (i := 13) rfl (by kernel_rfl) (fun _ _ _ h => h) rfl rfl rfl (op_index Try.underlying33 sz49 (lt_ rfl) rfl rfl (by omega) (by omega) (by decide) xS) xT ?_
                refine WA.takeG (i := 14) rfl (by kernel_rfl) (fun _ _ _ h => h) rfl rfl rfl (op_fieldAddrS fo49_1 (lt_ rfl) rfl xS (by rw [entC_length]; omega)) xT ?_
                refine WA.takeG (i := 15) rfl (by kernel_rfl) (fun _ _ _ h => h) rfl rfl rfl (op_loadS fl23 (lt_ rfl) rfl xS (by rw [show ((i : Int)).toNat * 2 + 1 = i * 2 + 1 by omega]; exact hye.2)) xT ?_
                refine WA.takeG (i := 16) rfl (by kernel_rfl) (fun _ _ _ h => h) rfl rfl rfl (op_bytesStr Try.underlying23 Try.underlying5 Try.underlying9 (lt_ rfl) rfl ⟨rowsC true ys, xM, rowsC_get (r := y) (List.mem_of_getElem? hy)⟩) xT ?_
                refine WA.takeG (i := 17) rfl (by kernel_rfl) (fun _ _ _ h => h) rfl rfl rfl (op_move (lt_ rfl) rfl) xT ?_
                refine WA.takeG (i := 18) rfl (by kernel_rfl) (fun _ _ _ h => h) rfl rfl rfl (op_move (lt_ rfl) rfl) xT ?_
                refine WA.takeG (i := 19) rfl (by kernel_rfl) (fun _ _ _ h => h) rfl rfl rfl (op_move (lt_ rfl) rfl) xT ?_
                refine WA.takeG (i := 20) rfl (by kernel_rfl) (fun _ _ _ h => h) rfl rfl rfl (op_index Try.underlying33 sz49 (lt_ rfl) rfl rfl (by omega) (by omega) (by decide) xS) xT ?_
                refine WA.takeG (i := 21) rfl (by kernel_rfl) (fun _ _ _ h => h) rfl rfl rfl (op_fieldAddrS fo49_0 (lt_ rfl) rfl xS (by rw [entC_length]; omega)) xT ?_
                refine WA.takeG (i := 22) rfl (by kernel_rfl) (fun _ _ _ h => h) rfl rfl rfl (op_loadS fl3 (lt_ rfl) rfl xS (by rw [show ((i : Int)).toNat * 2 + 0 = i * 2 + 0 by omega]; exact hye.1)) xT ?_
                refine WA.takeG (i := 23) rfl (by kernel_rfl) (fun _ _ _ h => h) rfl rfl rfl (op_lookup Try.underlying37 Try.underlying3 zf9 (lt_ rfl) rfl rfl xM) xT ?_
                simp only [hft, Option.map_some, Option.getD_some]
                refine WA.takeG (i := 24) rfl (by kernel_rfl) (fun _ _ _ h => h) rfl rfl rfl (op_neqs (lt_ rfl) rfl rfl) xT ?_
                refine WA.take (i := 25) rfl (by kernel_rfl) (fun _ _ _ h => h) rfl (op_pickF (lt_ rfl) rfl rfl) xT ?_
                refine WA.done (by kernel_rfl) ?_
                refine WX.regs (L' := [(7, _), (9, _), (14, _), (16, _), (153, _)]) ?_
                refine WX.next ?_
                refine WC.cond rfl (fun h8 => ?_) (fun h8 => ?_)
                ·
                  exact (h8 rfl).elim
                ·
                  refine WC.skip ?_
                  refine WX.in_normal ?_
                  refine WX.next ?_
                  refine WC.region ?_
                  refine wlv (op_move (lt_ rfl) rfl) rfl ?_
                  refine wlv (op_add (lt_ rfl) rfl rfl (by omega)) rfl ?_
                  refine wlv (op_assign (lt_ rfl) rfl) rfl ?_
                  refine WL.nil ?_
                  refine WX.regs (L' := [(7, _), (9, _), (14, _), (16, _)]) ?_
                  refine WX.meet (i + 1) ⟨by omega, by omega⟩ (fun a w hs => hs.sub xY xT)
            ·
              refine WC.exit ?_
              refine WX.then_exit ?_
              refine WX.then_exit ?_
              refine WX.in_hit ?_
              refine WX.next ?_
              refine WC.seq ?_
              refine WC.region ?_
              refine wlv (op_assign (lt_ rfl) rfl) rfl ?_
              refine WL.nil ?_
              refine WX.regs (L' := [(4, _)]) ?_
              refine WX.next ?_
              refine WC.ret ?_
              exact Fin.ret1 xI (_) (rfl) Try.results6 (.tmp rfl) xT (by simp)
end Go.Proofs.Ytkjlbedebmffgaa.Sx

