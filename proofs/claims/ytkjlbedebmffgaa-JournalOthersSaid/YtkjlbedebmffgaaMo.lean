import Derived.Test.YtkjlbedebmffgaaMh
set_option linter.unusedVariables false
set_option linter.unusedSimpArgs false
namespace Go.Proofs.Ytkjlbedebmffgaa.Sx
open Go.RowKit Go.Proofs.Ytkjlbedebmffgaa.Ty
attribute [local irreducible] blk own rd rx frameC
set_option maxHeartbeats 400000 in
set_option maxRecDepth 10000 in
theorem f5_spec (n : Int) : Spec Try.prog 5 [.int .i64 n] [] [] (R := Bool) (fun b => b = true) (fun b => .bool b) (fun _ => []) := by
  refine Spec.intro Try.func5 Try.ntmps5 rfl (by simp) (by simp) fun w0 => ?_
  refine WC.seq ?_
  refine WC.region ?_
  refine wlv (op_assign (lt_ rfl) rfl) rfl ?_
  refine WL.nil ?_
  refine WX.regs (L' := [(0, _)]) ?_
  refine WX.next ?_
  refine WC.seq ?_
  refine WC.seq ?_
  refine WC.region ?_
  refine wlx (op_call (f9_spec) ca9 (lt_ rfl) rfl) rfl ?_
  rintro _ _
  refine wlv (op_not (lt_ rfl) rfl) rfl ?_
  refine WL.nil ?_
  refine WX.regs (L' := [(0, _), (6, _)]) ?_
  refine WX.next ?_
  refine WC.condF rfl ?_
  refine WC.skip ?_
  refine WX.next ?_
  refine WC.seq ?_
  refine WC.region ?_
  refine wlv (op_move (lt_ rfl) rfl) rfl ?_
  refine wlx (op_call (f25_spec n) ca25 (lt_ rfl) rfl) rfl ?_
  rintro ⟨q1, q2⟩ hq
  dsimp only
  refine wlv (op_move (lt_ rfl) rfl) rfl ?_
  refine wlv (op_extract (lt_ rfl) rfl rfl) rfl ?_
  refine wlv (op_extract (lt_ rfl) rfl rfl) rfl ?_
  refine wlv (op_assign (lt_ rfl) rfl) rfl ?_
  refine wlv (op_assign (lt_ rfl) rfl) rfl ?_
  refine WL.nil ?_
  refine WX.regs (L' := [(0, _), (3, _), (4, _)]) ?_
  refine WX.next ?_
  refine WC.seq ?_
  refine WC.seq ?_
  refine WC.region ?_
  refine wlv (op_move (lt_ rfl) rfl) rfl ?_
  refine wlv (op_lss (lt_ rfl) rfl rfl) rfl ?_
  refine wlv (op_move (lt_ rfl) rfl) rfl ?_
  refine WL.split (t := 14) rfl (fun g14 => ?_) (fun g14 => ?_)
  ·
    refine wlg_no rfl rfl rfl rfl rfl (by decide) ?_
    refine wlg_no rfl rfl rfl rfl rfl (by decide) ?_
    refine wlv (op_pickT (lt_ rfl) rfl rfl) rfl ?_
    refine WL.nil ?_
    refine WX.regs (L' := [(0, _), (3, _), (4, _), (17, _)]) ?_
    refine WX.next ?_
    refine WC.condT rfl ?_
    refine WC.seq ?_
    refine WC.region ?_
    refine wlv (op_move (lt_ rfl) rfl) rfl ?_
    refine wlv (op_eql (lt_ rfl) rfl rfl) rfl ?_
    refine wlv (op_move (lt_ rfl) rfl) rfl ?_
    refine WL.split (t := 20) rfl (fun g20 => ?_) (fun g20 => ?_)
    ·
      rw [if_neg (by omega), Prod.mk.injEq] at hq
      refine wlgv (op_move (lt_ rfl) rfl) rfl rfl rfl ?_
      refine wlgv (op_eql (lt_ rfl) rfl rfl) rfl rfl rfl ?_
      refine wlv (op_pickT (lt_ rfl) rfl rfl) rfl ?_
      refine wlv (op_assign (lt_ rfl) rfl) rfl ?_
      refine WL.nil ?_
      refine WX.regs (L' := [(2, _)]) ?_
      refine WX.next ?_
      refine WC.ret ?_
      refine WX.then_ret ?_
      exact Fin.ret1 (by first | exact .inl rfl | exact .inr rfl) (_) (decide_eq_true (by omega)) Try.results5 (.tmp rfl) (by repeat (first | exact Takes.nil | exact Take.here | apply Takes.cons | apply Take.there)) (by simp)
    ·
      rw [if_neg (by omega), Prod.mk.injEq] at hq
      omega
  ·
    refine wlgv (op_move (lt_ rfl) rfl) rfl rfl rfl ?_
    refine wlgv (op_gtr (lt_ rfl) rfl rfl) rfl rfl rfl ?_
    refine wlv (op_pickF (lt_ rfl) rfl rfl) rfl ?_
    refine WL.nil ?_
    refine WX.regs (L' := [(0, _), (3, _), (4, _), (17, _)]) ?_
    refine WX.next ?_
    refine WC.cond rfl (fun h2 => ?_) (fun h2 => ?_)
    ·
      refine WC.seq ?_
      refine WC.region ?_
      refine wlv (op_move (lt_ rfl) rfl) rfl ?_
      refine wlv (op_eql (lt_ rfl) rfl rfl) rfl ?_
      refine wlv (op_move (lt_ rfl) rfl) rfl ?_
      refine WL.split (t := 20) rfl (fun g20 => ?_) (fun g20 => ?_)
      ·
        rw [if_neg (by omega), Prod.mk.injEq] at hq
        refine wlgv (op_move (lt_ rfl) rfl) rfl rfl rfl ?_
        refine wlgv (op_eql (lt_ rfl) rfl rfl) rfl rfl rfl ?_
        refine wlv (op_pickT (lt_ rfl) rfl rfl) rfl ?_
        refine wlv (op_assign (lt_ rfl) rfl) rfl ?_
        refine WL.nil ?_
        refine WX.regs (L' := [(2, _)]) ?_
        refine WX.next ?_
        refine WC.ret ?_
        refine WX.then_ret ?_
        exact Fin.ret1 (by first | exact .inl rfl | exact .inr rfl) (_) (decide_eq_true (by omega)) Try.results5 (.tmp rfl) (by repeat (first | exact Takes.nil | exact Take.here | apply Takes.cons | apply Take.there)) (by simp)
      ·
        rw [if_neg (by omega), Prod.mk.injEq] at hq
        omega
    ·
      refine WC.skip ?_
      refine WX.next ?_
      refine WC.seq ?_
      refine WC.region ?_
      refine wlv (op_move (lt_ rfl) rfl) rfl ?_
      refine wlv (op_eql (lt_ rfl) rfl rfl) rfl ?_
      refine wlv (op_move (lt_ rfl) rfl) rfl ?_
      refine WL.split (t := 26) rfl (fun g26 => ?_) (fun g26 => ?_)
      ·
        rw [if_pos (by omega), Prod.mk.injEq] at hq
        refine wlgv (op_move (lt_ rfl) rfl) rfl rfl rfl ?_
        refine wlgv (op_move (lt_ rfl) rfl) rfl rfl rfl ?_
        refine wlgv (op_add (lt_ rfl) rfl rfl (by omega)) rfl rfl rfl ?_
        refine wlgv (op_quo (lt_ rfl) rfl rfl (by omega) (by omega)) rfl rfl rfl ?_
        refine wlgv (op_max (t := 0) (lt_ rfl) rfl rfl) rfl rfl rfl ?_
        refine wlgv (op_eql (lt_ rfl) rfl rfl) rfl rfl rfl ?_
        refine wlv (op_pickT (lt_ rfl) rfl rfl) rfl ?_
        refine wlv (op_assign (lt_ rfl) rfl) rfl ?_
        refine WL.nil ?_
        refine WX.regs (L' := [(2, _)]) ?_
        refine WX.next ?_
        refine WC.ret ?_
        exact Fin.ret1 (by first | exact .inl rfl | exact .inr rfl) (_) (decide_eq_true (by have h := hq.1; unfold need at h; omega)) Try.results5 (.tmp rfl) (by repeat (first | exact Takes.nil | exact Take.here | apply Takes.cons | apply Take.there)) (by simp)
      ·
        rw [if_pos (by omega), Prod.mk.injEq] at hq
        omega
end Go.Proofs.Ytkjlbedebmffgaa.Sx

set_option linter.unusedVariables false
set_option linter.unusedSimpArgs false
namespace Go.Proofs.Ytkjlbedebmffgaa.Sx
open Go.RowKit Go.Proofs.Ytkjlbedebmffgaa.Ty
attribute [local irreducible] blk own rd rx frameC

theorem sizeM_le (s : UInt8) : 8 ≤ sizeM s ∧ sizeM s ≤ 43 := by unfold sizeM; omega
/-- An entry, with room or without. -/
theorem f27_any (bd bm bj : Nat) (A : Option Addr) (c : Nat) (D : Dk) (J : Jn) (Aj : Option Addr) (cj : Nat) (rs : List Bs) {k : Nat} {N : Int} {es : List Sec} {c0 k0 : Nat} (h : Strong k N D J es c0 k0) (hrs : rs.map Bs.s = es) (hN : 0 ≤ N ∧ N ≤ 900000) (hpd : D.pend.length ≤ 800000) (hl : D.lim = false) (Ab : Option Addr) (mb cb : Nat) (p : List UInt8) (hp : p.length = mb) (hp2 : mb ≤ 100000) :
    Spec Try.prog 27 [.pointer (some ⟨bj, 0, none⟩), .slice Ab mb cb] [blk bd (dcells D bm A c) 66, mapC bm (dmap D.dur), own (.slice A D.pend.length c) 84 257 D.pend.length (D.pend.flatMap wcs), blk bj (jcells J bd Aj rs.length cj) 76, own (.slice Aj rs.length cj) 23 1 rs.length (rs.map Bs.v), rowsC true rs] [rd (.slice Ab mb cb) 1 mb (bvs p)] (R := JP × Int × Int)
      (fun r => r.2.2 = if 1 + needs es + need mb ≤ k / 2 then 0 else 9) (fun r => .tuple #[.int .i64 r.2.1, .int .i64 r.2.2])
      (fun r => [blk bd (dcells r.1.D bm r.1.A r.1.c) 66, mapC bm (dmap r.1.D.dur), own (.slice r.1.A r.1.D.pend.length r.1.c) 84 257 r.1.D.pend.length (r.1.D.pend.flatMap wcs), blk bj (jcells r.1.J bd r.1.Aj r.1.rs.length r.1.cj) 76, own (.slice r.1.Aj r.1.rs.length r.1.cj) 23 1 r.1.rs.length (r.1.rs.map Bs.v), rowsC true r.1.rs]) := by
  by_cases hf : 1 + needs es + need mb ≤ k / 2
  · refine (f27_live bd bm bj A c D J Aj cj rs h hrs hN hpd hl Ab mb cb p hp hp2 hf).conseq ?_
    rintro q hq
    exact ⟨(q, J.first + (es.length : Nat), 0), by rw [if_pos hf], rfl, weak_refl _⟩
  · refine (f27_full bd bm bj A c D J Aj cj rs h hrs hN hpd Ab mb cb p hp hp2 (by omega)).conseq ?_
    rintro q hq
    exact ⟨(q, 0, 9), by rw [if_neg hf], rfl, weak_refl _⟩
def fullE (n c : Nat) : List Sec := (List.range c).map fun i => bytesM n (UInt8.ofNat i)
theorem fullE_succ (n c : Nat) : fullE n (c + 1) = fullE n c ++ [bytesM n (UInt8.ofNat c)] := by unfold fullE; rw [List.range_succ, List.map_append]; rfl
theorem fullE_length (n c : Nat) : (fullE n c).length = c := by simp [fullE]
theorem needs_same {L : Nat} : ∀ {es : List Sec}, (∀ p ∈ es, p.length = L) → needs es = es.length * need L := by
  intro es
  induction es with
  | nil => intro _; simp [needs]
  | cons p es ih =>
    intro h
    simp only [needs, List.length_cons, h p (List.mem_cons_self ..), ih fun q hq => h q (List.mem_cons_of_mem _ hq), Nat.succ_mul]
    omega
theorem fullE_same (n c : Nat) : ∀ p ∈ fullE n c, p.length = n % 1500 := by
  intro p hp
  obtain ⟨i, _, rfl⟩ := List.mem_map.1 hp
  exact bytesM_length ..
theorem fullE_needs (n c : Nat) : needs (fullE n c) = c * need (n % 1500) := by rw [needs_same (fullE_same n c), fullE_length]
theorem fullE_drop (n c m : Nat) : needs ((fullE n c).drop m) = (c - m) * need (n % 1500) := by rw [needs_same fun p hp => fullE_same n c p (List.mem_of_mem_drop hp), List.length_drop, fullE_length]
set_option maxHeartbeats 400000 in
set_option maxRecDepth 10000 in
theorem f4_spec (s : UInt8) (n : Nat) (hn : n < 65536) (kp : UInt8) : Spec Try.prog 4 [bv s, .int .u16 (n : Int), bv kp] [] [] (R := Bool) (fun b => b = true) (fun b => .bool b) (fun _ => []) := by
  have hk := sizeM_le s
  have hL : n % 1500 < 1500 := Nat.mod_lt _ (by decide)
  obtain ⟨nd, hnd⟩ : ∃ nd, nd = need (n % 1500) := ⟨_, rfl⟩
  have hnd1 : 1 ≤ nd ∧ nd ≤ 586 := by rw [hnd]; exact need_le (by omega)
  refine Spec.intro Try.func4 Try.ntmps4 rfl (by simp) (by simp) fun w0 => ?_
  refine WC.seq ?_
  refine WC.region ?_
  refine wlv (op_assign (lt_ rfl) rfl) rfl ?_
  refine WL.nil ?_
  refine WX.regs (L' := [(0, _), (1, _), (2, _)]) ?_
  refine WX.next ?_
  refine WC.seq ?_
  refine WC.seq ?_
  refine WC.region ?_
  refine wlx (op_call (f9_spec) ca9 (lt_ rfl) rfl) rfl ?_
  rintro _ _
  refine wlv (op_not (lt_ rfl) rfl) rfl ?_
  refine WL.nil ?_
  refine WX.regs (L' := [(0, _), (1, _), (2, _), (21, _)]) ?_
  refine WX.next ?_
  refine WC.condF rfl ?_
  refine WC.skip ?_
  refine WX.next ?_
  refine WC.seq ?_
  refine WC.region ?_
  refine wlx (op_call (f11_spec 48 (by omega)) ca11 (lt_ rfl) rfl) rfl ?_
  rintro ⟨bd, bm⟩ _
  refine wlv (op_move (lt_ rfl) rfl) rfl ?_
  refine wlv (op_extract (lt_ rfl) rfl rfl) rfl ?_
  refine wlv (op_extract (lt_ rfl) rfl rfl) rfl ?_
  refine wlv (op_assign (lt_ rfl) rfl) rfl ?_
  refine wlv (op_assign (lt_ rfl) rfl) rfl ?_
  refine WL.nil ?_
  refine WX.regs (L' := [(0, _), (1, _), (2, _), (7, _), (8, _)]) ?_
  refine WX.next ?_
  refine WC.seq ?_
  refine WC.seq ?_
  refine WC.region ?_
  refine wlv (op_move (lt_ rfl) rfl) rfl ?_
  refine wlv (op_neq (lt_ rfl) rfl rfl) rfl ?_
  refine wlv (op_move (lt_ rfl) rfl) rfl ?_
  refine wlgv (op_move (lt_ rfl) rfl) rfl rfl rfl ?_
  refine wlgv (op_move (lt_ rfl) rfl) rfl rfl rfl ?_
  refine wlgx (op_call (f13_spec s) ca13 (lt_ rfl) rfl) rfl rfl rfl ?_
  rintro _ _
  refine wlgx (op_call (f12_new bd bm none 0 (Dk.new 48) 3 (sizeM s) (by omega) (by omega) (by show (3 : Int) + (sizeM s : Int) ≤ 48; omega) (by decide) rfl rfl (fun a _ _ => gof_zero) (by decide)) ca12 (lt_ rfl) rfl) rfl rfl rfl ?_
  rintro ⟨D1, A1, c1⟩ ⟨hn1, hl1, hp1, ho1, J0, hj1, hj2, hj3, hs1⟩
  refine wlgv (op_neq (lt_ rfl) rfl rfl) rfl rfl rfl ?_
  refine wlv (op_pickF (lt_ rfl) rfl rfl) rfl ?_
  refine WL.nil ?_
  refine WX.regs (L' := [(0, _), (1, _), (2, _), (7, _), (34, _)]) ?_
  refine WX.next ?_
  refine WC.condF rfl ?_
  refine WC.skip ?_
  refine WX.next ?_
  refine WC.seq ?_
  refine WC.region ?_
  refine wlv (op_move (lt_ rfl) rfl) rfl ?_
  refine wlv (op_move (lt_ rfl) rfl) rfl ?_
  refine wlx (op_call (f13_spec s) ca13 (lt_ rfl) rfl) rfl ?_
  rintro _ _
  refine wlx (op_call (f14_live bd bm A1 c1 D1 J0 hs1 (by omega) (by rw [hp1]; decide) hl1 3 hj1) ca14 (lt_ rfl) rfl) rfl ?_
  rintro ⟨⟨D2, A2, c2, J2, Aj2, cj2, rs2⟩, bj, ⟨Ax, cx⟩, xs⟩ ⟨hr2, hx2, hn2, hl2, hp2, hf2, hfi2, hg2, ho2, hs2⟩
  dsimp only at hr2 hx2 hn2 hl2 hp2 hf2 hfi2 hg2 ho2 hs2 ⊢
  have hse2 := hs2.geo.se
  have hu2 := hs2.used
  simp only [needs] at hu2
  refine wlv (op_move (lt_ rfl) rfl) rfl ?_
  refine wlv (op_extract (lt_ rfl) rfl rfl) rfl ?_
  refine wlv (op_extract (lt_ rfl) rfl rfl) rfl ?_
  refine wlv (op_extract (lt_ rfl) rfl rfl) rfl ?_
  refine wlv (op_assign (lt_ rfl) rfl) rfl ?_
  refine wlv (op_assign (lt_ rfl) rfl) rfl ?_
  refine wlv (op_assign (lt_ rfl) rfl) rfl ?_
  refine WL.nil ?_
  refine WX.regs (L' := [(0, _), (1, _), (2, _), (8, _), (9, _)]) ?_
  refine WX.next ?_
  refine WC.seq ?_
  refine WC.region ?_
  refine wlv (op_move (lt_ rfl) rfl) rfl ?_
  refine wlx (op_call (f19_spec n hn 1) ca19 (lt_ rfl) rfl) rfl ?_
  rintro bz _
  refine wlv (op_len Try.underlying23 (lt_ rfl) rfl) rfl ?_
  refine wlx (op_call (f25_spec ((n % 1500 : Nat) : Int)) ca25 (lt_ rfl) rfl) rfl ?_
  rintro ⟨q1, q2⟩ hq
  rw [if_pos (by omega), Int.toNat_natCast, ← hnd, Prod.mk.injEq] at hq
  obtain ⟨rfl, rfl⟩ := hq
  dsimp only
  refine wlv (op_move (lt_ rfl) rfl) rfl ?_
  refine wlv (op_extract (lt_ rfl) rfl rfl) rfl ?_
  refine wlv (op_extract (lt_ rfl) rfl rfl) rfl ?_
  refine wlv (op_assign (lt_ rfl) rfl) rfl ?_
  refine wlv (op_assign (lt_ rfl) rfl) rfl ?_
  refine WL.nil ?_
  refine WX.regs (L' := [(0, _), (1, _), (2, _), (8, _), (9, _), (11, _), (12, _)]) ?_
  refine WX.next ?_
  refine WC.seq ?_
  refine WC.seq ?_
  refine WC.region ?_
  refine wlv (op_move (lt_ rfl) rfl) rfl ?_
  refine wlv (op_neq (lt_ rfl) rfl rfl) rfl ?_
  refine wlv (op_move (lt_ rfl) rfl) rfl ?_
  refine wlgv (op_move (lt_ rfl) rfl) rfl rfl rfl ?_
  refine wlgv (op_neq (lt_ rfl) rfl rfl) rfl rfl rfl ?_
  refine wlv (op_pickF (lt_ rfl) rfl rfl) rfl ?_
  refine wlv (op_move (lt_ rfl) rfl) rfl ?_
  refine wlgv (op_move (lt_ rfl) rfl) rfl rfl rfl ?_
  refine wlgv (op_lss (lt_ rfl) rfl rfl) rfl rfl rfl ?_
  refine wlv (op_pickF (lt_ rfl) rfl rfl) rfl ?_
  refine WL.nil ?_
  refine WX.regs (L' := [(0, _), (1, _), (2, _), (9, _), (11, _), (59, _)]) ?_
  refine WX.next ?_
  refine WC.cond rfl (fun h3 => ?_) (fun h3 => ?_)
  ·
    omega
  ·
    refine WC.skip ?_
    refine WX.next ?_
    refine WC.seq ?_
    refine WC.region ?_
    refine wlv (op_move (lt_ rfl) rfl) rfl ?_
    refine wlx (op_call (f26_spec bj bd J2 Aj2 rs2.length cj2 (by omega)) ca26 (lt_ rfl) rfl) rfl ?_
    rintro _ _
    rw [show J2.se / 2 - J2.used = ((sizeM s / 2 : Nat) : Int) - 1 by omega]
    refine wlv (op_assign (lt_ rfl) rfl) rfl ?_
    refine WL.nil ?_
    refine WX.regs (L' := [(0, _), (1, _), (2, _), (9, _), (11, _), (13, _)]) ?_
    refine WX.next ?_
    refine WC.seq ?_
    refine WC.seq ?_
    refine WC.region ?_
    refine wlv (op_move (lt_ rfl) rfl) rfl ?_
    refine wlv (op_move (lt_ rfl) rfl) rfl ?_
    refine wlx (op_call (f13_spec s) ca13 (lt_ rfl) rfl) rfl ?_
    rintro _ _
    refine wlv (op_quo (lt_ rfl) rfl rfl (by omega) (by omega)) rfl ?_
    refine wlv (op_sub (lt_ rfl) rfl rfl (by omega)) rfl ?_
    refine wlv (op_neq (lt_ rfl) rfl rfl) rfl ?_
    refine WL.nil ?_
    refine WX.regs (L' := [(1, _), (2, _), (9, _), (11, _), (13, _), (67, _)]) ?_
    refine WX.next ?_
    refine WC.cond rfl (fun h4 => ?_) (fun h4 => ?_)
    ·
      exact (h4 (by omega)).elim
    ·
      refine WC.skip ?_
      refine WX.next ?_
      refine WC.seq ?_
      refine WC.region ?_
      refine wlv (op_assign (lt_ rfl) rfl) rfl ?_
      refine WL.nil ?_
      refine WX.regs (L' := [(1, _), (2, _), (9, _), (11, _), (13, _), (14, _)]) ?_
      refine WX.next ?_
      refine WC.seq ?_
      refine WC.block ?_
      refine WC.loop (X := JP × Nat) (fun q => sizeM s - q.2) (fun q => ∃ c0 k0, Strong (sizeM s) 1010 q.1.D q.1.J (fullE n q.2) c0 k0 ∧ q.1.rs.map Bs.s = fullE n q.2 ∧ q.1.D.lim = false ∧ q.1.J.first = 0 ∧ q.1.D.pend.length ≤ 500 * q.2 + 500 ∧ q.2 * nd + 1 ≤ sizeM s / 2 ∧ q.2 ≤ q.2 * nd) (fun q => [(1, .int .u16 (n : Int)), (2, bv kp), (9, .pointer (some ⟨bj, 0, none⟩)), (11, .int .i64 (nd : Int)), (13, .int .i64 (((sizeM s / 2 : Nat) : Int) - 1 - ((q.2 * nd : Nat) : Int))), (14, .int .i64 (q.2 : Int))]) (fun q => [blk bd (dcells q.1.D bm q.1.A q.1.c) 66, mapC bm (dmap q.1.D.dur), own (.slice q.1.A q.1.D.pend.length q.1.c) 84 257 q.1.D.pend.length (q.1.D.pend.flatMap wcs), blk bj (jcells q.1.J bd q.1.Aj q.1.rs.length q.1.cj) 76, own (.slice q.1.Aj q.1.rs.length q.1.cj) 23 1 q.1.rs.length (q.1.rs.map Bs.v), rowsC true q.1.rs, frameC w0 (MutF [])]) ((⟨D2, A2, c2, J2, Aj2, cj2, rs2⟩, 0)) (⟨_, _, hs2, hr2, hl2, by rw [hf2, hj2], by rw [hp2]; exact Nat.zero_le _, by omega, by omega⟩) (fun a w hs => hs.sub (by repeat (first | exact RS.nil | refine RS.cons (by first | rfl | exact congrArg (fun z : Int => some (Value.int .i64 z)) (by omega)) ?_)) (by repeat (first | exact Takes.nil | exact Take.here | apply Takes.cons | apply Take.there))) ?_
      rintro ⟨⟨D3, A3, c3, J3, Aj3, cj3, rs3⟩, ct⟩ ⟨c0, k0, hs3, hr3, hl3, hf3, hp3, hb3, hc3⟩
      try dsimp only at hs3 hr3 hl3 hf3 hp3 hb3 hc3 ⊢
      refine WC.seq ?_
      refine WC.seq ?_
      refine WC.region ?_
      refine wlv (op_move (lt_ rfl) rfl) rfl ?_
      refine wlv (op_move (lt_ rfl) rfl) rfl ?_
      refine wlv (op_geq (lt_ rfl) rfl rfl) rfl ?_
      refine WL.nil ?_
      refine WX.regs (L' := [(1, _), (2, _), (9, _), (11, _), (13, _), (14, _), (70, _)]) ?_
      refine WX.next ?_
      refine WC.cond rfl (fun h5 => ?_) (fun h5 => ?_)
      ·
        refine WC.skip ?_
        refine WX.next ?_
        refine WC.block ?_
        refine WC.seq ?_
        refine WC.region ?_
        refine wlv (op_move (lt_ rfl) rfl) rfl ?_
        refine wlv (op_move (lt_ rfl) rfl) rfl ?_
        refine wlv (op_move (lt_ rfl) rfl) rfl ?_
        refine wlv (op_convByte (by kernel_rfl) Try.underlying5 (lt_ rfl) rfl (by omega)) rfl ?_
        rw [Int.toNat_natCast]
        refine wlx (op_call (f19_spec n hn (UInt8.ofNat ct)) ca19 (lt_ rfl) rfl) rfl ?_
        rintro bb _
        refine wlx (op_call (f27_live bd bm bj A3 c3 D3 J3 Aj3 cj3 rs3 hs3 hr3 (by omega) (by omega) hl3 (some ⟨bb, 0, none⟩) (n % 1500) (n % 1500) (bytesM n (UInt8.ofNat ct)) (bytesM_length ..) (by omega) (by rw [fullE_needs, ← hnd]; omega)) ca27 (lt_ rfl) rfl) rfl ?_
        rintro ⟨D4, A4, c4, J4, Aj4, cj4, rs4⟩ ⟨hr4, hn4, hl4, hp4, hf4, hfi4, hg4, ho4, hs4⟩
        dsimp only at hr4 hn4 hl4 hp4 hf4 hfi4 hg4 ho4 hs4 ⊢
        rw [← fullE_succ] at hs4 hr4
        have hse4 := hs4.geo.se
        have hu4 := hs4.used
        have hfn4 := fullE_needs n (ct + 1)
        rw [← hnd, Nat.succ_mul] at hfn4
        rw [fullE_length, hf3, Int.zero_add]
        refine wlv (op_move (lt_ rfl) rfl) rfl ?_
        refine wlv (op_extract (lt_ rfl) rfl rfl) rfl ?_
        refine wlv (op_extract (lt_ rfl) rfl rfl) rfl ?_
        refine wlv (op_assign (lt_ rfl) rfl) rfl ?_
        refine wlv (op_assign (lt_ rfl) rfl) rfl ?_
        refine WL.nil ?_
        refine WX.regs (L' := [(1, _), (2, _), (9, _), (11, _), (13, _), (14, _), (15, _), (16, _)]) ?_
        refine WX.next ?_
        refine WC.seq ?_
        refine WC.seq ?_
        refine WC.region ?_
        refine wlv (op_move (lt_ rfl) rfl) rfl ?_
        refine wlv (op_neq (lt_ rfl) rfl rfl) rfl ?_
        refine wlv (op_move (lt_ rfl) rfl) rfl ?_
        refine wlgv (op_move (lt_ rfl) rfl) rfl rfl rfl ?_
        refine wlgv (op_move (lt_ rfl) rfl) rfl rfl rfl ?_
        refine wlgv (op_neq (lt_ rfl) rfl rfl) rfl rfl rfl ?_
        refine wlv (op_pickF (lt_ rfl) rfl rfl) rfl ?_
        refine wlv (op_move (lt_ rfl) rfl) rfl ?_
        refine WL.split (t := 87) rfl (fun g87 => ?_) (fun g87 => ?_)
        ·
          exact absurd rfl g87
        ·
          refine wlgv (op_move (lt_ rfl) rfl) rfl rfl rfl ?_
          refine wlgx (op_call (f26_spec bj bd J4 Aj4 rs4.length cj4 (by omega)) ca26 (lt_ rfl) rfl) rfl rfl rfl ?_
          rintro _ _
          refine wlgv (op_move (lt_ rfl) rfl) rfl rfl rfl ?_
          refine wlgv (op_move (lt_ rfl) rfl) rfl rfl rfl ?_
          refine wlgv (op_sub (lt_ rfl) rfl rfl (by omega)) rfl rfl rfl ?_
          refine wlgv (op_neq (lt_ rfl) rfl rfl) rfl rfl rfl ?_
          refine wlv (op_pickF (lt_ rfl) rfl rfl) rfl ?_
          refine WL.nil ?_
          refine WX.regs (L' := [(1, _), (2, _), (9, _), (11, _), (13, _), (14, _), (94, _)]) ?_
          refine WX.next ?_
          refine WC.cond rfl (fun h6 => ?_) (fun h6 => ?_)
          ·
            exact (h6 (by omega)).elim
          ·
            refine WC.skip ?_
            refine WX.next ?_
            refine WC.region ?_
            refine wlv (op_move (lt_ rfl) rfl) rfl ?_
            refine wlv (op_move (lt_ rfl) rfl) rfl ?_
            refine wlv (op_sub (lt_ rfl) rfl rfl (by omega)) rfl ?_
            refine wlv (op_move (lt_ rfl) rfl) rfl ?_
            refine wlv (op_add (lt_ rfl) rfl rfl (by omega)) rfl ?_
            refine wlv (op_assign (lt_ rfl) rfl) rfl ?_
            refine wlv (op_assign (lt_ rfl) rfl) rfl ?_
            refine WL.nil ?_
            refine WX.regs (L' := [(1, _), (2, _), (9, _), (11, _), (13, _), (14, _)]) ?_
            refine WX.in_normal ?_
            rw [show ((sizeM s / 2 : Nat) : Int) - 1 - ((ct * nd : Nat) : Int) - (nd : Int) = ((sizeM s / 2 : Nat) : Int) - 1 - (((ct + 1) * nd : Nat) : Int) by rw [Nat.succ_mul]; omega]
            refine WX.meet ((⟨D4, A4, c4, J4, Aj4, cj4, rs4⟩, ct + 1)) ⟨⟨_, _, hs4, hr4, hl4, by rw [hf4, hf3], by simp only []; omega, by simp only [Nat.succ_mul]; omega, by simp only [Nat.succ_mul]; omega⟩, by simp only []; omega⟩ (fun a w hs => hs.sub (by repeat (first | exact RS.nil | refine RS.cons (by first | rfl | exact congrArg (fun z : Int => some (Value.int .i64 z)) (by omega)) ?_)) (by repeat (first | exact Takes.nil | exact Take.here | apply Takes.cons | apply Take.there)))
      ·
        refine WC.exit ?_
        refine WX.then_exit ?_
        refine WX.then_exit ?_
        refine WX.in_hit ?_
        refine WX.next ?_
        refine WC.seq ?_
        refine WC.seq ?_
        refine WC.region ?_
        refine wlv (op_move (lt_ rfl) rfl) rfl ?_
        refine wlv (op_move (lt_ rfl) rfl) rfl ?_
        refine wlx (op_call (f19_spec n hn 1) ca19 (lt_ rfl) rfl) rfl ?_
        rintro bf _
        refine wlx (op_call (f27_full bd bm bj A3 c3 D3 J3 Aj3 cj3 rs3 hs3 hr3 (by omega) (by omega) (some ⟨bf, 0, none⟩) (n % 1500) (n % 1500) (bytesM n 1) (bytesM_length ..) (by omega) (by rw [fullE_needs, ← hnd]; omega)) ca27 (lt_ rfl) rfl) rfl ?_
        rintro ⟨D5, A5, c5, J5, Aj5, cj5, rs5⟩ ⟨hr5, hD5, hJ5⟩
        dsimp only at hr5 hD5 hJ5 ⊢
        subst hD5
        subst hJ5
        have hlen5 : rs5.length = ct := by have := congrArg List.length hr5; rwa [List.length_map, fullE_length] at this
        refine wlv (op_move (lt_ rfl) rfl) rfl ?_
        refine wlv (op_extract (lt_ rfl) rfl rfl) rfl ?_
        refine wlv (op_extract (lt_ rfl) rfl rfl) rfl ?_
        refine wlv (op_assign (lt_ rfl) rfl) rfl ?_
        refine wlv (op_assign (lt_ rfl) rfl) rfl ?_
        refine WL.nil ?_
        refine WX.regs (L' := [(1, _), (2, _), (9, _), (11, _), (13, _), (14, _), (18, _)]) ?_
        refine WX.next ?_
        refine WC.seq ?_
        refine WC.region ?_
        refine wlv (op_move (lt_ rfl) rfl) rfl ?_
        refine wlv (op_neq (lt_ rfl) rfl rfl) rfl ?_
        refine wlv (op_move (lt_ rfl) rfl) rfl ?_
        refine wlgv (op_move (lt_ rfl) rfl) rfl rfl rfl ?_
        refine wlgx (op_call (f17_spec bj bd J5 Aj5 rs5.length cj5 (by omega)) ca17 (lt_ rfl) rfl) rfl rfl rfl ?_
        rintro _ _
        rw [show J5.first + (rs5.length : Int) = (ct : Int) by omega]
        refine wlgv (op_move (lt_ rfl) rfl) rfl rfl rfl ?_
        refine wlgv (op_neq (lt_ rfl) rfl rfl) rfl rfl rfl ?_
        refine wlv (op_pickF (lt_ rfl) rfl rfl) rfl ?_
        refine WL.nil ?_
        refine WX.regs (L' := [(1, _), (2, _), (9, _), (11, _), (13, _), (14, _), (114, _)]) ?_
        refine WX.next ?_
        refine WC.cond rfl (fun h7 => ?_) (fun h7 => ?_)
        ·
          exact (h7 rfl).elim
        ·
          refine WC.skip ?_
          refine WX.next ?_
          refine WC.seq ?_
          refine WC.region ?_
          refine wlv (op_move (lt_ rfl) rfl) rfl ?_
          refine wlv (op_conv8i (by kernel_rfl) Try.underlying3 (lt_ rfl) rfl) rfl ?_
          refine wlv (op_move (lt_ rfl) rfl) rfl ?_
          refine wlv (op_add (lt_ rfl) rfl rfl (by omega)) rfl ?_
          refine wlv (op_rem (lt_ rfl) rfl rfl (by omega) (by omega)) rfl ?_
          rw [show ((ct : Int)) + 1 = ((ct + 1 : Nat) : Int) by omega, ← Int.natCast_emod]
          obtain ⟨m, hm⟩ : ∃ m, m = kp.toNat % (ct + 1) := ⟨_, rfl⟩
          rw [← hm]
          have hml : m ≤ ct := by rw [hm]; have := Nat.mod_lt kp.toNat (show 0 < ct + 1 by omega); omega
          refine wlv (op_assign (lt_ rfl) rfl) rfl ?_
          refine WL.nil ?_
          refine WX.regs (L' := [(1, _), (9, _), (11, _), (13, _), (14, _), (19, _)]) ?_
          refine WX.next ?_
          refine WC.seq ?_
          refine WC.seq ?_
          refine WC.region ?_
          refine wlv (op_move (lt_ rfl) rfl) rfl ?_
          refine wlv (op_move (lt_ rfl) rfl) rfl ?_
          refine wlx (op_call (f28_live bd bm bj A5 c5 D5 J5 Aj5 cj5 rs5 hs3 hr5 (by omega) (by omega) hl3 m (by rw [fullE_length]; exact hml) (m : Int) (by omega)) ca28 (lt_ rfl) rfl) rfl ?_
          rintro ⟨D6, A6, c6, J6, Aj6, cj6, rs6⟩ ⟨hr6, hn6, hl6, hp6, hf6, hfi6, hg6, ho6, k6, k7, hs6⟩
          dsimp only at hr6 hn6 hl6 hp6 hf6 hfi6 hg6 ho6 hs6 ⊢
          have hlen6 : rs6.length = ct - m := by have := congrArg List.length hr6; rwa [List.length_map, List.length_drop, fullE_length] at this
          have hse6 := hs6.geo.se
          have hu6 := hs6.used
          rw [fullE_drop, ← hnd] at hu6
          have hsub : (ct - m) * nd = ct * nd - m * nd := Nat.sub_mul ..
          have hmn : m * nd ≤ ct * nd := Nat.mul_le_mul_right _ hml
          refine wlv (op_neq (lt_ rfl) rfl rfl) rfl ?_
          refine wlv (op_move (lt_ rfl) rfl) rfl ?_
          refine wlgv (op_move (lt_ rfl) rfl) rfl rfl rfl ?_
          refine wlgx (op_call (f18_spec bj bd J6 Aj6 rs6.length cj6) ca18 (lt_ rfl) rfl) rfl rfl rfl ?_
          rintro _ _
          rw [hf6]
          refine wlgv (op_move (lt_ rfl) rfl) rfl rfl rfl ?_
          refine wlgv (op_neq (lt_ rfl) rfl rfl) rfl rfl rfl ?_
          refine wlv (op_pickF (lt_ rfl) rfl rfl) rfl ?_
          refine wlv (op_move (lt_ rfl) rfl) rfl ?_
          refine WL.split (t := 130) rfl (fun g130 => ?_) (fun g130 => ?_)
          ·
            exact absurd rfl g130
          ·
            refine wlgv (op_move (lt_ rfl) rfl) rfl rfl rfl ?_
            refine wlgx (op_call (f17_spec bj bd J6 Aj6 rs6.length cj6 (by omega)) ca17 (lt_ rfl) rfl) rfl rfl rfl ?_
            rintro _ _
            rw [show J6.first + (rs6.length : Int) = (m : Int) + ((ct - m : Nat) : Int) by omega]
            refine wlgv (op_move (lt_ rfl) rfl) rfl rfl rfl ?_
            refine wlgv (op_neq (lt_ rfl) rfl rfl) rfl rfl rfl ?_
            refine wlv (op_pickF (lt_ rfl) rfl rfl) rfl ?_
            refine wlv (op_move (lt_ rfl) rfl) rfl ?_
            refine WL.split (t := 136) rfl (fun g136 => ?_) (fun g136 => ?_)
            ·
              exact (g136 (by omega)).elim
            ·
              refine wlgv (op_move (lt_ rfl) rfl) rfl rfl rfl ?_
              refine wlgx (op_call (f26_spec bj bd J6 Aj6 rs6.length cj6 (by omega)) ca26 (lt_ rfl) rfl) rfl rfl rfl ?_
              rintro _ _
              refine wlgv (op_move (lt_ rfl) rfl) rfl rfl rfl ?_
              refine wlgv (op_move (lt_ rfl) rfl) rfl rfl rfl ?_
              refine wlgv (op_move (lt_ rfl) rfl) rfl rfl rfl ?_
              refine wlgv (op_mul (lt_ rfl) rfl rfl (by rw [← Int.natCast_mul]; omega)) rfl rfl rfl ?_
              rw [show (m : Int) * (nd : Int) = ((m * nd : Nat) : Int) from (Int.natCast_mul m nd).symm]
              refine wlgv (op_add (lt_ rfl) rfl rfl (by omega)) rfl rfl rfl ?_
              refine wlgv (op_neq (lt_ rfl) rfl rfl) rfl rfl rfl ?_
              refine wlv (op_pickF (lt_ rfl) rfl rfl) rfl ?_
              refine WL.nil ?_
              refine WX.regs (L' := [(1, _), (9, _), (11, _), (13, _), (19, _), (145, _)]) ?_
              refine WX.next ?_
              refine WC.cond rfl (fun h8 => ?_) (fun h8 => ?_)
              ·
                exact (h8 (by omega)).elim
              ·
                refine WC.skip ?_
                refine WX.next ?_
                refine WC.seq ?_
                refine WC.region ?_
                refine wlv (op_move (lt_ rfl) rfl) rfl ?_
                refine wlv (op_move (lt_ rfl) rfl) rfl ?_
                refine wlx (op_call (f19_spec n hn 9) ca19 (lt_ rfl) rfl) rfl ?_
                rintro bg _
                refine wlx (op_call (f27_any bd bm bj A6 c6 D6 J6 Aj6 cj6 rs6 hs6 hr6 (by omega) (by omega) hl6 (some ⟨bg, 0, none⟩) (n % 1500) (n % 1500) (bytesM n 9) (bytesM_length ..) (by omega)) ca27 (lt_ rfl) rfl) rfl ?_
                rintro ⟨⟨D7, A7, c7, J7, Aj7, cj7, rs7⟩, nn, ee⟩ he
                dsimp only at he
                rw [fullE_drop, ← hnd] at he
                dsimp only
                refine wlv (op_move (lt_ rfl) rfl) rfl ?_
                refine wlv (op_extract (lt_ rfl) rfl rfl) rfl ?_
                refine wlv (op_extract (lt_ rfl) rfl rfl) rfl ?_
                refine wlv (op_assign (lt_ rfl) rfl) rfl ?_
                refine WL.nil ?_
                refine WX.regs (L' := [(8, _), (11, _), (13, _), (19, _)]) ?_
                refine WX.next ?_
                refine WC.seq ?_
                refine WC.region ?_
                refine wlv (op_move (lt_ rfl) rfl) rfl ?_
                refine wlv (op_eql (lt_ rfl) rfl rfl) rfl ?_
                refine wlv (op_move (lt_ rfl) rfl) rfl ?_
                refine wlv (op_move (lt_ rfl) rfl) rfl ?_
                refine wlv (op_move (lt_ rfl) rfl) rfl ?_
                refine wlv (op_mul (lt_ rfl) rfl rfl (by rw [← Int.natCast_mul]; omega)) rfl ?_
                rw [show (m : Int) * (nd : Int) = ((m * nd : Nat) : Int) from (Int.natCast_mul m nd).symm]
                refine wlv (op_add (lt_ rfl) rfl rfl (by omega)) rfl ?_
                refine wlv (op_move (lt_ rfl) rfl) rfl ?_
                refine wlv (op_geq (lt_ rfl) rfl rfl) rfl ?_
                refine wlv (op_eqlb (lt_ rfl) rfl rfl Try.underlying4) rfl ?_
                refine wlv (op_assign (lt_ rfl) rfl) rfl ?_
                refine WL.nil ?_
                refine WX.regs (L' := [(6, _)]) ?_
                refine WX.next ?_
                refine WC.ret ?_
                exact Fin.ret1 (by first | exact .inl rfl | exact .inr rfl) (_) (by split at he <;> simp_all <;> omega) Try.results4 (.tmp rfl) (by repeat (first | exact Takes.nil | exact Take.here | apply Takes.cons | apply Take.there)) (by simp)
end Go.Proofs.Ytkjlbedebmffgaa.Sx

set_option linter.unusedVariables false
set_option linter.unusedSimpArgs false
namespace Go.Proofs.Ytkjlbedebmffgaa.Sx
open Go.RowKit Go.Proofs.Ytkjlbedebmffgaa.Ty
attribute [local irreducible] blk own rd rx frameC

def fput (f : Int → Option Sec) (a : Int) (p : Sec) (i : Int) : Option Sec := if i = a then some p else f i
theorem fput_map (f : Int → Option Sec) (a : Int) (p : Sec) : (fun x => if x = a then some (sv p) else (f x).map sv) = fun x => (fput f a p x).map sv := by
  funext x
  unfold fput
  split <;> rfl
theorem mapC_put {b : Nat} (f : Int → Option Sec) (a : Int) (p : Sec) : mapC b (fun x => if x = a then some (sv p) else (f x).map sv) = mapC b (fun x => (fput f a p x).map sv) := by rw [fput_map]
/-- The map holds the entries from a number on. -/
def Told (f : Int → Option Sec) (n : Int) (es : List Sec) : Prop := ∀ (j : Nat) p, es[j]? = some p → f (n + j) = some p
theorem Told.put {f : Int → Option Sec} {n : Int} {es : List Sec} (h : Told f n es) (p : Sec) : Told (fput f (n + es.length) p) n (es ++ [p]) := by
  intro j q hq
  unfold fput
  by_cases hj : j < es.length
  · rw [List.getElem?_append_left hj] at hq
    rw [if_neg (by omega)]
    exact h j q hq
  · rw [List.getElem?_append_right (by omega)] at hq
    have hlt := (List.getElem?_eq_some_iff.1 hq).1
    simp only [List.length_singleton] at hlt
    rw [show j - es.length = 0 by omega] at hq
    simp only [List.getElem?_cons_zero, Option.some.injEq] at hq
    rw [if_pos (by omega), hq]
theorem Told.drop {f : Int → Option Sec} {n : Int} {es : List Sec} (h : Told f n es) (m : Nat) : Told f (n + m) (es.drop m) := by
  intro j q hq
  rw [List.getElem?_drop] at hq
  have := h (m + j) q hq
  rw [show n + ((m + j : Nat) : Int) = n + m + j by omega] at this
  exact this
theorem Eff.rest {k : Nat} {J J' : Jn} {es es' : List Sec} {o : OpR} {e : Int} (h : Eff k J J' es es' o e) (hn : ¬ (e = 0 ∧ o.k.toNat % 3 = 0)) : ∃ m : Nat, m ≤ es.length ∧ es' = es.drop m ∧ J'.first = J.first + m := by
  by_cases h0 : o.k.toNat % 3 = 0
  · rcases h.a h0 with ⟨h1, _⟩ | ⟨_, h2, h3, _⟩
    · exact absurd ⟨h1, h0⟩ hn
    · exact ⟨0, Nat.zero_le _, h2, by rw [h3]; simp⟩
  · by_cases h1 : o.k.toNat % 3 = 1
    · obtain ⟨_, h2, h3⟩ := h.s h1
      exact ⟨0, Nat.zero_le _, h2, by rw [h3]; simp⟩
    · rcases h.t (by omega) with ⟨_, h2, h3⟩ | ⟨m, _, h2, h3, h4, _⟩
      · exact ⟨0, Nat.zero_le _, h2, by rw [h3]; simp⟩
      · exact ⟨m, h2, h3, h4⟩
theorem Eff.app {k : Nat} {J J' : Jn} {es es' : List Sec} {o : OpR} {e : Int} (h : Eff k J J' es es' o e) (he : e = 0) (hk : o.k.toNat % 3 = 0) : es' = es ++ [bytesM o.n o.b] ∧ J'.first = J.first := by
  rcases h.a hk with ⟨_, h2, h3, _⟩ | ⟨h1, _⟩
  · exact ⟨h2, h3⟩
  · omega
theorem entC_at {rs : List Bs} {i : Nat} {r : Bs} (h : rs[i]? = some r) (n : Int) : (entC n rs)[i * 2]? = some (.int .i64 (n + i)) ∧ (entC n rs)[i * 2 + 1]? = some r.v := by
  induction rs generalizing i n with
  | nil => simp at h
  | cons x rs ih =>
    cases i with
    | zero =>
      simp only [List.getElem?_cons_zero, Option.some.injEq] at h
      subst h
      exact ⟨by simp [entC], by simp [entC]⟩
    | succ i =>
      rw [List.getElem?_cons_succ] at h
      obtain ⟨h1, h2⟩ := ih h (n + 1)
      rw [show (i + 1) * 2 = i * 2 + 1 + 1 by omega]
      simp only [entC, List.getElem?_cons_succ]
      exact ⟨by rw [h1]; congr 2; omega, h2⟩
theorem entC_length (rs : List Bs) : ∀ n : Int, (entC n rs).length = rs.length * 2 := by
  induction rs with
  | nil => intro n; rfl
  | cons x rs ih => intro n; simp [entC, ih]; omega
set_option maxHeartbeats 400000 in
set_option maxRecDepth 10000 in
theorem f6_spec (s : UInt8) (A : Option Addr) (M c : Nat) (l : List OpR) (hM : l.length = M) (hln : ∀ o ∈ l, o.n < 65536) : Spec Try.prog 6 [bv s, .slice A M c] [] [rd (.slice A M c) 4 M (l.flatMap OpR.cells)] (R := Bool) (fun b => b = true) (fun b => .bool b) (fun _ => []) := by
  have hk := sizeM_le s
  refine Spec.intro Try.func6 Try.ntmps6 rfl (by simp) (by simp) fun w0 => ?_
  refine WC.seq ?_
  refine WC.region ?_
  refine wlv (op_assign (lt_ rfl) rfl) rfl ?_
  refine WL.nil ?_
  refine WX.regs (L' := [(0, _), (1, _)]) ?_
  refine WX.next ?_
  refine WC.seq ?_
  refine WC.seq ?_
  refine WC.region ?_
  refine wlx (op_call (f9_spec) ca9 (lt_ rfl) rfl) rfl ?_
  rintro _ _
  refine wlv (op_not (lt_ rfl) rfl) rfl ?_
  refine wlv (op_move (lt_ rfl) rfl) rfl ?_
  refine wlgv (op_move (lt_ rfl) rfl) rfl rfl rfl ?_
  refine wlgx (op_call (f10_spec A M c l hM) ca10 (lt_ rfl) rfl) rfl rfl rfl ?_
  rintro bf hbf
  refine wlgv (op_not (lt_ rfl) rfl) rfl rfl rfl ?_
  refine wlv (op_pickF (lt_ rfl) rfl rfl) rfl ?_
  refine WL.nil ?_
  refine WX.regs (L' := [(0, _), (1, _), (23, _)]) ?_
  refine WX.next ?_
  refine WC.condb rfl (fun h1 => ?_) (fun h1 => ?_)
  ·
    refine WC.seq ?_
    refine WC.region ?_
    refine wlx (op_call (f9_spec) ca9 (lt_ rfl) rfl) rfl ?_
    rintro _ _
    refine wlv (op_assign (lt_ rfl) rfl) rfl ?_
    refine WL.nil ?_
    refine WX.regs (L' := [(4, _)]) ?_
    refine WX.next ?_
    refine WC.ret ?_
    refine WX.then_ret ?_
    exact Fin.ret1 (by first | exact .inl rfl | exact .inr rfl) (_) (rfl) Try.results6 (.tmp rfl) (by repeat (first | exact Takes.nil | exact Take.here | apply Takes.cons | apply Take.there)) (by simp)
  ·
    have hfit := hbf.1 (by cases bf <;> simp_all)
    refine WC.skip ?_
    refine WX.next ?_
    refine WC.seq ?_
    refine WC.region ?_
    refine wlx (op_call (f11_spec 48 (by omega)) ca11 (lt_ rfl) rfl) rfl ?_
    rintro ⟨bd, bm⟩ _
    refine wlv (op_move (lt_ rfl) rfl) rfl ?_
    refine wlv (op_extract (lt_ rfl) rfl rfl) rfl ?_
    refine wlv (op_extract (lt_ rfl) rfl rfl) rfl ?_
    refine wlv (op_assign (lt_ rfl) rfl) rfl ?_
    refine wlv (op_assign (lt_ rfl) rfl) rfl ?_
    refine WL.nil ?_
    refine WX.regs (L' := [(0, _), (1, _), (5, _), (6, _)]) ?_
    refine WX.next ?_
    refine WC.seq ?_
    refine WC.seq ?_
    refine WC.region ?_
    refine wlv (op_move (lt_ rfl) rfl) rfl ?_
    refine wlv (op_neq (lt_ rfl) rfl rfl) rfl ?_
    refine wlv (op_move (lt_ rfl) rfl) rfl ?_
    refine wlgv (op_move (lt_ rfl) rfl) rfl rfl rfl ?_
    refine wlgv (op_move (lt_ rfl) rfl) rfl rfl rfl ?_
    refine wlgx (op_call (f13_spec s) ca13 (lt_ rfl) rfl) rfl rfl rfl ?_
    rintro _ _
    refine wlgx (op_call (f12_new bd bm none 0 (Dk.new 48) 3 (sizeM s) (by omega) (by omega) (by show (3 : Int) + (sizeM s : Int) ≤ 48; omega) (by decide) rfl rfl (fun a _ _ => gof_zero) (by decide)) ca12 (lt_ rfl) rfl) rfl rfl rfl ?_
    rintro ⟨D1, A1, c1⟩ ⟨hn1, hl1, hp1, ho1, J0, hj1, hj2, hj3, hs1⟩
    refine wlgv (op_neq (lt_ rfl) rfl rfl) rfl rfl rfl ?_
    refine wlv (op_pickF (lt_ rfl) rfl rfl) rfl ?_
    refine WL.nil ?_
    refine WX.regs (L' := [(0, _), (1, _), (5, _), (37, _)]) ?_
    refine WX.next ?_
    refine WC.condF rfl ?_
    refine WC.skip ?_
    refine WX.next ?_
    refine WC.seq ?_
    refine WC.region ?_
    refine wlv (op_move (lt_ rfl) rfl) rfl ?_
    refine wlv (op_move (lt_ rfl) rfl) rfl ?_
    refine wlx (op_call (f13_spec s) ca13 (lt_ rfl) rfl) rfl ?_
    rintro _ _
    refine wlx (op_call (f14_live bd bm A1 c1 D1 J0 hs1 (by omega) (by rw [hp1]; decide) hl1 3 hj1) ca14 (lt_ rfl) rfl) rfl ?_
    rintro ⟨⟨D2, A2, c2, J2, Aj2, cj2, rs2⟩, bj, ⟨Ax, cx⟩, xs⟩ ⟨hr2, hx2, hn2, hl2, hp2, hf2, hfi2, hg2, ho2, hs2⟩
    dsimp only at hr2 hx2 hn2 hl2 hp2 hf2 hfi2 hg2 ho2 hs2 ⊢
    refine wlv (op_move (lt_ rfl) rfl) rfl ?_
    refine wlv (op_extract (lt_ rfl) rfl rfl) rfl ?_
    refine wlv (op_extract (lt_ rfl) rfl rfl) rfl ?_
    refine wlv (op_extract (lt_ rfl) rfl rfl) rfl ?_
    refine wlv (op_assign (lt_ rfl) rfl) rfl ?_
    refine wlv (op_assign (lt_ rfl) rfl) rfl ?_
    refine wlv (op_assign (lt_ rfl) rfl) rfl ?_
    refine WL.nil ?_
    refine WX.regs (L' := [(0, _), (1, _), (5, _), (6, _), (7, _)]) ?_
    refine WX.next ?_
    refine WC.seq ?_
    refine WC.seq ?_
    refine WC.region ?_
    refine wlv (op_move (lt_ rfl) rfl) rfl ?_
    refine wlv (op_neq (lt_ rfl) rfl rfl) rfl ?_
    refine WL.nil ?_
    refine WX.regs (L' := [(0, _), (1, _), (5, _), (7, _), (47, _)]) ?_
    refine WX.next ?_
    refine WC.condF rfl ?_
    refine WC.skip ?_
    refine WX.next ?_
    refine WC.seq ?_
    refine WC.region ?_
    refine wl1 (op_makeMap (lt_ rfl)) rfl fun b1 => ?_
    refine wlv (op_assign (lt_ rfl) rfl) rfl ?_
    refine WL.nil ?_
    refine WX.chEq (c := mapC b1 (fun _ => none)) (mapC b1 (fun x => ((fun _ => none : Int → Option Sec) x).map sv)) (by repeat (first | exact Take.here | apply Take.there)) rfl ?_
    refine WX.regs (L' := [(0, _), (1, _), (5, _), (7, _), (9, _)]) ?_
    refine WX.next ?_
    refine WC.seq ?_
    refine WC.seq ?_
    refine WC.region ?_
    refine wlv (op_assign (lt_ rfl) rfl) rfl ?_
    refine WL.nil ?_
    refine WX.regs (L' := [(0, _), (1, _), (5, _), (7, _), (9, _), (10, _)]) ?_
    refine WX.next ?_
    refine WC.block ?_
    refine WC.loop (X := JP × Nat × (Int → Option Sec)) (fun q => M - q.2.1) (fun q => ∃ c0 k0, Strong (sizeM s) (1010 + 1000 * q.2.1) q.1.D q.1.J (q.1.rs.map Bs.s) c0 k0 ∧ q.1.D.lim = false ∧ q.1.J.fi = 3 ∧ q.1.D.pend.length ≤ 500 * q.2.1 ∧ Told q.2.2 q.1.J.first (q.1.rs.map Bs.s) ∧ q.2.1 ≤ M) (fun q => [(0, bv s), (1, .slice A M c), (5, .pointer (some ⟨bd, 0, none⟩)), (7, .pointer (some ⟨bj, 0, none⟩)), (9, .map (some b1)), (10, .int .i64 (q.2.1 : Int))]) (fun q => [blk bd (dcells q.1.D bm q.1.A q.1.c) 66, mapC bm (dmap q.1.D.dur), own (.slice q.1.A q.1.D.pend.length q.1.c) 84 257 q.1.D.pend.length (q.1.D.pend.flatMap wcs), blk bj (jcells q.1.J bd q.1.Aj q.1.rs.length q.1.cj) 76, own (.slice q.1.Aj q.1.rs.length q.1.cj) 23 1 q.1.rs.length (q.1.rs.map Bs.v), rowsC true q.1.rs, mapC b1 (fun x => (q.2.2 x).map sv), rd (.slice A M c) 4 M (l.flatMap OpR.cells), frameC w0 (MutF [])]) ((⟨D2, A2, c2, J2, Aj2, cj2, rs2⟩, 0, fun _ => none)) (⟨_, _, by rw [hr2]; exact hs2, hl2, by rw [hfi2, hj1], by rw [hp2]; exact Nat.zero_le _, by rw [hr2]; intro j p h; simp at h, Nat.zero_le _⟩) (fun a w hs => hs.sub (by repeat (first | exact RS.nil | refine RS.cons (by first | rfl | exact congrArg (fun z : Int => some (Value.int .i64 z)) (by omega)) ?_)) (by repeat (first | exact Takes.nil | exact Take.here | apply Takes.cons | apply Take.there))) ?_
    rintro ⟨⟨D3, A3, c3, J3, Aj3, cj3, rs3⟩, i, f⟩ ⟨c0, k0, hs3, hl3, hfi3, hp3, ht3, hi⟩
    try dsimp only at hs3 hl3 hfi3 hp3 ht3 hi ⊢
    have hfb3 := hs3.geo.fb
    have hfit3 := hs3.fit
    have hle3 := needs_le (rs3.map Bs.s)
    rw [List.length_map] at hle3
    have hM30 := hfit.1
    refine WC.seq ?_
    refine WC.seq ?_
    refine WC.region ?_
    refine wlv (op_move (lt_ rfl) rfl) rfl ?_
    refine wlv (op_move (lt_ rfl) rfl) rfl ?_
    refine wlv (op_len Try.underlying22 (lt_ rfl) rfl) rfl ?_
    refine wlv (op_lss (lt_ rfl) rfl rfl) rfl ?_
    refine WL.nil ?_
    refine WX.regs (L' := [(0, _), (1, _), (5, _), (7, _), (9, _), (10, _), (52, _)]) ?_
    refine WX.next ?_
    refine WC.cond rfl (fun h4 => ?_) (fun h4 => ?_)
    ·
      refine WC.skip ?_
      refine WX.next ?_
      refine WC.seq ?_
      refine WC.block ?_
      refine WC.seq ?_
      refine WC.region ?_
      refine wlv (op_move (lt_ rfl) rfl) rfl ?_
      refine wlx (op_call (f17_spec bj bd J3 Aj3 rs3.length cj3 (by omega)) ca17 (lt_ rfl) rfl) rfl ?_
      rintro _ _
      refine wlv (op_assign (lt_ rfl) rfl) rfl ?_
      refine WL.nil ?_
      refine WX.regs (L' := [(0, _), (1, _), (5, _), (7, _), (9, _), (10, _), (11, _)]) ?_
      refine WX.next ?_
      refine WC.seq ?_
      refine WC.region ?_
      refine wlv (op_move (lt_ rfl) rfl) rfl ?_
      refine wlv (op_move (lt_ rfl) rfl) rfl ?_
      refine wlv (op_move (lt_ rfl) rfl) rfl ?_
      obtain ⟨o, hoo⟩ : ∃ r, l[i]? = some r := ⟨l[i]'(by omega), List.getElem?_eq_getElem _⟩
      have ho := hln o (List.mem_of_getElem? hoo)
      have hk8 := o.k.toNat_lt
      have hx : ∀ j, j = i * 4 → ((l.flatMap OpR.cells).drop j).take 4 = o.cells := fun j hj => by rw [hj]; exact flat_at (f := OpR.cells) (sz := 4) (fun _ => rfl) l i o hoo
      refine wlv (op_index Try.underlying22 sz42 (lt_ rfl) rfl rfl (by omega) (by omega) (by decide) (by first | (apply Src.rd; (repeat (first | exact List.Mem.head _ | apply List.Mem.tail)); done) | (apply Src.own; (repeat (first | exact List.Mem.head _ | apply List.Mem.tail)); done) | (apply Src.rx; (repeat (first | exact List.Mem.head _ | apply List.Mem.tail)); done))) rfl ?_
      refine wlv (op_loadSN ag42 (lt_ rfl) rfl (by first | (apply Src.rd; (repeat (first | exact List.Mem.head _ | apply List.Mem.tail)); done) | (apply Src.own; (repeat (first | exact List.Mem.head _ | apply List.Mem.tail)); done) | (apply Src.rx; (repeat (first | exact List.Mem.head _ | apply List.Mem.tail)); done)) (by rw [hx _ (by omega)]; rfl) (by decide)) rfl ?_
      rw [hx _ (by omega)]
      refine wlx (op_call (f20_live bd bm bj A3 c3 D3 J3 Aj3 cj3 rs3 hs3 rfl (by omega) (by omega) hl3 o ho) ca20 (lt_ rfl) rfl) rfl ?_
      rintro ⟨⟨D4, A4, c4, J4, Aj4, cj4, rs4⟩, e⟩ ⟨es4, hr4, hn4, hl4, hp4, hfi4, ho4, ⟨k4, k5, hs4⟩, hef⟩
      dsimp only at hr4 hn4 hl4 hp4 hfi4 ho4 hs4 hef ⊢
      subst hr4
      refine wlv (op_assign (lt_ rfl) rfl) rfl ?_
      refine WL.nil ?_
      refine WX.regs (L' := [(0, _), (1, _), (5, _), (7, _), (9, _), (10, _), (11, _), (12, _)]) ?_
      refine WX.next ?_
      refine WC.seq ?_
      refine WC.region ?_
      refine wlv (op_move (lt_ rfl) rfl) rfl ?_
      refine wlv (op_eql (lt_ rfl) rfl rfl) rfl ?_
      refine wlv (op_move (lt_ rfl) rfl) rfl ?_
      refine WL.split (t := 65) rfl (fun g65 => ?_) (fun g65 => ?_)
      ·
        refine wlgv (op_move (lt_ rfl) rfl) rfl rfl rfl ?_
        refine wlgv (op_move (lt_ rfl) rfl) rfl rfl rfl ?_
        refine wlgv (op_index Try.underlying22 sz42 (lt_ rfl) rfl rfl (by omega) (by omega) (by decide) (by first | (apply Src.rd; (repeat (first | exact List.Mem.head _ | apply List.Mem.tail)); done) | (apply Src.own; (repeat (first | exact List.Mem.head _ | apply List.Mem.tail)); done) | (apply Src.rx; (repeat (first | exact List.Mem.head _ | apply List.Mem.tail)); done))) rfl rfl rfl ?_
        refine wlgv (op_fieldAddrS fo42_0 (lt_ rfl) rfl (by first | (apply Src.rd; (repeat (first | exact List.Mem.head _ | apply List.Mem.tail)); done) | (apply Src.own; (repeat (first | exact List.Mem.head _ | apply List.Mem.tail)); done) | (apply Src.rx; (repeat (first | exact List.Mem.head _ | apply List.Mem.tail)); done)) (by rw [flat_len (f := OpR.cells) (sz := 4) (fun _ => rfl)]; omega)) rfl rfl rfl ?_
        refine wlgv (op_loadS fl5 (lt_ rfl) rfl (by first | (apply Src.rd; (repeat (first | exact List.Mem.head _ | apply List.Mem.tail)); done) | (apply Src.own; (repeat (first | exact List.Mem.head _ | apply List.Mem.tail)); done) | (apply Src.rx; (repeat (first | exact List.Mem.head _ | apply List.Mem.tail)); done)) ((row_get (k := 0) (hx _ (by omega)) (by decide)).trans rfl)) rfl rfl rfl ?_
        refine wlgv (op_rem (k := .u8) (a := (o.k.toNat : Int)) (lt_ rfl) rfl rfl (by omega) (by omega)) rfl rfl rfl ?_
        refine wlgv (op_eql (lt_ rfl) rfl rfl) rfl rfl rfl ?_
        refine wlv (op_pickT (lt_ rfl) rfl rfl) rfl ?_
        refine WL.nil ?_
        refine WX.regs (L' := [(0, _), (1, _), (5, _), (7, _), (9, _), (10, _), (11, _), (73, _)]) ?_
        refine WX.next ?_
        refine WC.cond rfl (fun h5 => ?_) (fun h5 => ?_)
        ·
          refine WC.drawnH mo 14 ?_
          refine WA.take (i := 0) rfl (by kernel_rfl) (fun _ _ _ h => h) rfl (op_move (lt_ rfl) rfl) (by repeat (first | exact Takes.nil | exact Take.here | apply Takes.cons | apply Take.there)) ?_
          refine WA.take (i := 1) rfl (by kernel_rfl) (fun _ _ _ h => h) rfl (op_move (lt_ rfl) rfl) (by repeat (first | exact Takes.nil | exact Take.here | apply Takes.cons | apply Take.there)) ?_
          refine WA.take (i := 2) rfl (by kernel_rfl) (fun _ _ _ h => h) rfl (op_move (lt_ rfl) rfl) (by repeat (first | exact Takes.nil | exact Take.here | apply Takes.cons | apply Take.there)) ?_
          refine WA.take (i := 3) rfl (by kernel_rfl) (fun _ _ _ h => h) rfl (op_move (lt_ rfl) rfl) (by repeat (first | exact Takes.nil | exact Take.here | apply Takes.cons | apply Take.there)) ?_
          refine WA.take (i := 4) rfl (by kernel_rfl) (fun _ _ _ h => h) rfl (op_index Try.underlying22 sz42 (lt_ rfl) rfl rfl (by omega) (by omega) (by decide) (by first | (apply Src.rd; (repeat (first | exact List.Mem.head _ | apply List.Mem.tail)); done) | (apply Src.own; (repeat (first | exact List.Mem.head _ | apply List.Mem.tail)); done) | (apply Src.rx; (repeat (first | exact List.Mem.head _ | apply List.Mem.tail)); done))) (by repeat (first | exact Takes.nil | exact Take.here | apply Takes.cons | apply Take.there)) ?_
          refine WA.take (i := 5) rfl (by kernel_rfl) (fun _ _ _ h => h) rfl (op_fieldAddrS fo42_1 (lt_ rfl) rfl (by first | (apply Src.rd; (repeat (first | exact List.Mem.head _ | apply List.Mem.tail)); done) | (apply Src.own; (repeat (first | exact List.Mem.head _ | apply List.Mem.tail)); done) | (apply Src.rx; (repeat (first | exact List.Mem.head _ | apply List.Mem.tail)); done)) (by rw [flat_len (f := OpR.cells) (sz := 4) (fun _ => rfl)]; omega)) (by repeat (first | exact Takes.nil | exact Take.here | apply Takes.cons | apply Take.there)) ?_
          refine WA.take (i := 6) rfl (by kernel_rfl) (fun _ _ _ h => h) rfl (op_loadS fl40 (lt_ rfl) rfl (by first | (apply Src.rd; (repeat (first | exact List.Mem.head _ | apply List.Mem.tail)); done) | (apply Src.own; (repeat (first | exact List.Mem.head _ | apply List.Mem.tail)); done) | (apply Src.rx; (repeat (first | exact List.Mem.head _ | apply List.Mem.tail)); done)) ((row_get (k := 1) (hx _ (by omega)) (by decide)).trans rfl)) (by repeat (first | exact Takes.nil | exact Take.here | apply Takes.cons | apply Take.there)) ?_
          refine WA.take (i := 7) rfl (by kernel_rfl) (fun _ _ _ h => h) rfl (op_move (lt_ rfl) rfl) (by repeat (first | exact Takes.nil | exact Take.here | apply Takes.cons | apply Take.there)) ?_
          refine WA.take (i := 8) rfl (by kernel_rfl) (fun _ _ _ h => h) rfl (op_move (lt_ rfl) rfl) (by repeat (first | exact Takes.nil | exact Take.here | apply Takes.cons | apply Take.there)) ?_
          refine WA.take (i := 9) rfl (by kernel_rfl) (fun _ _ _ h => h) rfl (op_index Try.underlying22 sz42 (lt_ rfl) rfl rfl (by omega) (by omega) (by decide) (by first | (apply Src.rd; (repeat (first | exact List.Mem.head _ | apply List.Mem.tail)); done) | (apply Src.own; (repeat (first | exact List.Mem.head _ | apply List.Mem.tail)); done) | (apply Src.rx; (repeat (first | exact List.Mem.head _ | apply List.Mem.tail)); done))) (by repeat (first | exact Takes.nil | exact Take.here | apply Takes.cons | apply Take.there)) ?_
          refine WA.take (i := 10) rfl (by kernel_rfl) (fun _ _ _ h => h) rfl (op_fieldAddrS fo42_2 (lt_ rfl) rfl (by first | (apply Src.rd; (repeat (first | exact List.Mem.head _ | apply List.Mem.tail)); done) | (apply Src.own; (repeat (first | exact List.Mem.head _ | apply List.Mem.tail)); done) | (apply Src.rx; (repeat (first | exact List.Mem.head _ | apply List.Mem.tail)); done)) (by rw [flat_len (f := OpR.cells) (sz := 4) (fun _ => rfl)]; omega)) (by repeat (first | exact Takes.nil | exact Take.here | apply Takes.cons | apply Take.there)) ?_
          refine WA.take (i := 11) rfl (by kernel_rfl) (fun _ _ _ h => h) rfl (op_loadS fl5 (lt_ rfl) rfl (by first | (apply Src.rd; (repeat (first | exact List.Mem.head _ | apply List.Mem.tail)); done) | (apply Src.own; (repeat (first | exact List.Mem.head _ | apply List.Mem.tail)); done) | (apply Src.rx; (repeat (first | exact List.Mem.head _ | apply List.Mem.tail)); done)) ((row_get (k := 2) (hx _ (by omega)) (by decide)).trans rfl)) (by repeat (first | exact Takes.nil | exact Take.here | apply Takes.cons | apply Take.there)) ?_
          refine WA.stepx (i := 12) (by kernel_rfl) rfl rfl (op_call (f19_spec o.n ho o.b) ca19 (lt_ rfl) rfl) (fun _ r => (by repeat (first | exact Takes.nil | exact Take.here | apply Takes.cons | apply Take.there))) ?_
          rintro bb _
          refine WA.stepv (i := 13) (by kernel_rfl) rfl rfl (op_bytesStr (bs := bytesM o.n o.b) Try.underlying23 Try.underlying5 Try.underlying9 (lt_ rfl) rfl (Src.own (by repeat (first | exact List.Mem.head _ | apply List.Mem.tail)))) (fun _ => (by repeat (first | exact Takes.nil | exact Take.here | apply Takes.cons | apply Take.there))) ?_
          refine WA.stepo (G := []) (i := 14) (by kernel_rfl) rfl rfl (op_mapUpdate Try.underlying37 Try.underlying3 rfl rfl rfl (by repeat (first | exact Take.here | apply Take.there))) (fun h => absurd rfl h) ?_
          refine WA.done (by kernel_rfl) ?_
          refine WX.regs (L' := [(0, _), (1, _), (5, _), (7, _), (9, _), (10, _)]) ?_
          refine WX.in_normal ?_
          refine WX.next ?_
          refine WC.region ?_
          refine wlv (op_move (lt_ rfl) rfl) rfl ?_
          refine wlv (op_add (lt_ rfl) rfl rfl (by omega)) rfl ?_
          refine wlv (op_assign (lt_ rfl) rfl) rfl ?_
          refine WL.nil ?_
          refine WX.regs (L' := [(0, _), (1, _), (5, _), (7, _), (9, _), (10, _)]) ?_
          have hap := hef.app (by omega) (by omega)
          have htp : Told (fput f (J3.first + rs3.length) (bytesM o.n o.b)) J4.first (rs4.map Bs.s) := by have := ht3.put (bytesM o.n o.b); rw [List.length_map] at this; rw [hap.1, hap.2]; exact this
          refine WX.chEq (c := mapC b1 (fun x => if x = J3.first + rs3.length then some (sv (bytesM o.n o.b)) else (f x).map sv)) (mapC b1 (fun x => (fput f (J3.first + rs3.length) (bytesM o.n o.b) x).map sv)) (by repeat (first | exact Take.here | apply Take.there)) (mapC_put ..) ?_
          refine WX.meet ((⟨D4, A4, c4, J4, Aj4, cj4, rs4⟩, i + 1, fput f (J3.first + rs3.length) (bytesM o.n o.b))) ⟨⟨_, _, hs4.up (by simp only []; omega), hl4, by rw [hfi4, hfi3], by simp only []; omega, htp, by simp only []; omega⟩, by simp only []; omega⟩ (fun a w hs => hs.sub (by repeat (first | exact RS.nil | refine RS.cons (by first | rfl | exact congrArg (fun z : Int => some (Value.int .i64 z)) (by omega)) ?_)) (by repeat (first | exact Takes.nil | exact Take.here | apply Takes.cons | apply Take.there)))
        ·
          refine WC.skip ?_
          refine WX.in_normal ?_
          refine WX.next ?_
          refine WC.region ?_
          refine wlv (op_move (lt_ rfl) rfl) rfl ?_
          refine wlv (op_add (lt_ rfl) rfl rfl (by omega)) rfl ?_
          refine wlv (op_assign (lt_ rfl) rfl) rfl ?_
          refine WL.nil ?_
          refine WX.regs (L' := [(0, _), (1, _), (5, _), (7, _), (9, _), (10, _)]) ?_
          obtain ⟨m, hm1, hm2, hm3⟩ := hef.rest (by omega)
          have htd : Told f J4.first (rs4.map Bs.s) := by rw [hm2, hm3]; exact ht3.drop m
          refine WX.meet ((⟨D4, A4, c4, J4, Aj4, cj4, rs4⟩, i + 1, f)) ⟨⟨_, _, hs4.up (by simp only []; omega), hl4, by rw [hfi4, hfi3], by simp only []; omega, htd, by simp only []; omega⟩, by simp only []; omega⟩ (fun a w hs => hs.sub (by repeat (first | exact RS.nil | refine RS.cons (by first | rfl | exact congrArg (fun z : Int => some (Value.int .i64 z)) (by omega)) ?_)) (by repeat (first | exact Takes.nil | exact Take.here | apply Takes.cons | apply Take.there)))
      ·
        refine wlg_no rfl rfl rfl rfl rfl (by decide) ?_
        refine wlg_no rfl rfl rfl rfl rfl (by decide) ?_
        refine wlg_no rfl rfl rfl rfl rfl (by decide) ?_
        refine wlg_no rfl rfl rfl rfl rfl (by decide) ?_
        refine wlg_no rfl rfl rfl rfl rfl (by decide) ?_
        refine wlg_no rfl rfl rfl rfl rfl (by decide) ?_
        refine wlg_no rfl rfl rfl rfl rfl (by decide) ?_
        refine wlv (op_pickF (lt_ rfl) rfl rfl) rfl ?_
        refine WL.nil ?_
        refine WX.regs (L' := [(0, _), (1, _), (5, _), (7, _), (9, _), (10, _), (11, _), (73, _)]) ?_
        refine WX.next ?_
        refine WC.condF rfl ?_
        refine WC.skip ?_
        refine WX.in_normal ?_
        refine WX.next ?_
        refine WC.region ?_
        refine wlv (op_move (lt_ rfl) rfl) rfl ?_
        refine wlv (op_add (lt_ rfl) rfl rfl (by omega)) rfl ?_
        refine wlv (op_assign (lt_ rfl) rfl) rfl ?_
        refine WL.nil ?_
        refine WX.regs (L' := [(0, _), (1, _), (5, _), (7, _), (9, _), (10, _)]) ?_
        obtain ⟨m, hm1, hm2, hm3⟩ := hef.rest (by omega)
        have htd : Told f J4.first (rs4.map Bs.s) := by rw [hm2, hm3]; exact ht3.drop m
        refine WX.meet ((⟨D4, A4, c4, J4, Aj4, cj4, rs4⟩, i + 1, f)) ⟨⟨_, _, hs4.up (by simp only []; omega), hl4, by rw [hfi4, hfi3], by simp only []; omega, htd, by simp only []; omega⟩, by simp only []; omega⟩ (fun a w hs => hs.sub (by repeat (first | exact RS.nil | refine RS.cons (by first | rfl | exact congrArg (fun z : Int => some (Value.int .i64 z)) (by omega)) ?_)) (by repeat (first | exact Takes.nil | exact Take.here | apply Takes.cons | apply Take.there)))
    ·
      refine WC.exit ?_
      refine WX.then_exit ?_
      refine WX.then_exit ?_
      refine WX.in_hit ?_
      refine WX.next ?_
      refine WC.seq ?_
      refine WC.region ?_
      refine wlv (op_move (lt_ rfl) rfl) rfl ?_
      refine wlv (op_move (lt_ rfl) rfl) rfl ?_
      refine wlx (op_call (f13_spec s) ca13 (lt_ rfl) rfl) rfl ?_
      rintro _ _
      refine wlx (op_call (f14_live bd bm A3 c3 D3 J3 hs3 (by omega) (by omega) hl3 3 hfi3) ca14 (lt_ rfl) rfl) rfl ?_
      rintro ⟨⟨D5, A5, c5, J5, Aj5, cj5, rs5⟩, bk, ⟨Ay, cy⟩, ys⟩ ⟨hr5, hx5, hn5, hl5, hp5, hf5, hfi5, hg5, ho5, hs5⟩
      dsimp only at hr5 hx5 hn5 hl5 hp5 hf5 hfi5 hg5 ho5 hs5 ⊢
      have hlen5 : rs5.length = rs3.length := by have := congrArg List.length hr5; simpa using this
      have hlen6 : ys.length = rs3.length := by have := congrArg List.length hx5; simpa using this
      refine wlv (op_move (lt_ rfl) rfl) rfl ?_
      refine wlv (op_extract (lt_ rfl) rfl rfl) rfl ?_
      refine wlv (op_extract (lt_ rfl) rfl rfl) rfl ?_
      refine wlv (op_extract (lt_ rfl) rfl rfl) rfl ?_
      refine wlv (op_assign (lt_ rfl) rfl) rfl ?_
      refine wlv (op_assign (lt_ rfl) rfl) rfl ?_
      refine wlv (op_assign (lt_ rfl) rfl) rfl ?_
      refine WL.nil ?_
      refine WX.regs (L' := [(7, _), (9, _), (13, _), (14, _), (15, _)]) ?_
      refine WX.next ?_
      refine WC.seq ?_
      refine WC.seq ?_
      refine WC.region ?_
      refine wlv (op_move (lt_ rfl) rfl) rfl ?_
      refine wlv (op_neq (lt_ rfl) rfl rfl) rfl ?_
      refine wlv (op_move (lt_ rfl) rfl) rfl ?_
      refine wlgv (op_move (lt_ rfl) rfl) rfl rfl rfl ?_
      refine wlgx (op_call (f18_spec bk bd J5 Aj5 rs5.length cj5) ca18 (lt_ rfl) rfl) rfl rfl rfl ?_
      rintro _ _
      rw [hf5]
      refine wlgv (op_move (lt_ rfl) rfl) rfl rfl rfl ?_
      refine wlgx (op_call (f18_spec bj bd J3 Aj3 rs3.length cj3) ca18 (lt_ rfl) rfl) rfl rfl rfl ?_
      rintro _ _
      refine wlgv (op_neq (lt_ rfl) rfl rfl) rfl rfl rfl ?_
      refine wlv (op_pickF (lt_ rfl) rfl rfl) rfl ?_
      refine wlv (op_move (lt_ rfl) rfl) rfl ?_
      refine WL.split (t := 105) rfl (fun g105 => ?_) (fun g105 => ?_)
      ·
        exact absurd rfl g105
      ·
        refine wlgv (op_move (lt_ rfl) rfl) rfl rfl rfl ?_
        refine wlgx (op_call (f17_spec bk bd J5 Aj5 rs5.length cj5 (by omega)) ca17 (lt_ rfl) rfl) rfl rfl rfl ?_
        rintro _ _
        rw [show J5.first + (rs5.length : Int) = J3.first + (rs3.length : Int) by omega]
        refine wlgv (op_move (lt_ rfl) rfl) rfl rfl rfl ?_
        refine wlgx (op_call (f17_spec bj bd J3 Aj3 rs3.length cj3 (by omega)) ca17 (lt_ rfl) rfl) rfl rfl rfl ?_
        rintro _ _
        refine wlgv (op_neq (lt_ rfl) rfl rfl) rfl rfl rfl ?_
        refine wlv (op_pickF (lt_ rfl) rfl rfl) rfl ?_
        refine wlv (op_move (lt_ rfl) rfl) rfl ?_
        refine WL.split (t := 112) rfl (fun g112 => ?_) (fun g112 => ?_)
        ·
          exact absurd rfl g112
        ·
          refine wlgv (op_move (lt_ rfl) rfl) rfl rfl rfl ?_
          refine wlgv (op_len Try.underlying33 (lt_ rfl) rfl) rfl rfl rfl ?_
          refine wlgv (op_move (lt_ rfl) rfl) rfl rfl rfl ?_
          refine wlgx (op_call (f17_spec bj bd J3 Aj3 rs3.length cj3 (by omega)) ca17 (lt_ rfl) rfl) rfl rfl rfl ?_
          rintro _ _
          refine wlgv (op_move (lt_ rfl) rfl) rfl rfl rfl ?_
          refine wlgx (op_call (f18_spec bj bd J3 Aj3 rs3.length cj3) ca18 (lt_ rfl) rfl) rfl rfl rfl ?_
          rintro _ _
          refine wlgv (op_sub (lt_ rfl) rfl rfl (by omega)) rfl rfl rfl ?_
          refine wlgv (op_neq (lt_ rfl) rfl rfl) rfl rfl rfl ?_
          refine wlv (op_pickF (lt_ rfl) rfl rfl) rfl ?_
          refine WL.nil ?_
          refine WX.regs (L' := [(7, _), (9, _), (14, _), (121, _)]) ?_
          refine WX.next ?_
          refine WC.cond rfl (fun h6 => ?_) (fun h6 => ?_)
          ·
            exact (h6 (by omega)).elim
          ·
            refine WC.skip ?_
            refine WX.next ?_
            refine WC.seq ?_
            refine WC.seq ?_
            refine WC.region ?_
            refine wlv (op_assign (lt_ rfl) rfl) rfl ?_
            refine WL.nil ?_
            refine WX.regs (L' := [(7, _), (9, _), (14, _), (16, _)]) ?_
            refine WX.next ?_
            refine WC.block ?_
            refine WC.loop (X := Nat) (fun q => ys.length - q) (fun q => q ≤ ys.length) (fun q => [(7, .pointer (some ⟨bj, 0, none⟩)), (9, .map (some b1)), (14, .slice Ay ys.length cy), (16, .int .i64 (q : Int))]) (fun q => [blk bj (jcells J3 bd Aj3 rs3.length cj3) 76, own (.slice Ay ys.length cy) 49 2 ys.length (entC J3.first ys), rowsC true ys, mapC b1 (fun x => (f x).map sv), frameC w0 (MutF [])]) (0) (Nat.zero_le _) (fun a w hs => hs.sub (by repeat (first | exact RS.nil | refine RS.cons (by first | rfl | exact congrArg (fun z : Int => some (Value.int .i64 z)) (by omega)) ?_)) (by repeat (first | exact Takes.nil | exact Take.here | apply Takes.cons | apply Take.there))) ?_
            rintro i hi2
            try dsimp only
            refine WC.seq ?_
            refine WC.seq ?_
            refine WC.region ?_
            refine wlv (op_move (lt_ rfl) rfl) rfl ?_
            refine wlv (op_move (lt_ rfl) rfl) rfl ?_
            refine wlv (op_len Try.underlying33 (lt_ rfl) rfl) rfl ?_
            refine wlv (op_lss (lt_ rfl) rfl rfl) rfl ?_
            refine WL.nil ?_
            refine WX.regs (L' := [(7, _), (9, _), (14, _), (16, _), (125, _)]) ?_
            refine WX.next ?_
            refine WC.cond rfl (fun h7 => ?_) (fun h7 => ?_)
            ·
              refine WC.skip ?_
              refine WX.next ?_
              refine WC.seq ?_
              refine WC.block ?_
              refine WC.seq ?_
              refine WC.drawnH mo 999 ?_
              obtain ⟨y, hy⟩ : ∃ r, ys[i]? = some r := ⟨ys[i]'(by omega), List.getElem?_eq_getElem _⟩
              have hye := entC_at hy J3.first
              have hft := ht3 i y.s (by rw [← hx5]; simp [hy])
              refine WA.take (i := 0) rfl (by kernel_rfl) (fun _ _ _ h => h) rfl (op_move (lt_ rfl) rfl) (by repeat (first | exact Takes.nil | exact Take.here | apply Takes.cons | apply Take.there)) ?_
              refine WA.take (i := 1) rfl (by kernel_rfl) (fun _ _ _ h => h) rfl (op_move (lt_ rfl) rfl) (by repeat (first | exact Takes.nil | exact Take.here | apply Takes.cons | apply Take.there)) ?_
              refine WA.take (i := 2) rfl (by kernel_rfl) (fun _ _ _ h => h) rfl (op_index Try.underlying33 sz49 (lt_ rfl) rfl rfl (by omega) (by omega) (by decide) (by first | (apply Src.rd; (repeat (first | exact List.Mem.head _ | apply List.Mem.tail)); done) | (apply Src.own; (repeat (first | exact List.Mem.head _ | apply List.Mem.tail)); done) | (apply Src.rx; (repeat (first | exact List.Mem.head _ | apply List.Mem.tail)); done))) (by repeat (first | exact Takes.nil | exact Take.here | apply Takes.cons | apply Take.there)) ?_
              refine WA.take (i := 3) rfl (by kernel_rfl) (fun _ _ _ h => h) rfl (op_fieldAddrS fo49_0 (lt_ rfl) rfl (by first | (apply Src.rd; (repeat (first | exact List.Mem.head _ | apply List.Mem.tail)); done) | (apply Src.own; (repeat (first | exact List.Mem.head _ | apply List.Mem.tail)); done) | (apply Src.rx; (repeat (first | exact List.Mem.head _ | apply List.Mem.tail)); done)) (by rw [entC_length]; omega)) (by repeat (first | exact Takes.nil | exact Take.here | apply Takes.cons | apply Take.there)) ?_
              refine WA.take (i := 4) rfl (by kernel_rfl) (fun _ _ _ h => h) rfl (op_loadS fl3 (lt_ rfl) rfl (by first | (apply Src.rd; (repeat (first | exact List.Mem.head _ | apply List.Mem.tail)); done) | (apply Src.own; (repeat (first | exact List.Mem.head _ | apply List.Mem.tail)); done) | (apply Src.rx; (repeat (first | exact List.Mem.head _ | apply List.Mem.tail)); done)) (by rw [show ((i : Int)).toNat * 2 + 0 = i * 2 + 0 by omega]; exact hye.1)) (by repeat (first | exact Takes.nil | exact Take.here | apply Takes.cons | apply Take.there)) ?_
              refine WA.take (i := 5) rfl (by kernel_rfl) (fun _ _ _ h => h) rfl (op_move (lt_ rfl) rfl) (by repeat (first | exact Takes.nil | exact Take.here | apply Takes.cons | apply Take.there)) ?_
              refine WA.take (i := 7) rfl (by kernel_rfl) (fun _ _ _ h => h) rfl (op_move (lt_ rfl) rfl) (by repeat (first | exact Takes.nil | exact Take.here | apply Takes.cons | apply Take.there)) ?_
              refine WA.stepx (i := 6) (by kernel_rfl) rfl rfl (op_call (f18_spec bj bd J3 Aj3 rs3.length cj3) ca18 (lt_ rfl) rfl) (fun _ r => (by repeat (first | exact Takes.nil | exact Take.here | apply Takes.cons | apply Take.there))) ?_
              rintro _ _
              refine WA.take (i := 8) rfl (by kernel_rfl) (fun _ _ _ h => h) rfl (op_add (lt_ rfl) rfl rfl (by omega)) (by repeat (first | exact Takes.nil | exact Take.here | apply Takes.cons | apply Take.there)) ?_
              refine WA.take (i := 9) rfl (by kernel_rfl) (fun _ _ _ h => h) rfl (op_neq (lt_ rfl) rfl rfl) (by repeat (first | exact Takes.nil | exact Take.here | apply Takes.cons | apply Take.there)) ?_
              refine WA.take (i := 10) rfl (by kernel_rfl) (fun _ _ _ h => h) rfl (op_move (lt_ rfl) rfl) (by repeat (first | exact Takes.nil | exact Take.here | apply Takes.cons | apply Take.there)) ?_
              refine WA.split (t := 138) rfl (fun g138 => ?_) (fun g138 => ?_)
              ·
                exact absurd rfl g138
              ·
                refine WA.takeG (i := 11) rfl (by kernel_rfl) (fun _ _ _ h => h) rfl rfl rfl (op_move (lt_ rfl) rfl) (by repeat (first | exact Takes.nil | exact Take.here | apply Takes.cons | apply Take.there)) ?_
                refine WA.takeG (i := 12) rfl (by kernel_rfl) (fun _ _ _ h => h) rfl rfl rfl (op_move (lt_ rfl) rfl) (by repeat (first | exact Takes.nil | exact Take.here | apply Takes.cons | apply Take.there)) ?_
                refine WA.takeG (i := 13) rfl (by kernel_rfl) (fun _ _ _ h => h) rfl rfl rfl (op_index Try.underlying33 sz49 (lt_ rfl) rfl rfl (by omega) (by omega) (by decide) (by first | (apply Src.rd; (repeat (first | exact List.Mem.head _ | apply List.Mem.tail)); done) | (apply Src.own; (repeat (first | exact List.Mem.head _ | apply List.Mem.tail)); done) | (apply Src.rx; (repeat (first | exact List.Mem.head _ | apply List.Mem.tail)); done))) (by repeat (first | exact Takes.nil | exact Take.here | apply Takes.cons | apply Take.there)) ?_
                refine WA.takeG (i := 14) rfl (by kernel_rfl) (fun _ _ _ h => h) rfl rfl rfl (op_fieldAddrS fo49_1 (lt_ rfl) rfl (by first | (apply Src.rd; (repeat (first | exact List.Mem.head _ | apply List.Mem.tail)); done) | (apply Src.own; (repeat (first | exact List.Mem.head _ | apply List.Mem.tail)); done) | (apply Src.rx; (repeat (first | exact List.Mem.head _ | apply List.Mem.tail)); done)) (by rw [entC_length]; omega)) (by repeat (first | exact Takes.nil | exact Take.here | apply Takes.cons | apply Take.there)) ?_
                refine WA.takeG (i := 15) rfl (by kernel_rfl) (fun _ _ _ h => h) rfl rfl rfl (op_loadS fl23 (lt_ rfl) rfl (by first | (apply Src.rd; (repeat (first | exact List.Mem.head _ | apply List.Mem.tail)); done) | (apply Src.own; (repeat (first | exact List.Mem.head _ | apply List.Mem.tail)); done) | (apply Src.rx; (repeat (first | exact List.Mem.head _ | apply List.Mem.tail)); done)) (by rw [show ((i : Int)).toNat * 2 + 1 = i * 2 + 1 by omega]; exact hye.2)) (by repeat (first | exact Takes.nil | exact Take.here | apply Takes.cons | apply Take.there)) ?_
                refine WA.takeG (i := 16) rfl (by kernel_rfl) (fun _ _ _ h => h) rfl rfl rfl (op_bytesStr Try.underlying23 Try.underlying5 Try.underlying9 (lt_ rfl) rfl ⟨rowsC true ys, (by repeat (first | exact List.Mem.head _ | apply List.Mem.tail)), rowsC_get (r := y) (List.mem_of_getElem? hy)⟩) (by repeat (first | exact Takes.nil | exact Take.here | apply Takes.cons | apply Take.there)) ?_
                refine WA.takeG (i := 17) rfl (by kernel_rfl) (fun _ _ _ h => h) rfl rfl rfl (op_move (lt_ rfl) rfl) (by repeat (first | exact Takes.nil | exact Take.here | apply Takes.cons | apply Take.there)) ?_
                refine WA.takeG (i := 18) rfl (by kernel_rfl) (fun _ _ _ h => h) rfl rfl rfl (op_move (lt_ rfl) rfl) (by repeat (first | exact Takes.nil | exact Take.here | apply Takes.cons | apply Take.there)) ?_
                refine WA.takeG (i := 19) rfl (by kernel_rfl) (fun _ _ _ h => h) rfl rfl rfl (op_move (lt_ rfl) rfl) (by repeat (first | exact Takes.nil | exact Take.here | apply Takes.cons | apply Take.there)) ?_
                refine WA.takeG (i := 20) rfl (by kernel_rfl) (fun _ _ _ h => h) rfl rfl rfl (op_index Try.underlying33 sz49 (lt_ rfl) rfl rfl (by omega) (by omega) (by decide) (by first | (apply Src.rd; (repeat (first | exact List.Mem.head _ | apply List.Mem.tail)); done) | (apply Src.own; (repeat (first | exact List.Mem.head _ | apply List.Mem.tail)); done) | (apply Src.rx; (repeat (first | exact List.Mem.head _ | apply List.Mem.tail)); done))) (by repeat (first | exact Takes.nil | exact Take.here | apply Takes.cons | apply Take.there)) ?_
                refine WA.takeG (i := 21) rfl (by kernel_rfl) (fun _ _ _ h => h) rfl rfl rfl (op_fieldAddrS fo49_0 (lt_ rfl) rfl (by first | (apply Src.rd; (repeat (first | exact List.Mem.head _ | apply List.Mem.tail)); done) | (apply Src.own; (repeat (first | exact List.Mem.head _ | apply List.Mem.tail)); done) | (apply Src.rx; (repeat (first | exact List.Mem.head _ | apply List.Mem.tail)); done)) (by rw [entC_length]; omega)) (by repeat (first | exact Takes.nil | exact Take.here | apply Takes.cons | apply Take.there)) ?_
                refine WA.takeG (i := 22) rfl (by kernel_rfl) (fun _ _ _ h => h) rfl rfl rfl (op_loadS fl3 (lt_ rfl) rfl (by first | (apply Src.rd; (repeat (first | exact List.Mem.head _ | apply List.Mem.tail)); done) | (apply Src.own; (repeat (first | exact List.Mem.head _ | apply List.Mem.tail)); done) | (apply Src.rx; (repeat (first | exact List.Mem.head _ | apply List.Mem.tail)); done)) (by rw [show ((i : Int)).toNat * 2 + 0 = i * 2 + 0 by omega]; exact hye.1)) (by repeat (first | exact Takes.nil | exact Take.here | apply Takes.cons | apply Take.there)) ?_
                refine WA.takeG (i := 23) rfl (by kernel_rfl) (fun _ _ _ h => h) rfl rfl rfl (op_lookup Try.underlying37 Try.underlying3 zf9 (lt_ rfl) rfl rfl (by repeat (first | exact List.Mem.head _ | apply List.Mem.tail))) (by repeat (first | exact Takes.nil | exact Take.here | apply Takes.cons | apply Take.there)) ?_
                simp only [hft, Option.map_some, Option.getD_some]
                refine WA.takeG (i := 24) rfl (by kernel_rfl) (fun _ _ _ h => h) rfl rfl rfl (op_neqs (lt_ rfl) rfl rfl) (by repeat (first | exact Takes.nil | exact Take.here | apply Takes.cons | apply Take.there)) ?_
                refine WA.take (i := 25) rfl (by kernel_rfl) (fun _ _ _ h => h) rfl (op_pickF (lt_ rfl) rfl rfl) (by repeat (first | exact Takes.nil | exact Take.here | apply Takes.cons | apply Take.there)) ?_
                refine WA.done (by kernel_rfl) ?_
                refine WX.regs (L' := [(7, _), (9, _), (14, _), (16, _), (153, _)]) ?_
                refine WX.next ?_
                refine WC.cond rfl (fun h8 => ?_) (fun h8 => ?_)
                ·
                  exact (h8 rfl).elim
                ·
                  refine WC.skip ?_
                  refine WX.in_normal ?_
                  refine WX.next ?_
                  refine WC.region ?_
                  refine wlv (op_move (lt_ rfl) rfl) rfl ?_
                  refine wlv (op_add (lt_ rfl) rfl rfl (by omega)) rfl ?_
                  refine wlv (op_assign (lt_ rfl) rfl) rfl ?_
                  refine WL.nil ?_
                  refine WX.regs (L' := [(7, _), (9, _), (14, _), (16, _)]) ?_
                  refine WX.meet (i + 1) ⟨by omega, by omega⟩ (fun a w hs => hs.sub (by repeat (first | exact RS.nil | refine RS.cons (by first | rfl | exact congrArg (fun z : Int => some (Value.int .i64 z)) (by omega)) ?_)) (by repeat (first | exact Takes.nil | exact Take.here | apply Takes.cons | apply Take.there)))
            ·
              refine WC.exit ?_
              refine WX.then_exit ?_
              refine WX.then_exit ?_
              refine WX.in_hit ?_
              refine WX.next ?_
              refine WC.seq ?_
              refine WC.region ?_
              refine wlv (op_assign (lt_ rfl) rfl) rfl ?_
              refine WL.nil ?_
              refine WX.regs (L' := [(4, _)]) ?_
              refine WX.next ?_
              refine WC.ret ?_
              exact Fin.ret1 (by first | exact .inl rfl | exact .inr rfl) (_) (rfl) Try.results6 (.tmp rfl) (by repeat (first | exact Takes.nil | exact Take.here | apply Takes.cons | apply Take.there)) (by simp)
end Go.Proofs.Ytkjlbedebmffgaa.Sx

set_option linter.unusedVariables false
set_option linter.unusedSimpArgs false
namespace Go.Proofs.Ytkjlbedebmffgaa.Sx
open Go.RowKit Go.Proofs.Ytkjlbedebmffgaa.Ty
attribute [local irreducible] blk own rd rx frameC

theorem set_fill {l : List UInt8} {i : Nat} {c : UInt8} (hi : i < l.length) (h : ∀ j, j < i → l[j]? = some c) : ∀ j, j < i + 1 → (l.set i c)[j]? = some c := by
  intro j hj
  rw [List.getElem?_set]
  by_cases e : i = j
  · rw [if_pos e, if_pos hi]
  · rw [if_neg e]
    exact h j (by omega)
theorem fill_step {D D' : Dk} {m : Sec} {h256 : m.length = 256} {i : Nat} (h : ∀ a, (D.vis a).s = if 0 ≤ a ∧ a < i then m else Sct.z.s) (hv : ∀ b, D'.vis b = if b = (i : Int) then ⟨m, h256⟩ else D.vis b) : ∀ a, (D'.vis a).s = if 0 ≤ a ∧ a < ((i + 1 : Nat) : Int) then m else Sct.z.s := by
  intro a
  rw [hv]
  by_cases e : a = i
  · rw [if_pos e, if_pos (by omega)]
  · rw [if_neg e, h]
    by_cases k : 0 ≤ a ∧ a < i
    · rw [if_pos k, if_pos (by omega)]
    · rw [if_neg k, if_neg (by omega)]
theorem gof_fill (c : UInt8) : gof (List.replicate 256 c) = none := by
  by_cases hc : c = 0
  · subst hc; exact gof_zero
  · have h1 : (List.replicate 256 c).length = 256 := List.length_replicate ..
    have h2 : fld (List.replicate 256 c) 30 2 = c.toNat * 256 + c.toNat := by
      unfold fld
      rw [List.drop_replicate, List.take_replicate]
      show vl [c, c] = _
      simp [vl]
    have h3 : 1 ≤ c.toNat := by
      rcases Nat.eq_zero_or_pos c.toNat with h | h
      · exact absurd (UInt8.toNat_inj.1 (by rw [h]; rfl)) hc
      · exact h
    have h4 : ¬ (dec (List.replicate 256 c)).2 = 0 := by
      by_cases hs : (sha ((List.replicate 256 c).drop 16)).take 16 = (List.replicate 256 c).take 16
      · rw [dec_len h1 hs (by omega)]; decide
      · rw [dec_sum h1 hs]; decide
    unfold gof
    rw [if_neg h4]
/-- A write on a device that has no limit. -/
theorem f29_live (bd bm : Nat) (A : Option Addr) (c : Nat) (D : Dk) (i : Int) (AX : Option Addr) (m cX : Nat) (x : List UInt8) (hm : x.length = m) (h256 : x.length = 256) (hd : D.down = false) (hl : D.lim = false) (hi : 0 ≤ i ∧ i < D.n) (hmx : D.pend.length ≤ 1000000) :
    Spec Try.prog 29 [.pointer (some ⟨bd, 0, none⟩), .int .i64 i, .slice AX m cX] [blk bd (dcells D bm A c) 66, mapC bm (dmap D.dur), own (.slice A D.pend.length c) 84 257 D.pend.length (D.pend.flatMap wcs)] [rd (.slice AX m cX) 1 m (bvs x)] (R := Dk × Option Addr × Nat)
      (fun q => q.1.down = false ∧ q.1.lim = false ∧ q.1.n = D.n ∧ q.1.dur = D.dur ∧ q.1.pend = D.pend ++ [(i, ⟨x, h256⟩)]) (fun _ => .int .i64 0) (fun q => [blk bd (dcells q.1 bm q.2.1 q.2.2) 66, mapC bm (dmap q.1.dur), own (.slice q.2.1 q.1.pend.length q.2.2) 84 257 q.1.pend.length (q.1.pend.flatMap wcs)]) := by
  have hk := write_keep D i x
  rcases write_cases hd hi h256 with ⟨w1, w2, w3, w4⟩ | ⟨w1, w2, w3, w4⟩
  · refine (f29_spec bd bm A c D i AX m cX x hm hmx).conseq ?_
    rintro ⟨A9, c9⟩ _
    exact ⟨((D.write i x).1, A9, c9), ⟨w2, by rw [w3, hl], hk.1, hk.2.1, w4⟩, by rw [w1], weak_refl _⟩
  · rw [hl] at w4; cases w4
/-- Two journals on one device. -/
structure Two (mark : Sec) (N : Int) (p : Nat) (a b : JP) : Prop where
  sa : ∃ c0 k0, Strong 20 N a.D a.J (a.rs.map Bs.s) c0 k0
  sb : ∃ c0 k0, Strong 21 N a.D b.J (b.rs.map Bs.s) c0 k0
  l : a.D.lim = false
  n : a.D.n = 48
  fa : a.J.fi = 2
  fb : b.J.fi = 23
  p : a.D.pend.length ≤ p
  v : ∀ x, 0 ≤ x → x < 48 → ¬ (2 ≤ x ∧ x < 22 ∨ 23 ≤ x ∧ x < 43) → (a.D.vis x).s = mark
theorem Two.stepA {m : Sec} {N : Int} {p : Nat} {a b a' : JP} (h : Two m N p a b) {es' : List Sec} (hr : a'.rs.map Bs.s = es') (hn : a'.D.n = a.D.n) (hl : a'.D.lim = false) (hp : a'.D.pend.length ≤ a.D.pend.length + 500) (hfi : a'.J.fi = a.J.fi) (ho : Out a.D a'.D a.J.fi (a.J.fi + ((2 * (20 / 2) : Nat) : Int))) (hs : ∃ c1 k1, Strong 20 (N + 1000) a'.D a'.J es' c1 k1) : Two m (N + 1000) (p + 500) a' b := by
  obtain ⟨c1, k1, hs⟩ := hs
  obtain ⟨c2, k2, hb⟩ := h.sb
  have hfa := h.fa
  have hfb := h.fb
  have hpp := h.p
  subst hr
  refine ⟨⟨c1, k1, hs⟩, ⟨c2, k2, (hb.out ho (.inl (by omega)) hn hs.dn).up (by omega)⟩, hl, by rw [hn, h.n], by rw [hfi, hfa], hfb, by omega, fun x h1 h2 h3 => ?_⟩
  rw [(ho x (by omega)).1]
  exact h.v x h1 h2 h3
theorem Two.stepB {m : Sec} {N : Int} {p : Nat} {a b b' : JP} (h : Two m N p a b) {es' : List Sec} (hr : b'.rs.map Bs.s = es') (hn : b'.D.n = a.D.n) (hl : b'.D.lim = false) (hp : b'.D.pend.length ≤ a.D.pend.length + 500) (hfi : b'.J.fi = b.J.fi) (ho : Out a.D b'.D b.J.fi (b.J.fi + ((2 * (21 / 2) : Nat) : Int))) (hs : ∃ c1 k1, Strong 21 (N + 1000) b'.D b'.J es' c1 k1) : Two m (N + 1000) (p + 500) ⟨b'.D, b'.A, b'.c, a.J, a.Aj, a.cj, a.rs⟩ b' := by
  obtain ⟨c1, k1, hs⟩ := hs
  obtain ⟨c2, k2, ha⟩ := h.sa
  have hfa := h.fa
  have hfb := h.fb
  have hpp := h.p
  subst hr
  refine ⟨⟨c2, k2, (ha.out ho (.inr (by omega)) hn hs.dn).up (by omega)⟩, ⟨c1, k1, hs⟩, hl, by simp only []; rw [hn, h.n], hfa, by rw [hfi, hfb], by simp only []; omega, fun x h1 h2 h3 => ?_⟩
  simp only []
  rw [(ho x (by omega)).1]
  exact h.v x h1 h2 h3
theorem Two.up {m : Sec} {N N' : Int} {p p' : Nat} {a b : JP} (h : Two m N p a b) (hN : N ≤ N') (hp : p ≤ p') : Two m N' p' a b := by
  obtain ⟨c1, k1, h1⟩ := h.sa
  obtain ⟨c2, k2, h2⟩ := h.sb
  exact ⟨⟨c1, k1, h1.up hN⟩, ⟨c2, k2, h2.up hN⟩, h.l, h.n, h.fa, h.fb, Nat.le_trans h.p hp, h.v⟩
set_option maxHeartbeats 400000 in
set_option maxRecDepth 10000 in
theorem f7_spec (A B : Option Addr) (M c Mb cb : Nat) (l l2 : List OpR) (hM : l.length = M) (hM2 : l2.length = Mb) (hln : ∀ o ∈ l, o.n < 65536) (hln2 : ∀ o ∈ l2, o.n < 65536) (fill : UInt8) : Spec Try.prog 7 [.slice A M c, .slice B Mb cb, bv fill] [] [rd (.slice A M c) 4 M (l.flatMap OpR.cells), rd (.slice B Mb cb) 4 Mb (l2.flatMap OpR.cells)] (R := Bool) (fun b => b = true) (fun b => .bool b) (fun _ => []) := by
  refine Spec.intro Try.func7 Try.ntmps7 rfl (by simp) (by simp) fun w0 => ?_
  refine WC.seq ?_
  refine WC.region ?_
  refine wlv (op_assign (lt_ rfl) rfl) rfl ?_
  refine WL.nil ?_
  refine WX.regs (L' := [(0, _), (1, _), (2, _)]) ?_
  refine WX.next ?_
  refine WC.seq ?_
  refine WC.seq ?_
  refine WC.region ?_
  refine wlx (op_call (f9_spec) ca9 (lt_ rfl) rfl) rfl ?_
  rintro _ _
  refine wlv (op_not (lt_ rfl) rfl) rfl ?_
  refine wlv (op_move (lt_ rfl) rfl) rfl ?_
  refine wlgv (op_move (lt_ rfl) rfl) rfl rfl rfl ?_
  refine wlgx (op_call (f10_spec A M c l hM) ca10 (lt_ rfl) rfl) rfl rfl rfl ?_
  rintro f1 hf1
  refine wlgv (op_not (lt_ rfl) rfl) rfl rfl rfl ?_
  refine wlv (op_pickF (lt_ rfl) rfl rfl) rfl ?_
  refine wlv (op_move (lt_ rfl) rfl) rfl ?_
  refine WL.splitb (t := 34) rfl (fun g34 => ?_) (fun g34 => ?_)
  ·
    refine wlg_no rfl rfl rfl rfl rfl (by decide) ?_
    refine wlg_no rfl rfl rfl rfl rfl (by decide) ?_
    refine wlg_no rfl rfl rfl rfl rfl (by decide) ?_
    refine wlv (op_pickT (lt_ rfl) rfl rfl) rfl ?_
    refine WL.nil ?_
    refine WX.regs (L' := [(0, _), (1, _), (2, _), (38, _)]) ?_
    refine WX.next ?_
    refine WC.condT rfl ?_
    refine WC.seq ?_
    refine WC.region ?_
    refine wlx (op_call (f9_spec) ca9 (lt_ rfl) rfl) rfl ?_
    rintro _ _
    refine wlv (op_assign (lt_ rfl) rfl) rfl ?_
    refine WL.nil ?_
    refine WX.regs (L' := [(6, _)]) ?_
    refine WX.next ?_
    refine WC.ret ?_
    refine WX.then_ret ?_
    exact Fin.ret1 (by first | exact .inl rfl | exact .inr rfl) (_) (rfl) Try.results7 (.tmp rfl) (by repeat (first | exact Takes.nil | exact Take.here | apply Takes.cons | apply Take.there)) (by simp)
  ·
    refine wlgv (op_move (lt_ rfl) rfl) rfl rfl rfl ?_
    refine wlgx (op_call (f10_spec B Mb cb l2 hM2) ca10 (lt_ rfl) rfl) rfl rfl rfl ?_
    rintro f2 hf2
    refine wlgv (op_not (lt_ rfl) rfl) rfl rfl rfl ?_
    refine wlv (op_pickF (lt_ rfl) rfl rfl) rfl ?_
    refine WL.nil ?_
    refine WX.regs (L' := [(0, _), (1, _), (2, _), (38, _)]) ?_
    refine WX.next ?_
    refine WC.condb rfl (fun h1 => ?_) (fun h1 => ?_)
    ·
      refine WC.seq ?_
      refine WC.region ?_
      refine wlx (op_call (f9_spec) ca9 (lt_ rfl) rfl) rfl ?_
      rintro _ _
      refine wlv (op_assign (lt_ rfl) rfl) rfl ?_
      refine WL.nil ?_
      refine WX.regs (L' := [(6, _)]) ?_
      refine WX.next ?_
      refine WC.ret ?_
      refine WX.then_ret ?_
      exact Fin.ret1 (by first | exact .inl rfl | exact .inr rfl) (_) (rfl) Try.results7 (.tmp rfl) (by repeat (first | exact Takes.nil | exact Take.here | apply Takes.cons | apply Take.there)) (by simp)
    ·
      have hfit1 := hf1.1 (by cases f1 <;> simp_all)
      have hfit2 := hf2.1 (by cases f2 <;> simp_all)
      have hM30 := hfit1.1
      have hM31 := hfit2.1
      refine WC.skip ?_
      refine WX.next ?_
      refine WC.seq ?_
      refine WC.region ?_
      refine wlx (op_call (f11_spec 48 (by omega)) ca11 (lt_ rfl) rfl) rfl ?_
      rintro ⟨bd, bm⟩ _
      refine wlv (op_move (lt_ rfl) rfl) rfl ?_
      refine wlv (op_extract (lt_ rfl) rfl rfl) rfl ?_
      refine wlv (op_extract (lt_ rfl) rfl rfl) rfl ?_
      refine wlv (op_assign (lt_ rfl) rfl) rfl ?_
      refine wlv (op_assign (lt_ rfl) rfl) rfl ?_
      refine WL.nil ?_
      refine WX.regs (L' := [(0, _), (1, _), (2, _), (7, _), (8, _)]) ?_
      refine WX.next ?_
      refine WC.seq ?_
      refine WC.seq ?_
      refine WC.region ?_
      refine wlv (op_move (lt_ rfl) rfl) rfl ?_
      refine wlv (op_neq (lt_ rfl) rfl rfl) rfl ?_
      refine WL.nil ?_
      refine WX.regs (L' := [(0, _), (1, _), (2, _), (7, _), (45, _)]) ?_
      refine WX.next ?_
      refine WC.condF rfl ?_
      refine WC.skip ?_
      refine WX.next ?_
      refine WC.seq ?_
      refine WC.region ?_
      refine wl1 (op_make (z1 := (.int .u8 0)) (sz := 1) (zero := []) Try.underlying23 ti5 (lt_ rfl) rfl rfl (by omega) (by omega) (by omega) (by omega)) rfl fun b1 => ?_
      rw [show ((256 : Int)).toNat = 256 from rfl]
      refine WL.blkEq (b := b1) (bvs (List.replicate 256 0)) (by repeat (first | exact Take.here | apply Take.there)) (bvs_rep0 256) ?_
      refine WL.turn (c := blk b1 (bvs (List.replicate 256 0)) 5) (d := own (.slice (some ⟨b1, 0, none⟩) 256 256) 5 1 256 (bvs (List.replicate 256 0))) (by repeat (first | exact Take.here | apply Take.there)) (own_le_blk (by rw [bvs_length, List.length_replicate]) (small_len (by omega))) ?_
      refine wlv (op_assign (lt_ rfl) rfl) rfl ?_
      refine WL.nil ?_
      refine WX.regs (L' := [(0, _), (1, _), (2, _), (7, _), (9, _)]) ?_
      refine WX.next ?_
      refine WC.seq ?_
      refine WC.seq ?_
      refine WC.region ?_
      refine wlv (op_assign (lt_ rfl) rfl) rfl ?_
      refine WL.nil ?_
      refine WX.regs (L' := [(0, _), (1, _), (2, _), (7, _), (9, _), (10, _)]) ?_
      refine WX.next ?_
      refine WC.block ?_
      refine WC.loop (X := Nat × List UInt8) (fun q => 256 - q.1) (fun q => q.1 ≤ 256 ∧ q.2.length = 256 ∧ ∀ j, j < q.1 → q.2[j]? = some fill) (fun q => [(0, .slice A M c), (1, .slice B Mb cb), (2, bv fill), (7, .pointer (some ⟨bd, 0, none⟩)), (9, .slice (some ⟨b1, 0, none⟩) 256 256), (10, .int .i64 (q.1 : Int))]) (fun q => [own (.slice (some ⟨b1, 0, none⟩) 256 256) 5 1 256 (bvs q.2), blk bd (dcells (Dk.new 48) bm none 0) 66, mapC bm (dmap (Dk.new 48).dur), own (.slice none (Dk.new 48).pend.length 0) 84 257 (Dk.new 48).pend.length ((Dk.new 48).pend.flatMap wcs), rd (.slice A M c) 4 M (l.flatMap OpR.cells), rd (.slice B Mb cb) 4 Mb (l2.flatMap OpR.cells), frameC w0 (MutF [])]) ((0, List.replicate 256 0)) (⟨Nat.zero_le _, List.length_replicate .., fun j h => by omega⟩) (fun a w hs => hs.sub (by repeat (first | exact RS.nil | refine RS.cons (by first | rfl | exact congrArg (fun z : Int => some (Value.int .i64 z)) (by omega)) ?_)) (by repeat (first | exact Takes.nil | exact Take.here | apply Takes.cons | apply Take.there))) ?_
      rintro ⟨i, fl⟩ ⟨hi, hfl, hfa⟩
      try dsimp only at hi hfl hfa ⊢
      refine WC.seq ?_
      refine WC.seq ?_
      refine WC.region ?_
      refine wlv (op_move (lt_ rfl) rfl) rfl ?_
      refine wlv (op_move (lt_ rfl) rfl) rfl ?_
      refine wlv (op_len Try.underlying23 (lt_ rfl) rfl) rfl ?_
      refine wlv (op_lss (lt_ rfl) rfl rfl) rfl ?_
      refine WL.nil ?_
      refine WX.regs (L' := [(0, _), (1, _), (2, _), (7, _), (9, _), (10, _), (50, _)]) ?_
      refine WX.next ?_
      refine WC.cond rfl (fun h3 => ?_) (fun h3 => ?_)
      ·
        refine WC.skip ?_
        refine WX.next ?_
        refine WC.seq ?_
        refine WC.block ?_
        refine WC.region ?_
        refine wlv (op_move (lt_ rfl) rfl) rfl ?_
        refine wlv (op_move (lt_ rfl) rfl) rfl ?_
        refine wlv (op_move (lt_ rfl) rfl) rfl ?_
        refine wlv (op_index Try.underlying23 sz5 (lt_ rfl) rfl rfl (by omega) (by omega) (by decide) (by first | (apply Src.rd; (repeat (first | exact List.Mem.head _ | apply List.Mem.tail)); done) | (apply Src.own; (repeat (first | exact List.Mem.head _ | apply List.Mem.tail)); done) | (apply Src.rx; (repeat (first | exact List.Mem.head _ | apply List.Mem.tail)); done))) rfl ?_
        refine wl (op_storeS sz5 rfl rfl (by repeat (first | exact Take.here | apply Take.there)) rfl rfl (by rw [bvs_length]; omega) (by decide)) rfl ?_
        change WL _ _ _ _ _ _ _
        refine WL.nil ?_
        refine WX.ownEq (v := .slice (some ⟨b1, 0, none⟩) 256 256) (bvs (fl.set i fill)) (by repeat (first | exact Take.here | apply Take.there)) (bvs_put (k := i) (by omega) (by omega)) ?_
        refine WX.regs (L' := [(0, _), (1, _), (2, _), (7, _), (9, _), (10, _)]) ?_
        refine WX.in_normal ?_
        refine WX.next ?_
        refine WC.region ?_
        refine wlv (op_move (lt_ rfl) rfl) rfl ?_
        refine wlv (op_add (lt_ rfl) rfl rfl (by omega)) rfl ?_
        refine wlv (op_assign (lt_ rfl) rfl) rfl ?_
        refine WL.nil ?_
        refine WX.regs (L' := [(0, _), (1, _), (2, _), (7, _), (9, _), (10, _)]) ?_
        refine WX.meet ((i + 1, fl.set i fill)) ⟨⟨by simp only []; omega, by simp only [List.length_set]; exact hfl, set_fill (by omega) hfa⟩, by simp only []; omega⟩ (fun a w hs => hs.sub (by repeat (first | exact RS.nil | refine RS.cons (by first | rfl | exact congrArg (fun z : Int => some (Value.int .i64 z)) (by omega)) ?_)) (by repeat (first | exact Takes.nil | exact Take.here | apply Takes.cons | apply Take.there)))
      ·
        refine WC.exit ?_
        refine WX.then_exit ?_
        refine WX.then_exit ?_
        refine WX.in_hit ?_
        refine WX.next ?_
        refine WC.seq ?_
        refine WC.seq ?_
        refine WC.region ?_
        refine wlv (op_assign (lt_ rfl) rfl) rfl ?_
        refine WL.nil ?_
        refine WX.regs (L' := [(0, _), (1, _), (7, _), (9, _), (11, _)]) ?_
        refine WX.next ?_
        refine WC.block ?_
        have hfe : fl = (List.replicate 256 fill) := by
          apply List.ext_getElem?
          intro j
          by_cases hj : j < 256
          · rw [hfa j (by omega), List.getElem?_replicate, if_pos hj]
          · rw [List.getElem?_eq_none (by omega), List.getElem?_eq_none (by rw [List.length_replicate]; omega)]
        rw [hfe]
        refine WC.loop (X := Dk × (Option Addr × Nat) × Nat) (fun q => 48 - q.2.2) (fun q => q.1.down = false ∧ q.1.lim = false ∧ q.1.n = 48 ∧ q.1.pend.length = q.2.2 ∧ q.2.2 ≤ 48 ∧ ∀ a, (q.1.vis a).s = if 0 ≤ a ∧ a < q.2.2 then (List.replicate 256 fill) else Sct.z.s) (fun q => [(0, .slice A M c), (1, .slice B Mb cb), (7, .pointer (some ⟨bd, 0, none⟩)), (9, .slice (some ⟨b1, 0, none⟩) 256 256), (11, .int .i64 (q.2.2 : Int))]) (fun q => [own (.slice (some ⟨b1, 0, none⟩) 256 256) 5 1 256 (bvs (List.replicate 256 fill)), blk bd (dcells q.1 bm q.2.1.1 q.2.1.2) 66, mapC bm (dmap q.1.dur), own (.slice q.2.1.1 q.1.pend.length q.2.1.2) 84 257 q.1.pend.length (q.1.pend.flatMap wcs), rd (.slice A M c) 4 M (l.flatMap OpR.cells), rd (.slice B Mb cb) 4 Mb (l2.flatMap OpR.cells), frameC w0 (MutF [])]) ((Dk.new 48, (none, 0), 0)) (⟨rfl, rfl, rfl, rfl, Nat.zero_le _, fun a => by rw [if_neg (by simp only []; omega)]; rfl⟩) (fun a w hs => hs.sub (by repeat (first | exact RS.nil | refine RS.cons (by first | rfl | exact congrArg (fun z : Int => some (Value.int .i64 z)) (by omega)) ?_)) (by repeat (first | exact Takes.nil | exact Take.here | apply Takes.cons | apply Take.there))) ?_
        rintro ⟨D9, ⟨A9, c9⟩, i⟩ ⟨hd9, hl9, hn9, hp9, hi9, hv9⟩
        try dsimp only at hd9 hl9 hn9 hp9 hi9 hv9 ⊢
        refine WC.seq ?_
        refine WC.seq ?_
        refine WC.region ?_
        refine wlv (op_move (lt_ rfl) rfl) rfl ?_
        refine wlv (op_lss (lt_ rfl) rfl rfl) rfl ?_
        refine WL.nil ?_
        refine WX.regs (L' := [(0, _), (1, _), (7, _), (9, _), (11, _), (58, _)]) ?_
        refine WX.next ?_
        refine WC.cond rfl (fun h4 => ?_) (fun h4 => ?_)
        ·
          refine WC.skip ?_
          refine WX.next ?_
          refine WC.seq ?_
          refine WC.block ?_
          refine WC.seq ?_
          refine WC.region ?_
          refine wlv (op_move (lt_ rfl) rfl) rfl ?_
          refine wlv (op_move (lt_ rfl) rfl) rfl ?_
          refine wlv (op_move (lt_ rfl) rfl) rfl ?_
          refine wlx (op_call (f29_live bd bm A9 c9 D9 (i : Int) (some ⟨b1, 0, none⟩) 256 256 (List.replicate 256 fill) (List.length_replicate ..) (List.length_replicate ..) hd9 hl9 (by omega) (by omega)) ca29 (lt_ rfl) rfl) rfl ?_
          rintro ⟨D8, A8, c8⟩ ⟨hd8, hl8, hn8, hu8, hp8⟩
          refine wlv (op_neq (lt_ rfl) rfl rfl) rfl ?_
          refine WL.nil ?_
          refine WX.regs (L' := [(0, _), (1, _), (7, _), (9, _), (11, _), (65, _)]) ?_
          refine WX.next ?_
          refine WC.condF rfl ?_
          refine WC.skip ?_
          refine WX.in_normal ?_
          refine WX.next ?_
          refine WC.region ?_
          refine wlv (op_move (lt_ rfl) rfl) rfl ?_
          refine wlv (op_add (lt_ rfl) rfl rfl (by omega)) rfl ?_
          refine wlv (op_assign (lt_ rfl) rfl) rfl ?_
          refine WL.nil ?_
          refine WX.regs (L' := [(0, _), (1, _), (7, _), (9, _), (11, _)]) ?_
          refine WX.meet ((D8, (A8, c8), i + 1)) ⟨⟨hd8, hl8, by rw [hn8, hn9], by rw [hp8, List.length_append, hp9]; rfl, by simp only []; omega, fill_step hv9 (vis_put hu8 hp8)⟩, by simp only []; omega⟩ (fun a w hs => hs.sub (by repeat (first | exact RS.nil | refine RS.cons (by first | rfl | exact congrArg (fun z : Int => some (Value.int .i64 z)) (by omega)) ?_)) (by repeat (first | exact Takes.nil | exact Take.here | apply Takes.cons | apply Take.there)))
        ·
          refine WC.exit ?_
          refine WX.then_exit ?_
          refine WX.then_exit ?_
          refine WX.in_hit ?_
          refine WX.next ?_
          refine WC.seq ?_
          refine WC.seq ?_
          refine WC.region ?_
          have hvn : ∀ a, gof (D9.vis a).s = none := by
            intro a
            rw [hv9]
            split
            · exact gof_fill fill
            · exact gof_zero
          refine wlv (op_move (lt_ rfl) rfl) rfl ?_
          refine wlx (op_call (f12_new bd bm A9 c9 D9 2 20 (by omega) (by omega) (by rw [hn9]; decide) (by rw [hn9]; decide) hd9 hl9 (fun a _ _ => hvn a) (by omega)) ca12 (lt_ rfl) rfl) rfl ?_
          rintro ⟨D1, A1, c1⟩ ⟨hn1, hl1, hp1, ho1, J1, hj1, hj2, hj3, hs1⟩
          refine wlv (op_neq (lt_ rfl) rfl rfl) rfl ?_
          refine wlv (op_move (lt_ rfl) rfl) rfl ?_
          refine wlgv (op_move (lt_ rfl) rfl) rfl rfl rfl ?_
          refine wlgx (op_call (f12_new bd bm A1 c1 D1 23 21 (by omega) (by omega) (by rw [hn1, hn9]; decide) (by rw [hn1, hn9]; decide) hs1.dn hl1 (fun a h1 h2 => by rw [(ho1 a (.inr (by omega))).1]; exact hvn a) (by rw [hp1]; decide)) ca12 (lt_ rfl) rfl) rfl rfl rfl ?_
          rintro ⟨D2, A2, c2⟩ ⟨hn2, hl2, hp2, ho2, J2, hk1, hk2, hk3, hs2⟩
          have hs1b : Strong 20 10 D2 J1 [] 0 0 := hs1.out ho2 (.inr (by rw [hj1]; decide)) hn2 hs2.dn
          refine wlgv (op_neq (lt_ rfl) rfl rfl) rfl rfl rfl ?_
          refine wlv (op_pickF (lt_ rfl) rfl rfl) rfl ?_
          refine WL.nil ?_
          refine WX.regs (L' := [(0, _), (1, _), (7, _), (9, _), (73, _)]) ?_
          refine WX.next ?_
          refine WC.condF rfl ?_
          refine WC.skip ?_
          refine WX.next ?_
          refine WC.seq ?_
          refine WC.region ?_
          refine wlv (op_move (lt_ rfl) rfl) rfl ?_
          refine wlx (op_call (f14_live bd bm A2 c2 D2 J1 hs1b (by omega) (by rw [hp2]; decide) hl2 2 hj1) ca14 (lt_ rfl) rfl) rfl ?_
          rintro ⟨⟨D3, A3, c3, J3, Aj3, cj3, rs3⟩, ba, ⟨Ax, cx⟩, xs⟩ ⟨hr3, hx3, hn3, hl3, hp3, hf3, hfi3, hg3, ho3, hs3⟩
          dsimp only at hr3 hx3 hn3 hl3 hp3 hf3 hfi3 hg3 ho3 hs3 ⊢
          have hs2b : Strong 21 10 D3 J2 [] 0 0 := hs2.out ho3 (.inl (by rw [hj1, hk1]; decide)) hn3 hs3.dn
          refine wlv (op_move (lt_ rfl) rfl) rfl ?_
          refine wlv (op_extract (lt_ rfl) rfl rfl) rfl ?_
          refine wlv (op_extract (lt_ rfl) rfl rfl) rfl ?_
          refine wlv (op_extract (lt_ rfl) rfl rfl) rfl ?_
          refine wlv (op_assign (lt_ rfl) rfl) rfl ?_
          refine wlv (op_assign (lt_ rfl) rfl) rfl ?_
          refine wlv (op_assign (lt_ rfl) rfl) rfl ?_
          refine WL.nil ?_
          refine WX.regs (L' := [(0, _), (1, _), (7, _), (8, _), (9, _), (12, _)]) ?_
          refine WX.next ?_
          refine WC.seq ?_
          refine WC.region ?_
          refine wlv (op_move (lt_ rfl) rfl) rfl ?_
          refine wlx (op_call (f14_live bd bm A3 c3 D3 J2 hs2b (by omega) (by rw [hp3]; decide) hl3 23 hk1) ca14 (lt_ rfl) rfl) rfl ?_
          rintro ⟨⟨D4, A4, c4, J4, Aj4, cj4, rs4⟩, bb, ⟨Ay, cy⟩, ys⟩ ⟨hr4, hx4, hn4, hl4, hp4, hf4, hfi4, hg4, ho4, hs4⟩
          dsimp only at hr4 hx4 hn4 hl4 hp4 hf4 hfi4 hg4 ho4 hs4 ⊢
          have hs3b := hs3.out ho4 (.inr (by rw [hfi3, hj1, hk1]; decide)) hn4 hs4.dn
          refine wlv (op_move (lt_ rfl) rfl) rfl ?_
          refine wlv (op_extract (lt_ rfl) rfl rfl) rfl ?_
          refine wlv (op_extract (lt_ rfl) rfl rfl) rfl ?_
          refine wlv (op_extract (lt_ rfl) rfl rfl) rfl ?_
          refine wlv (op_assign (lt_ rfl) rfl) rfl ?_
          refine wlv (op_assign (lt_ rfl) rfl) rfl ?_
          refine wlv (op_assign (lt_ rfl) rfl) rfl ?_
          refine WL.nil ?_
          refine WX.regs (L' := [(0, _), (1, _), (7, _), (8, _), (9, _), (12, _), (14, _), (16, _)]) ?_
          refine WX.next ?_
          refine WC.seq ?_
          refine WC.seq ?_
          refine WC.region ?_
          refine wlv (op_move (lt_ rfl) rfl) rfl ?_
          refine wlv (op_neq (lt_ rfl) rfl rfl) rfl ?_
          refine wlv (op_move (lt_ rfl) rfl) rfl ?_
          refine wlgv (op_move (lt_ rfl) rfl) rfl rfl rfl ?_
          refine wlgv (op_neq (lt_ rfl) rfl rfl) rfl rfl rfl ?_
          refine wlv (op_pickF (lt_ rfl) rfl rfl) rfl ?_
          refine WL.nil ?_
          refine WX.regs (L' := [(0, _), (1, _), (7, _), (9, _), (12, _), (14, _), (91, _)]) ?_
          refine WX.next ?_
          refine WC.condF rfl ?_
          refine WC.skip ?_
          refine WX.next ?_
          refine WC.seq ?_
          refine WC.seq ?_
          refine WC.region ?_
          refine wlv (op_assign (lt_ rfl) rfl) rfl ?_
          refine WL.nil ?_
          refine WX.regs (L' := [(0, _), (1, _), (7, _), (9, _), (12, _), (14, _), (17, _)]) ?_
          refine WX.next ?_
          refine WC.block ?_
          have hvm : ∀ x : Int, 0 ≤ x → x < 48 → ¬ (2 ≤ x ∧ x < 22 ∨ 23 ≤ x ∧ x < 43) → (D4.vis x).s = (List.replicate 256 fill) := by
            intro x h1 h2 h3
            rw [(ho4 x (by omega)).1, (ho3 x (by omega)).1, (ho2 x (by omega)).1, (ho1 x (by omega)).1, hv9, if_pos (by omega)]
          refine WC.loop (X := JP × JP × Nat) (fun q => 31 - q.2.2) (fun q => Two (List.replicate 256 fill) (1010 + 2000 * q.2.2) (1000 * q.2.2) q.1 q.2.1 ∧ q.2.2 ≤ 30) (fun q => [(0, .slice A M c), (1, .slice B Mb cb), (7, .pointer (some ⟨bd, 0, none⟩)), (9, .slice (some ⟨b1, 0, none⟩) 256 256), (12, .pointer (some ⟨ba, 0, none⟩)), (14, .pointer (some ⟨bb, 0, none⟩)), (17, .int .i64 (q.2.2 : Int))]) (fun q => [blk bd (dcells q.1.D bm q.1.A q.1.c) 66, mapC bm (dmap q.1.D.dur), own (.slice q.1.A q.1.D.pend.length q.1.c) 84 257 q.1.D.pend.length (q.1.D.pend.flatMap wcs), blk ba (jcells q.1.J bd q.1.Aj q.1.rs.length q.1.cj) 76, own (.slice q.1.Aj q.1.rs.length q.1.cj) 23 1 q.1.rs.length (q.1.rs.map Bs.v), rowsC true q.1.rs, blk bb (jcells q.2.1.J bd q.2.1.Aj q.2.1.rs.length q.2.1.cj) 76, own (.slice q.2.1.Aj q.2.1.rs.length q.2.1.cj) 23 1 q.2.1.rs.length (q.2.1.rs.map Bs.v), rowsC true q.2.1.rs, own (.slice (some ⟨b1, 0, none⟩) 256 256) 5 1 256 (bvs (List.replicate 256 fill)), rd (.slice A M c) 4 M (l.flatMap OpR.cells), rd (.slice B Mb cb) 4 Mb (l2.flatMap OpR.cells), frameC w0 (MutF [])]) ((⟨D4, A4, c4, J3, Aj3, cj3, rs3⟩, ⟨D4, A4, c4, J4, Aj4, cj4, rs4⟩, 0)) (⟨⟨⟨_, _, by rw [hr3]; exact hs3b⟩, ⟨_, _, by rw [hr4]; exact hs4.up (by simp only []; omega)⟩, hl4, by show D4.n = 48; rw [hn4, hn3, hn2, hn1, hn9], by simp only []; omega, by simp only []; omega, by simp only []; rw [hp4]; exact Nat.zero_le _, hvm⟩, Nat.zero_le _⟩) (fun a w hs => hs.sub (by repeat (first | exact RS.nil | refine RS.cons (by first | rfl | exact congrArg (fun z : Int => some (Value.int .i64 z)) (by omega)) ?_)) (by repeat (first | exact Takes.nil | exact Take.here | apply Takes.cons | apply Take.there))) ?_
          rintro ⟨⟨D5, A5, c5, J5, Aj5, cj5, rs5⟩, ⟨D5b, A5b, c5b, J6, Aj6, cj6, rs6⟩, i⟩ ⟨ht, hi30⟩
          try dsimp only at ht hi30 ⊢
          obtain ⟨c0, k0, hsa⟩ := ht.sa
          obtain ⟨c0b, k0b, hsb⟩ := ht.sb
          have hla := ht.l
          have hna := ht.n
          have hfa := ht.fa
          have hfb := ht.fb
          have hpa := ht.p
          dsimp only at hsa hsb hla hna hfa hfb hpa
          have hga := hsa.geo.fb
          have hgb := hsb.geo.fb
          have hea := hsa.fit
          have heb := hsb.fit
          have hna1 := needs_le (rs5.map Bs.s)
          have hnb1 := needs_le (rs6.map Bs.s)
          rw [List.length_map] at hna1 hnb1
          refine WC.seq ?_
          refine WC.seq ?_
          refine WC.region ?_
          refine wlv (op_move (lt_ rfl) rfl) rfl ?_
          refine wlv (op_move (lt_ rfl) rfl) rfl ?_
          refine wlv (op_len Try.underlying22 (lt_ rfl) rfl) rfl ?_
          refine wlv (op_lss (lt_ rfl) rfl rfl) rfl ?_
          refine wlv (op_move (lt_ rfl) rfl) rfl ?_
          refine WL.split (t := 96) rfl (fun g96 => ?_) (fun g96 => ?_)
          ·
            refine wlg_no rfl rfl rfl rfl rfl (by decide) ?_
            refine wlg_no rfl rfl rfl rfl rfl (by decide) ?_
            refine wlg_no rfl rfl rfl rfl rfl (by decide) ?_
            refine wlg_no rfl rfl rfl rfl rfl (by decide) ?_
            refine wlv (op_pickT (lt_ rfl) rfl rfl) rfl ?_
            refine WL.nil ?_
            refine WX.regs (L' := [(0, _), (1, _), (7, _), (9, _), (12, _), (14, _), (17, _), (101, _)]) ?_
            refine WX.next ?_
            refine WC.condT rfl ?_
            refine WC.skip ?_
            refine WX.next ?_
            refine WC.seq ?_
            refine WC.block ?_
            refine WC.cut (X := JP) (fun q => Two (List.replicate 256 fill) (1010 + 2000 * i + 1000) (1000 * i + 500) q ⟨D5b, A5b, c5b, J6, Aj6, cj6, rs6⟩) (fun q => [(0, .slice A M c), (1, .slice B Mb cb), (7, .pointer (some ⟨bd, 0, none⟩)), (9, .slice (some ⟨b1, 0, none⟩) 256 256), (12, .pointer (some ⟨ba, 0, none⟩)), (14, .pointer (some ⟨bb, 0, none⟩)), (17, .int .i64 (i : Int))]) (fun q => [blk bd (dcells q.D bm q.A q.c) 66, mapC bm (dmap q.D.dur), own (.slice q.A q.D.pend.length q.c) 84 257 q.D.pend.length (q.D.pend.flatMap wcs), blk ba (jcells q.J bd q.Aj q.rs.length q.cj) 76, own (.slice q.Aj q.rs.length q.cj) 23 1 q.rs.length (q.rs.map Bs.v), rowsC true q.rs, blk bb (jcells (⟨D5b, A5b, c5b, J6, Aj6, cj6, rs6⟩ : JP).J bd (⟨D5b, A5b, c5b, J6, Aj6, cj6, rs6⟩ : JP).Aj (⟨D5b, A5b, c5b, J6, Aj6, cj6, rs6⟩ : JP).rs.length (⟨D5b, A5b, c5b, J6, Aj6, cj6, rs6⟩ : JP).cj) 76, own (.slice (⟨D5b, A5b, c5b, J6, Aj6, cj6, rs6⟩ : JP).Aj (⟨D5b, A5b, c5b, J6, Aj6, cj6, rs6⟩ : JP).rs.length (⟨D5b, A5b, c5b, J6, Aj6, cj6, rs6⟩ : JP).cj) 23 1 (⟨D5b, A5b, c5b, J6, Aj6, cj6, rs6⟩ : JP).rs.length ((⟨D5b, A5b, c5b, J6, Aj6, cj6, rs6⟩ : JP).rs.map Bs.v), rowsC true (⟨D5b, A5b, c5b, J6, Aj6, cj6, rs6⟩ : JP).rs, own (.slice (some ⟨b1, 0, none⟩) 256 256) 5 1 256 (bvs (List.replicate 256 fill)), rd (.slice A M c) 4 M (l.flatMap OpR.cells), rd (.slice B Mb cb) 4 Mb (l2.flatMap OpR.cells), frameC w0 (MutF [])]) ?_ ?_
            ·
              refine WC.seq ?_
              refine WC.region ?_
              refine wlv (op_move (lt_ rfl) rfl) rfl ?_
              refine wlv (op_move (lt_ rfl) rfl) rfl ?_
              refine wlv (op_len Try.underlying22 (lt_ rfl) rfl) rfl ?_
              refine wlv (op_lss (lt_ rfl) rfl rfl) rfl ?_
              refine WL.nil ?_
              refine WX.regs (L' := [(0, _), (1, _), (7, _), (9, _), (12, _), (14, _), (17, _), (107, _)]) ?_
              refine WX.next ?_
              refine WC.cond rfl (fun h9 => ?_) (fun h9 => ?_)
              ·
                refine WC.region ?_
                refine wlv (op_move (lt_ rfl) rfl) rfl ?_
                refine wlv (op_move (lt_ rfl) rfl) rfl ?_
                obtain ⟨o, hoo⟩ : ∃ r, l[i]? = some r := ⟨l[i]'(by omega), List.getElem?_eq_getElem _⟩
                have ho := hln o (List.mem_of_getElem? hoo)
                have hx : ∀ j, j = i * 4 → ((l.flatMap OpR.cells).drop j).take 4 = o.cells := fun j hj => by rw [hj]; exact flat_at (f := OpR.cells) (sz := 4) (fun _ => rfl) l i o hoo
                refine wlv (op_move (lt_ rfl) rfl) rfl ?_
                refine wlv (op_index Try.underlying22 sz42 (lt_ rfl) rfl rfl (by omega) (by omega) (by decide) (by first | (apply Src.rd; (repeat (first | exact List.Mem.head _ | apply List.Mem.tail)); done) | (apply Src.own; (repeat (first | exact List.Mem.head _ | apply List.Mem.tail)); done) | (apply Src.rx; (repeat (first | exact List.Mem.head _ | apply List.Mem.tail)); done))) rfl ?_
                refine wlv (op_loadSN ag42 (lt_ rfl) rfl (by first | (apply Src.rd; (repeat (first | exact List.Mem.head _ | apply List.Mem.tail)); done) | (apply Src.own; (repeat (first | exact List.Mem.head _ | apply List.Mem.tail)); done) | (apply Src.rx; (repeat (first | exact List.Mem.head _ | apply List.Mem.tail)); done)) (by rw [hx _ (by omega)]; rfl) (by decide)) rfl ?_
                rw [hx _ (by omega)]
                refine wlx (op_call (f20_live bd bm ba A5 c5 D5 J5 Aj5 cj5 rs5 hsa rfl (by omega) (by omega) hla o ho) ca20 (lt_ rfl) rfl) rfl ?_
                rintro ⟨⟨D7, A7, c7, J7, Aj7, cj7, rs7⟩, e7⟩ ⟨es7, hr7, hn7, hl7, hp7, hfi7, ho7, ⟨k7, k7b, hs7⟩, hef7⟩
                dsimp only at hr7 hn7 hl7 hp7 hfi7 ho7 hs7 hef7 ⊢
                skip
                refine WL.nil ?_
                refine WX.regs (L' := [(0, _), (1, _), (7, _), (9, _), (12, _), (14, _), (17, _)]) ?_
                refine WX.meet (⟨D7, A7, c7, J7, Aj7, cj7, rs7⟩) (ht.stepA (a' := ⟨D7, A7, c7, J7, Aj7, cj7, rs7⟩) hr7 hn7 hl7 hp7 hfi7 ho7 ⟨_, _, hs7⟩) (fun a w hs => hs.sub (by repeat (first | exact RS.nil | refine RS.cons (by first | rfl | exact congrArg (fun z : Int => some (Value.int .i64 z)) (by omega)) ?_)) (by repeat (first | exact Takes.nil | exact Take.here | apply Takes.cons | apply Take.there)))
              ·
                refine WC.skip ?_
                refine WX.meet (⟨D5, A5, c5, J5, Aj5, cj5, rs5⟩) (ht.up (by omega) (by omega)) (fun a w hs => hs.sub (by repeat (first | exact RS.nil | refine RS.cons (by first | rfl | exact congrArg (fun z : Int => some (Value.int .i64 z)) (by omega)) ?_)) (by repeat (first | exact Takes.nil | exact Take.here | apply Takes.cons | apply Take.there)))
            · rintro ⟨D8, A8, c8, J8, Aj8, cj8, rs8⟩ ht8
              try dsimp only at ht8 ⊢
              obtain ⟨c8a, k8a, hs8a⟩ := ht8.sa
              obtain ⟨c8b, k8b, hs8b⟩ := ht8.sb
              have hl8a := ht8.l
              have hp8a := ht8.p
              dsimp only at hs8a hs8b hl8a hp8a
              refine WC.seq ?_
              refine WC.region ?_
              refine wlv (op_move (lt_ rfl) rfl) rfl ?_
              refine wlv (op_move (lt_ rfl) rfl) rfl ?_
              refine wlv (op_len Try.underlying22 (lt_ rfl) rfl) rfl ?_
              refine wlv (op_lss (lt_ rfl) rfl rfl) rfl ?_
              refine WL.nil ?_
              refine WX.regs (L' := [(0, _), (1, _), (7, _), (9, _), (12, _), (14, _), (17, _), (117, _)]) ?_
              refine WX.next ?_
              refine WC.cond rfl (fun h10 => ?_) (fun h10 => ?_)
              ·
                refine WC.region ?_
                refine wlv (op_move (lt_ rfl) rfl) rfl ?_
                refine wlv (op_move (lt_ rfl) rfl) rfl ?_
                obtain ⟨o, hoo⟩ : ∃ r, l2[i]? = some r := ⟨l2[i]'(by omega), List.getElem?_eq_getElem _⟩
                have ho := hln2 o (List.mem_of_getElem? hoo)
                have hx : ∀ j, j = i * 4 → ((l2.flatMap OpR.cells).drop j).take 4 = o.cells := fun j hj => by rw [hj]; exact flat_at (f := OpR.cells) (sz := 4) (fun _ => rfl) l2 i o hoo
                refine wlv (op_move (lt_ rfl) rfl) rfl ?_
                refine wlv (op_index Try.underlying22 sz42 (lt_ rfl) rfl rfl (by omega) (by omega) (by decide) (by first | (apply Src.rd; (repeat (first | exact List.Mem.head _ | apply List.Mem.tail)); done) | (apply Src.own; (repeat (first | exact List.Mem.head _ | apply List.Mem.tail)); done) | (apply Src.rx; (repeat (first | exact List.Mem.head _ | apply List.Mem.tail)); done))) rfl ?_
                refine wlv (op_loadSN ag42 (lt_ rfl) rfl (by first | (apply Src.rd; (repeat (first | exact List.Mem.head _ | apply List.Mem.tail)); done) | (apply Src.own; (repeat (first | exact List.Mem.head _ | apply List.Mem.tail)); done) | (apply Src.rx; (repeat (first | exact List.Mem.head _ | apply List.Mem.tail)); done)) (by rw [hx _ (by omega)]; rfl) (by decide)) rfl ?_
                rw [hx _ (by omega)]
                refine wlx (op_call (f20_live bd bm bb A8 c8 D8 J6 Aj6 cj6 rs6 hs8b rfl (by omega) (by omega) hl8a o ho) ca20 (lt_ rfl) rfl) rfl ?_
                rintro ⟨⟨D9, A9, c9, J9, Aj9, cj9, rs9⟩, e9⟩ ⟨es9, hr9, hn9b, hl9b, hp9b, hfi9, ho9, ⟨k9, k9b, hs9⟩, hef9⟩
                dsimp only at hr9 hn9b hl9b hp9b hfi9 ho9 hs9 hef9 ⊢
                refine WL.nil ?_
                refine WX.regs (L' := [(0, _), (1, _), (7, _), (9, _), (12, _), (14, _), (17, _)]) ?_
                refine WX.in_normal ?_
                refine WX.next ?_
                refine WC.region ?_
                refine wlv (op_move (lt_ rfl) rfl) rfl ?_
                refine wlv (op_add (lt_ rfl) rfl rfl (by omega)) rfl ?_
                refine wlv (op_assign (lt_ rfl) rfl) rfl ?_
                refine WL.nil ?_
                refine WX.regs (L' := [(0, _), (1, _), (7, _), (9, _), (12, _), (14, _), (17, _)]) ?_
                refine WX.meet ((⟨D9, A9, c9, J8, Aj8, cj8, rs8⟩, ⟨D9, A9, c9, J9, Aj9, cj9, rs9⟩, i + 1)) ⟨⟨(ht8.stepB (b' := ⟨D9, A9, c9, J9, Aj9, cj9, rs9⟩) hr9 hn9b hl9b hp9b hfi9 ho9 ⟨_, _, hs9⟩).up (by simp only []; omega) (by simp only []; omega), by simp only []; omega⟩, by simp only []; omega⟩ (fun a w hs => hs.sub (by repeat (first | exact RS.nil | refine RS.cons (by first | rfl | exact congrArg (fun z : Int => some (Value.int .i64 z)) (by omega)) ?_)) (by repeat (first | exact Takes.nil | exact Take.here | apply Takes.cons | apply Take.there)))
              ·
                refine WC.skip ?_
                refine WX.in_normal ?_
                refine WX.next ?_
                refine WC.region ?_
                refine wlv (op_move (lt_ rfl) rfl) rfl ?_
                refine wlv (op_add (lt_ rfl) rfl rfl (by omega)) rfl ?_
                refine wlv (op_assign (lt_ rfl) rfl) rfl ?_
                refine WL.nil ?_
                refine WX.regs (L' := [(0, _), (1, _), (7, _), (9, _), (12, _), (14, _), (17, _)]) ?_
                refine WX.meet ((⟨D8, A8, c8, J8, Aj8, cj8, rs8⟩, ⟨D5b, A5b, c5b, J6, Aj6, cj6, rs6⟩, i + 1)) ⟨⟨ht8.up (by simp only []; omega) (by simp only []; omega), by simp only []; omega⟩, by simp only []; omega⟩ (fun a w hs => hs.sub (by repeat (first | exact RS.nil | refine RS.cons (by first | rfl | exact congrArg (fun z : Int => some (Value.int .i64 z)) (by omega)) ?_)) (by repeat (first | exact Takes.nil | exact Take.here | apply Takes.cons | apply Take.there)))
          ·
            refine wlgv (op_move (lt_ rfl) rfl) rfl rfl rfl ?_
            refine wlgv (op_move (lt_ rfl) rfl) rfl rfl rfl ?_
            refine wlgv (op_len Try.underlying22 (lt_ rfl) rfl) rfl rfl rfl ?_
            refine wlgv (op_lss (lt_ rfl) rfl rfl) rfl rfl rfl ?_
            refine wlv (op_pickF (lt_ rfl) rfl rfl) rfl ?_
            refine WL.nil ?_
            refine WX.regs (L' := [(0, _), (1, _), (7, _), (9, _), (12, _), (14, _), (17, _), (101, _)]) ?_
            refine WX.next ?_
            refine WC.cond rfl (fun h8 => ?_) (fun h8 => ?_)
            ·
              refine WC.skip ?_
              refine WX.next ?_
              refine WC.seq ?_
              refine WC.block ?_
              refine WC.cut (X := JP) (fun q => Two (List.replicate 256 fill) (1010 + 2000 * i + 1000) (1000 * i + 500) q ⟨D5b, A5b, c5b, J6, Aj6, cj6, rs6⟩) (fun q => [(0, .slice A M c), (1, .slice B Mb cb), (7, .pointer (some ⟨bd, 0, none⟩)), (9, .slice (some ⟨b1, 0, none⟩) 256 256), (12, .pointer (some ⟨ba, 0, none⟩)), (14, .pointer (some ⟨bb, 0, none⟩)), (17, .int .i64 (i : Int))]) (fun q => [blk bd (dcells q.D bm q.A q.c) 66, mapC bm (dmap q.D.dur), own (.slice q.A q.D.pend.length q.c) 84 257 q.D.pend.length (q.D.pend.flatMap wcs), blk ba (jcells q.J bd q.Aj q.rs.length q.cj) 76, own (.slice q.Aj q.rs.length q.cj) 23 1 q.rs.length (q.rs.map Bs.v), rowsC true q.rs, blk bb (jcells (⟨D5b, A5b, c5b, J6, Aj6, cj6, rs6⟩ : JP).J bd (⟨D5b, A5b, c5b, J6, Aj6, cj6, rs6⟩ : JP).Aj (⟨D5b, A5b, c5b, J6, Aj6, cj6, rs6⟩ : JP).rs.length (⟨D5b, A5b, c5b, J6, Aj6, cj6, rs6⟩ : JP).cj) 76, own (.slice (⟨D5b, A5b, c5b, J6, Aj6, cj6, rs6⟩ : JP).Aj (⟨D5b, A5b, c5b, J6, Aj6, cj6, rs6⟩ : JP).rs.length (⟨D5b, A5b, c5b, J6, Aj6, cj6, rs6⟩ : JP).cj) 23 1 (⟨D5b, A5b, c5b, J6, Aj6, cj6, rs6⟩ : JP).rs.length ((⟨D5b, A5b, c5b, J6, Aj6, cj6, rs6⟩ : JP).rs.map Bs.v), rowsC true (⟨D5b, A5b, c5b, J6, Aj6, cj6, rs6⟩ : JP).rs, own (.slice (some ⟨b1, 0, none⟩) 256 256) 5 1 256 (bvs (List.replicate 256 fill)), rd (.slice A M c) 4 M (l.flatMap OpR.cells), rd (.slice B Mb cb) 4 Mb (l2.flatMap OpR.cells), frameC w0 (MutF [])]) ?_ ?_
              ·
                refine WC.seq ?_
                refine WC.region ?_
                refine wlv (op_move (lt_ rfl) rfl) rfl ?_
                refine wlv (op_move (lt_ rfl) rfl) rfl ?_
                refine wlv (op_len Try.underlying22 (lt_ rfl) rfl) rfl ?_
                refine wlv (op_lss (lt_ rfl) rfl rfl) rfl ?_
                refine WL.nil ?_
                refine WX.regs (L' := [(0, _), (1, _), (7, _), (9, _), (12, _), (14, _), (17, _), (107, _)]) ?_
                refine WX.next ?_
                refine WC.cond rfl (fun h9 => ?_) (fun h9 => ?_)
                ·
                  refine WC.region ?_
                  refine wlv (op_move (lt_ rfl) rfl) rfl ?_
                  refine wlv (op_move (lt_ rfl) rfl) rfl ?_
                  obtain ⟨o, hoo⟩ : ∃ r, l[i]? = some r := ⟨l[i]'(by omega), List.getElem?_eq_getElem _⟩
                  have ho := hln o (List.mem_of_getElem? hoo)
                  have hx : ∀ j, j = i * 4 → ((l.flatMap OpR.cells).drop j).take 4 = o.cells := fun j hj => by rw [hj]; exact flat_at (f := OpR.cells) (sz := 4) (fun _ => rfl) l i o hoo
                  refine wlv (op_move (lt_ rfl) rfl) rfl ?_
                  refine wlv (op_index Try.underlying22 sz42 (lt_ rfl) rfl rfl (by omega) (by omega) (by decide) (by first | (apply Src.rd; (repeat (first | exact List.Mem.head _ | apply List.Mem.tail)); done) | (apply Src.own; (repeat (first | exact List.Mem.head _ | apply List.Mem.tail)); done) | (apply Src.rx; (repeat (first | exact List.Mem.head _ | apply List.Mem.tail)); done))) rfl ?_
                  refine wlv (op_loadSN ag42 (lt_ rfl) rfl (by first | (apply Src.rd; (repeat (first | exact List.Mem.head _ | apply List.Mem.tail)); done) | (apply Src.own; (repeat (first | exact List.Mem.head _ | apply List.Mem.tail)); done) | (apply Src.rx; (repeat (first | exact List.Mem.head _ | apply List.Mem.tail)); done)) (by rw [hx _ (by omega)]; rfl) (by decide)) rfl ?_
                  rw [hx _ (by omega)]
                  refine wlx (op_call (f20_live bd bm ba A5 c5 D5 J5 Aj5 cj5 rs5 hsa rfl (by omega) (by omega) hla o ho) ca20 (lt_ rfl) rfl) rfl ?_
                  rintro ⟨⟨D7, A7, c7, J7, Aj7, cj7, rs7⟩, e7⟩ ⟨es7, hr7, hn7, hl7, hp7, hfi7, ho7, ⟨k7, k7b, hs7⟩, hef7⟩
                  dsimp only at hr7 hn7 hl7 hp7 hfi7 ho7 hs7 hef7 ⊢
                  skip
                  refine WL.nil ?_
                  refine WX.regs (L' := [(0, _), (1, _), (7, _), (9, _), (12, _), (14, _), (17, _)]) ?_
                  refine WX.meet (⟨D7, A7, c7, J7, Aj7, cj7, rs7⟩) (ht.stepA (a' := ⟨D7, A7, c7, J7, Aj7, cj7, rs7⟩) hr7 hn7 hl7 hp7 hfi7 ho7 ⟨_, _, hs7⟩) (fun a w hs => hs.sub (by repeat (first | exact RS.nil | refine RS.cons (by first | rfl | exact congrArg (fun z : Int => some (Value.int .i64 z)) (by omega)) ?_)) (by repeat (first | exact Takes.nil | exact Take.here | apply Takes.cons | apply Take.there)))
                ·
                  refine WC.skip ?_
                  refine WX.meet (⟨D5, A5, c5, J5, Aj5, cj5, rs5⟩) (ht.up (by omega) (by omega)) (fun a w hs => hs.sub (by repeat (first | exact RS.nil | refine RS.cons (by first | rfl | exact congrArg (fun z : Int => some (Value.int .i64 z)) (by omega)) ?_)) (by repeat (first | exact Takes.nil | exact Take.here | apply Takes.cons | apply Take.there)))
              · rintro ⟨D8, A8, c8, J8, Aj8, cj8, rs8⟩ ht8
                try dsimp only at ht8 ⊢
                obtain ⟨c8a, k8a, hs8a⟩ := ht8.sa
                obtain ⟨c8b, k8b, hs8b⟩ := ht8.sb
                have hl8a := ht8.l
                have hp8a := ht8.p
                dsimp only at hs8a hs8b hl8a hp8a
                refine WC.seq ?_
                refine WC.region ?_
                refine wlv (op_move (lt_ rfl) rfl) rfl ?_
                refine wlv (op_move (lt_ rfl) rfl) rfl ?_
                refine wlv (op_len Try.underlying22 (lt_ rfl) rfl) rfl ?_
                refine wlv (op_lss (lt_ rfl) rfl rfl) rfl ?_
                refine WL.nil ?_
                refine WX.regs (L' := [(0, _), (1, _), (7, _), (9, _), (12, _), (14, _), (17, _), (117, _)]) ?_
                refine WX.next ?_
                refine WC.cond rfl (fun h10 => ?_) (fun h10 => ?_)
                ·
                  refine WC.region ?_
                  refine wlv (op_move (lt_ rfl) rfl) rfl ?_
                  refine wlv (op_move (lt_ rfl) rfl) rfl ?_
                  obtain ⟨o, hoo⟩ : ∃ r, l2[i]? = some r := ⟨l2[i]'(by omega), List.getElem?_eq_getElem _⟩
                  have ho := hln2 o (List.mem_of_getElem? hoo)
                  have hx : ∀ j, j = i * 4 → ((l2.flatMap OpR.cells).drop j).take 4 = o.cells := fun j hj => by rw [hj]; exact flat_at (f := OpR.cells) (sz := 4) (fun _ => rfl) l2 i o hoo
                  refine wlv (op_move (lt_ rfl) rfl) rfl ?_
                  refine wlv (op_index Try.underlying22 sz42 (lt_ rfl) rfl rfl (by omega) (by omega) (by decide) (by first | (apply Src.rd; (repeat (first | exact List.Mem.head _ | apply List.Mem.tail)); done) | (apply Src.own; (repeat (first | exact List.Mem.head _ | apply List.Mem.tail)); done) | (apply Src.rx; (repeat (first | exact List.Mem.head _ | apply List.Mem.tail)); done))) rfl ?_
                  refine wlv (op_loadSN ag42 (lt_ rfl) rfl (by first | (apply Src.rd; (repeat (first | exact List.Mem.head _ | apply List.Mem.tail)); done) | (apply Src.own; (repeat (first | exact List.Mem.head _ | apply List.Mem.tail)); done) | (apply Src.rx; (repeat (first | exact List.Mem.head _ | apply List.Mem.tail)); done)) (by rw [hx _ (by omega)]; rfl) (by decide)) rfl ?_
                  rw [hx _ (by omega)]
                  refine wlx (op_call (f20_live bd bm bb A8 c8 D8 J6 Aj6 cj6 rs6 hs8b rfl (by omega) (by omega) hl8a o ho) ca20 (lt_ rfl) rfl) rfl ?_
                  rintro ⟨⟨D9, A9, c9, J9, Aj9, cj9, rs9⟩, e9⟩ ⟨es9, hr9, hn9b, hl9b, hp9b, hfi9, ho9, ⟨k9, k9b, hs9⟩, hef9⟩
                  dsimp only at hr9 hn9b hl9b hp9b hfi9 ho9 hs9 hef9 ⊢
                  refine WL.nil ?_
                  refine WX.regs (L' := [(0, _), (1, _), (7, _), (9, _), (12, _), (14, _), (17, _)]) ?_
                  refine WX.in_normal ?_
                  refine WX.next ?_
                  refine WC.region ?_
                  refine wlv (op_move (lt_ rfl) rfl) rfl ?_
                  refine wlv (op_add (lt_ rfl) rfl rfl (by omega)) rfl ?_
                  refine wlv (op_assign (lt_ rfl) rfl) rfl ?_
                  refine WL.nil ?_
                  refine WX.regs (L' := [(0, _), (1, _), (7, _), (9, _), (12, _), (14, _), (17, _)]) ?_
                  refine WX.meet ((⟨D9, A9, c9, J8, Aj8, cj8, rs8⟩, ⟨D9, A9, c9, J9, Aj9, cj9, rs9⟩, i + 1)) ⟨⟨(ht8.stepB (b' := ⟨D9, A9, c9, J9, Aj9, cj9, rs9⟩) hr9 hn9b hl9b hp9b hfi9 ho9 ⟨_, _, hs9⟩).up (by simp only []; omega) (by simp only []; omega), by simp only []; omega⟩, by simp only []; omega⟩ (fun a w hs => hs.sub (by repeat (first | exact RS.nil | refine RS.cons (by first | rfl | exact congrArg (fun z : Int => some (Value.int .i64 z)) (by omega)) ?_)) (by repeat (first | exact Takes.nil | exact Take.here | apply Takes.cons | apply Take.there)))
                ·
                  refine WC.skip ?_
                  refine WX.in_normal ?_
                  refine WX.next ?_
                  refine WC.region ?_
                  refine wlv (op_move (lt_ rfl) rfl) rfl ?_
                  refine wlv (op_add (lt_ rfl) rfl rfl (by omega)) rfl ?_
                  refine wlv (op_assign (lt_ rfl) rfl) rfl ?_
                  refine WL.nil ?_
                  refine WX.regs (L' := [(0, _), (1, _), (7, _), (9, _), (12, _), (14, _), (17, _)]) ?_
                  refine WX.meet ((⟨D8, A8, c8, J8, Aj8, cj8, rs8⟩, ⟨D5b, A5b, c5b, J6, Aj6, cj6, rs6⟩, i + 1)) ⟨⟨ht8.up (by simp only []; omega) (by simp only []; omega), by simp only []; omega⟩, by simp only []; omega⟩ (fun a w hs => hs.sub (by repeat (first | exact RS.nil | refine RS.cons (by first | rfl | exact congrArg (fun z : Int => some (Value.int .i64 z)) (by omega)) ?_)) (by repeat (first | exact Takes.nil | exact Take.here | apply Takes.cons | apply Take.there)))
            ·
              refine WC.exit ?_
              refine WX.then_exit ?_
              refine WX.then_exit ?_
              refine WX.in_hit ?_
              refine WX.next ?_
              refine WC.seq ?_
              refine WC.seq ?_
              refine WC.region ?_
              refine wlv (op_assign (lt_ rfl) rfl) rfl ?_
              refine WL.nil ?_
              refine WX.regs (L' := [(7, _), (9, _), (12, _), (14, _), (18, _)]) ?_
              refine WX.next ?_
              refine WC.block ?_
              refine WC.loop (X := Nat) (fun q => 48 - q) (fun q => q ≤ 48) (fun q => [(7, .pointer (some ⟨bd, 0, none⟩)), (9, .slice (some ⟨b1, 0, none⟩) 256 256), (12, .pointer (some ⟨ba, 0, none⟩)), (14, .pointer (some ⟨bb, 0, none⟩)), (18, .int .i64 (q : Int))]) (fun q => [blk bd (dcells (⟨D5, A5, c5, J5, Aj5, cj5, rs5⟩ : JP).D bm (⟨D5, A5, c5, J5, Aj5, cj5, rs5⟩ : JP).A (⟨D5, A5, c5, J5, Aj5, cj5, rs5⟩ : JP).c) 66, mapC bm (dmap (⟨D5, A5, c5, J5, Aj5, cj5, rs5⟩ : JP).D.dur), own (.slice (⟨D5, A5, c5, J5, Aj5, cj5, rs5⟩ : JP).A (⟨D5, A5, c5, J5, Aj5, cj5, rs5⟩ : JP).D.pend.length (⟨D5, A5, c5, J5, Aj5, cj5, rs5⟩ : JP).c) 84 257 (⟨D5, A5, c5, J5, Aj5, cj5, rs5⟩ : JP).D.pend.length ((⟨D5, A5, c5, J5, Aj5, cj5, rs5⟩ : JP).D.pend.flatMap wcs), blk ba (jcells (⟨D5, A5, c5, J5, Aj5, cj5, rs5⟩ : JP).J bd (⟨D5, A5, c5, J5, Aj5, cj5, rs5⟩ : JP).Aj (⟨D5, A5, c5, J5, Aj5, cj5, rs5⟩ : JP).rs.length (⟨D5, A5, c5, J5, Aj5, cj5, rs5⟩ : JP).cj) 76, own (.slice (⟨D5, A5, c5, J5, Aj5, cj5, rs5⟩ : JP).Aj (⟨D5, A5, c5, J5, Aj5, cj5, rs5⟩ : JP).rs.length (⟨D5, A5, c5, J5, Aj5, cj5, rs5⟩ : JP).cj) 23 1 (⟨D5, A5, c5, J5, Aj5, cj5, rs5⟩ : JP).rs.length ((⟨D5, A5, c5, J5, Aj5, cj5, rs5⟩ : JP).rs.map Bs.v), rowsC true (⟨D5, A5, c5, J5, Aj5, cj5, rs5⟩ : JP).rs, blk bb (jcells (⟨D5b, A5b, c5b, J6, Aj6, cj6, rs6⟩ : JP).J bd (⟨D5b, A5b, c5b, J6, Aj6, cj6, rs6⟩ : JP).Aj (⟨D5b, A5b, c5b, J6, Aj6, cj6, rs6⟩ : JP).rs.length (⟨D5b, A5b, c5b, J6, Aj6, cj6, rs6⟩ : JP).cj) 76, own (.slice (⟨D5b, A5b, c5b, J6, Aj6, cj6, rs6⟩ : JP).Aj (⟨D5b, A5b, c5b, J6, Aj6, cj6, rs6⟩ : JP).rs.length (⟨D5b, A5b, c5b, J6, Aj6, cj6, rs6⟩ : JP).cj) 23 1 (⟨D5b, A5b, c5b, J6, Aj6, cj6, rs6⟩ : JP).rs.length ((⟨D5b, A5b, c5b, J6, Aj6, cj6, rs6⟩ : JP).rs.map Bs.v), rowsC true (⟨D5b, A5b, c5b, J6, Aj6, cj6, rs6⟩ : JP).rs, own (.slice (some ⟨b1, 0, none⟩) 256 256) 5 1 256 (bvs (List.replicate 256 fill)), frameC w0 (MutF [])]) (0) (Nat.zero_le _) (fun a w hs => hs.sub (by repeat (first | exact RS.nil | refine RS.cons (by first | rfl | exact congrArg (fun z : Int => some (Value.int .i64 z)) (by omega)) ?_)) (by repeat (first | exact Takes.nil | exact Take.here | apply Takes.cons | apply Take.there))) ?_
              rintro j hj
              try dsimp only
              refine WC.seq ?_
              refine WC.seq ?_
              refine WC.region ?_
              refine wlv (op_move (lt_ rfl) rfl) rfl ?_
              refine wlv (op_lss (lt_ rfl) rfl rfl) rfl ?_
              refine WL.nil ?_
              refine WX.regs (L' := [(7, _), (9, _), (12, _), (14, _), (18, _), (125, _)]) ?_
              refine WX.next ?_
              refine WC.cond rfl (fun h11 => ?_) (fun h11 => ?_)
              ·
                refine WC.skip ?_
                refine WX.next ?_
                refine WC.seq ?_
                refine WC.block ?_
                refine WC.seq ?_
                refine WC.seq ?_
                refine WC.region ?_
                refine wlv (op_move (lt_ rfl) rfl) rfl ?_
                refine wlv (op_geq (lt_ rfl) rfl rfl) rfl ?_
                refine wlv (op_move (lt_ rfl) rfl) rfl ?_
                refine WL.split (t := 130) rfl (fun g130 => ?_) (fun g130 => ?_)
                ·
                  refine wlgv (op_move (lt_ rfl) rfl) rfl rfl rfl ?_
                  refine wlgv (op_lss (lt_ rfl) rfl rfl) rfl rfl rfl ?_
                  refine wlv (op_pickT (lt_ rfl) rfl rfl) rfl ?_
                  refine wlv (op_move (lt_ rfl) rfl) rfl ?_
                  refine WL.split (t := 134) rfl (fun g134 => ?_) (fun g134 => ?_)
                  ·
                    refine wlg_no rfl rfl rfl rfl rfl (by decide) ?_
                    refine wlg_no rfl rfl rfl rfl rfl (by decide) ?_
                    refine wlg_no rfl rfl rfl rfl rfl (by decide) ?_
                    refine wlg_undef rfl rfl rfl rfl (by decide) ?_
                    refine wlg_undef rfl rfl rfl rfl (by decide) ?_
                    refine wlg_no rfl rfl rfl rfl rfl (by decide) ?_
                    refine wlv (op_pickT (lt_ rfl) rfl rfl) rfl ?_
                    refine WL.nil ?_
                    refine WX.regs (L' := [(7, _), (9, _), (12, _), (14, _), (18, _), (141, _)]) ?_
                    refine WX.next ?_
                    refine WC.condT rfl ?_
                    refine WC.exit ?_
                    refine WX.then_exit ?_
                    refine WX.in_hit ?_
                    refine WX.next ?_
                    refine WC.region ?_
                    refine wlv (op_move (lt_ rfl) rfl) rfl ?_
                    refine wlv (op_add (lt_ rfl) rfl rfl (by omega)) rfl ?_
                    refine wlv (op_assign (lt_ rfl) rfl) rfl ?_
                    refine WL.nil ?_
                    refine WX.regs (L' := [(7, _), (9, _), (12, _), (14, _), (18, _)]) ?_
                    refine WX.meet (j + 1) ⟨by omega, by omega⟩ (fun a w hs => hs.sub (by repeat (first | exact RS.nil | refine RS.cons (by first | rfl | exact congrArg (fun z : Int => some (Value.int .i64 z)) (by omega)) ?_)) (by repeat (first | exact Takes.nil | exact Take.here | apply Takes.cons | apply Take.there)))
                  ·
                    refine wlgv (op_move (lt_ rfl) rfl) rfl rfl rfl ?_
                    refine wlgv (op_geq (lt_ rfl) rfl rfl) rfl rfl rfl ?_
                    refine wlgv (op_move (lt_ rfl) rfl) rfl rfl rfl ?_
                    refine WL.split (t := 137) rfl (fun g137 => ?_) (fun g137 => ?_)
                    ·
                      refine wlgv (op_move (lt_ rfl) rfl) rfl rfl rfl ?_
                      refine wlgv (op_lss (lt_ rfl) rfl rfl) rfl rfl rfl ?_
                      refine wlgv (op_pickT (lt_ rfl) rfl rfl) rfl rfl rfl ?_
                      refine wlv (op_pickF (lt_ rfl) rfl rfl) rfl ?_
                      refine WL.nil ?_
                      refine WX.regs (L' := [(7, _), (9, _), (12, _), (14, _), (18, _), (141, _)]) ?_
                      refine WX.next ?_
                      refine WC.cond rfl (fun h12 => ?_) (fun h12 => ?_)
                      ·
                        refine WC.exit ?_
                        refine WX.then_exit ?_
                        refine WX.in_hit ?_
                        refine WX.next ?_
                        refine WC.region ?_
                        refine wlv (op_move (lt_ rfl) rfl) rfl ?_
                        refine wlv (op_add (lt_ rfl) rfl rfl (by omega)) rfl ?_
                        refine wlv (op_assign (lt_ rfl) rfl) rfl ?_
                        refine WL.nil ?_
                        refine WX.regs (L' := [(7, _), (9, _), (12, _), (14, _), (18, _)]) ?_
                        refine WX.meet (j + 1) ⟨by omega, by omega⟩ (fun a w hs => hs.sub (by repeat (first | exact RS.nil | refine RS.cons (by first | rfl | exact congrArg (fun z : Int => some (Value.int .i64 z)) (by omega)) ?_)) (by repeat (first | exact Takes.nil | exact Take.here | apply Takes.cons | apply Take.there)))
                      ·
                        refine WC.skip ?_
                        refine WX.next ?_
                        refine WC.seq ?_
                        refine WC.region ?_
                        refine wlv (op_move (lt_ rfl) rfl) rfl ?_
                        refine wlv (op_move (lt_ rfl) rfl) rfl ?_
                        refine wlx (op_call (f30_spec bd bm A5 c5 D5 (j : Int) (by omega)) ca30 (lt_ rfl) rfl) rfl ?_
                        rintro ⟨Ar, cr, xr, er⟩ hxr
                        dsimp only at hxr
                        rw [read_ok hsa.dn (by omega), Prod.mk.injEq] at hxr
                        obtain ⟨rfl, rfl⟩ := hxr
                        dsimp only
                        refine wlv (op_move (lt_ rfl) rfl) rfl ?_
                        refine wlv (op_extract (lt_ rfl) rfl rfl) rfl ?_
                        refine wlv (op_extract (lt_ rfl) rfl rfl) rfl ?_
                        refine wlv (op_assign (lt_ rfl) rfl) rfl ?_
                        refine wlv (op_assign (lt_ rfl) rfl) rfl ?_
                        refine WL.nil ?_
                        refine WX.regs (L' := [(7, _), (9, _), (12, _), (14, _), (18, _), (19, _), (20, _)]) ?_
                        refine WX.next ?_
                        refine WC.seq ?_
                        refine WC.region ?_
                        refine wlv (op_move (lt_ rfl) rfl) rfl ?_
                        refine wlv (op_neq (lt_ rfl) rfl rfl) rfl ?_
                        refine wlv (op_move (lt_ rfl) rfl) rfl ?_
                        refine wlgv (op_move (lt_ rfl) rfl) rfl rfl rfl ?_
                        refine wlgv (op_bytesStr (bs := (D5.vis (j : Int)).s) Try.underlying23 Try.underlying5 Try.underlying9 (lt_ rfl) rfl (Src.rx (by repeat (first | exact List.Mem.head _ | apply List.Mem.tail)))) rfl rfl rfl ?_
                        refine wlgv (op_move (lt_ rfl) rfl) rfl rfl rfl ?_
                        refine wlgv (op_bytesStr (bs := (List.replicate 256 fill)) Try.underlying23 Try.underlying5 Try.underlying9 (lt_ rfl) rfl (Src.own (by repeat (first | exact List.Mem.head _ | apply List.Mem.tail)))) rfl rfl rfl ?_
                        refine wlgv (op_neqs (lt_ rfl) rfl rfl) rfl rfl rfl ?_
                        refine wlv (op_pickF (lt_ rfl) rfl rfl) rfl ?_
                        refine WL.nil ?_
                        refine WX.regs (L' := [(7, _), (9, _), (12, _), (14, _), (18, _), (156, _)]) ?_
                        refine WX.next ?_
                        refine WC.cond rfl (fun h13 => ?_) (fun h13 => ?_)
                        ·
                          exact (h13 (ht.v _ (by omega) (by omega) (by omega))).elim
                        ·
                          refine WC.skip ?_
                          refine WX.in_normal ?_
                          refine WX.next ?_
                          refine WC.region ?_
                          refine wlv (op_move (lt_ rfl) rfl) rfl ?_
                          refine wlv (op_add (lt_ rfl) rfl rfl (by omega)) rfl ?_
                          refine wlv (op_assign (lt_ rfl) rfl) rfl ?_
                          refine WL.nil ?_
                          refine WX.regs (L' := [(7, _), (9, _), (12, _), (14, _), (18, _)]) ?_
                          refine WX.meet (j + 1) ⟨by omega, by omega⟩ (fun a w hs => hs.sub (by repeat (first | exact RS.nil | refine RS.cons (by first | rfl | exact congrArg (fun z : Int => some (Value.int .i64 z)) (by omega)) ?_)) (by repeat (first | exact Takes.nil | exact Take.here | apply Takes.cons | apply Take.there)))
                    ·
                      refine wlg_no rfl rfl rfl rfl rfl (by decide) ?_
                      refine wlg_no rfl rfl rfl rfl rfl (by decide) ?_
                      refine wlgv (op_pickF (lt_ rfl) rfl rfl) rfl rfl rfl ?_
                      refine wlv (op_pickF (lt_ rfl) rfl rfl) rfl ?_
                      refine WL.nil ?_
                      refine WX.regs (L' := [(7, _), (9, _), (12, _), (14, _), (18, _), (141, _)]) ?_
                      refine WX.next ?_
                      refine WC.condF rfl ?_
                      refine WC.skip ?_
                      refine WX.next ?_
                      refine WC.seq ?_
                      refine WC.region ?_
                      refine wlv (op_move (lt_ rfl) rfl) rfl ?_
                      refine wlv (op_move (lt_ rfl) rfl) rfl ?_
                      refine wlx (op_call (f30_spec bd bm A5 c5 D5 (j : Int) (by omega)) ca30 (lt_ rfl) rfl) rfl ?_
                      rintro ⟨Ar, cr, xr, er⟩ hxr
                      dsimp only at hxr
                      rw [read_ok hsa.dn (by omega), Prod.mk.injEq] at hxr
                      obtain ⟨rfl, rfl⟩ := hxr
                      dsimp only
                      refine wlv (op_move (lt_ rfl) rfl) rfl ?_
                      refine wlv (op_extract (lt_ rfl) rfl rfl) rfl ?_
                      refine wlv (op_extract (lt_ rfl) rfl rfl) rfl ?_
                      refine wlv (op_assign (lt_ rfl) rfl) rfl ?_
                      refine wlv (op_assign (lt_ rfl) rfl) rfl ?_
                      refine WL.nil ?_
                      refine WX.regs (L' := [(7, _), (9, _), (12, _), (14, _), (18, _), (19, _), (20, _)]) ?_
                      refine WX.next ?_
                      refine WC.seq ?_
                      refine WC.region ?_
                      refine wlv (op_move (lt_ rfl) rfl) rfl ?_
                      refine wlv (op_neq (lt_ rfl) rfl rfl) rfl ?_
                      refine wlv (op_move (lt_ rfl) rfl) rfl ?_
                      refine wlgv (op_move (lt_ rfl) rfl) rfl rfl rfl ?_
                      refine wlgv (op_bytesStr (bs := (D5.vis (j : Int)).s) Try.underlying23 Try.underlying5 Try.underlying9 (lt_ rfl) rfl (Src.rx (by repeat (first | exact List.Mem.head _ | apply List.Mem.tail)))) rfl rfl rfl ?_
                      refine wlgv (op_move (lt_ rfl) rfl) rfl rfl rfl ?_
                      refine wlgv (op_bytesStr (bs := (List.replicate 256 fill)) Try.underlying23 Try.underlying5 Try.underlying9 (lt_ rfl) rfl (Src.own (by repeat (first | exact List.Mem.head _ | apply List.Mem.tail)))) rfl rfl rfl ?_
                      refine wlgv (op_neqs (lt_ rfl) rfl rfl) rfl rfl rfl ?_
                      refine wlv (op_pickF (lt_ rfl) rfl rfl) rfl ?_
                      refine WL.nil ?_
                      refine WX.regs (L' := [(7, _), (9, _), (12, _), (14, _), (18, _), (156, _)]) ?_
                      refine WX.next ?_
                      refine WC.cond rfl (fun h13 => ?_) (fun h13 => ?_)
                      ·
                        exact (h13 (ht.v _ (by omega) (by omega) (by omega))).elim
                      ·
                        refine WC.skip ?_
                        refine WX.in_normal ?_
                        refine WX.next ?_
                        refine WC.region ?_
                        refine wlv (op_move (lt_ rfl) rfl) rfl ?_
                        refine wlv (op_add (lt_ rfl) rfl rfl (by omega)) rfl ?_
                        refine wlv (op_assign (lt_ rfl) rfl) rfl ?_
                        refine WL.nil ?_
                        refine WX.regs (L' := [(7, _), (9, _), (12, _), (14, _), (18, _)]) ?_
                        refine WX.meet (j + 1) ⟨by omega, by omega⟩ (fun a w hs => hs.sub (by repeat (first | exact RS.nil | refine RS.cons (by first | rfl | exact congrArg (fun z : Int => some (Value.int .i64 z)) (by omega)) ?_)) (by repeat (first | exact Takes.nil | exact Take.here | apply Takes.cons | apply Take.there)))
                ·
                  refine wlg_no rfl rfl rfl rfl rfl (by decide) ?_
                  refine wlg_no rfl rfl rfl rfl rfl (by decide) ?_
                  refine wlv (op_pickF (lt_ rfl) rfl rfl) rfl ?_
                  refine wlv (op_move (lt_ rfl) rfl) rfl ?_
                  refine wlgv (op_move (lt_ rfl) rfl) rfl rfl rfl ?_
                  refine wlgv (op_geq (lt_ rfl) rfl rfl) rfl rfl rfl ?_
                  refine wlgv (op_move (lt_ rfl) rfl) rfl rfl rfl ?_
                  refine WL.split (t := 137) rfl (fun g137 => ?_) (fun g137 => ?_)
                  ·
                    refine wlgv (op_move (lt_ rfl) rfl) rfl rfl rfl ?_
                    refine wlgv (op_lss (lt_ rfl) rfl rfl) rfl rfl rfl ?_
                    refine wlgv (op_pickT (lt_ rfl) rfl rfl) rfl rfl rfl ?_
                    refine wlv (op_pickF (lt_ rfl) rfl rfl) rfl ?_
                    refine WL.nil ?_
                    refine WX.regs (L' := [(7, _), (9, _), (12, _), (14, _), (18, _), (141, _)]) ?_
                    refine WX.next ?_
                    refine WC.cond rfl (fun h12 => ?_) (fun h12 => ?_)
                    ·
                      refine WC.exit ?_
                      refine WX.then_exit ?_
                      refine WX.in_hit ?_
                      refine WX.next ?_
                      refine WC.region ?_
                      refine wlv (op_move (lt_ rfl) rfl) rfl ?_
                      refine wlv (op_add (lt_ rfl) rfl rfl (by omega)) rfl ?_
                      refine wlv (op_assign (lt_ rfl) rfl) rfl ?_
                      refine WL.nil ?_
                      refine WX.regs (L' := [(7, _), (9, _), (12, _), (14, _), (18, _)]) ?_
                      refine WX.meet (j + 1) ⟨by omega, by omega⟩ (fun a w hs => hs.sub (by repeat (first | exact RS.nil | refine RS.cons (by first | rfl | exact congrArg (fun z : Int => some (Value.int .i64 z)) (by omega)) ?_)) (by repeat (first | exact Takes.nil | exact Take.here | apply Takes.cons | apply Take.there)))
                    ·
                      refine WC.skip ?_
                      refine WX.next ?_
                      refine WC.seq ?_
                      refine WC.region ?_
                      refine wlv (op_move (lt_ rfl) rfl) rfl ?_
                      refine wlv (op_move (lt_ rfl) rfl) rfl ?_
                      refine wlx (op_call (f30_spec bd bm A5 c5 D5 (j : Int) (by omega)) ca30 (lt_ rfl) rfl) rfl ?_
                      rintro ⟨Ar, cr, xr, er⟩ hxr
                      dsimp only at hxr
                      rw [read_ok hsa.dn (by omega), Prod.mk.injEq] at hxr
                      obtain ⟨rfl, rfl⟩ := hxr
                      dsimp only
                      refine wlv (op_move (lt_ rfl) rfl) rfl ?_
                      refine wlv (op_extract (lt_ rfl) rfl rfl) rfl ?_
                      refine wlv (op_extract (lt_ rfl) rfl rfl) rfl ?_
                      refine wlv (op_assign (lt_ rfl) rfl) rfl ?_
                      refine wlv (op_assign (lt_ rfl) rfl) rfl ?_
                      refine WL.nil ?_
                      refine WX.regs (L' := [(7, _), (9, _), (12, _), (14, _), (18, _), (19, _), (20, _)]) ?_
                      refine WX.next ?_
                      refine WC.seq ?_
                      refine WC.region ?_
                      refine wlv (op_move (lt_ rfl) rfl) rfl ?_
                      refine wlv (op_neq (lt_ rfl) rfl rfl) rfl ?_
                      refine wlv (op_move (lt_ rfl) rfl) rfl ?_
                      refine wlgv (op_move (lt_ rfl) rfl) rfl rfl rfl ?_
                      refine wlgv (op_bytesStr (bs := (D5.vis (j : Int)).s) Try.underlying23 Try.underlying5 Try.underlying9 (lt_ rfl) rfl (Src.rx (by repeat (first | exact List.Mem.head _ | apply List.Mem.tail)))) rfl rfl rfl ?_
                      refine wlgv (op_move (lt_ rfl) rfl) rfl rfl rfl ?_
                      refine wlgv (op_bytesStr (bs := (List.replicate 256 fill)) Try.underlying23 Try.underlying5 Try.underlying9 (lt_ rfl) rfl (Src.own (by repeat (first | exact List.Mem.head _ | apply List.Mem.tail)))) rfl rfl rfl ?_
                      refine wlgv (op_neqs (lt_ rfl) rfl rfl) rfl rfl rfl ?_
                      refine wlv (op_pickF (lt_ rfl) rfl rfl) rfl ?_
                      refine WL.nil ?_
                      refine WX.regs (L' := [(7, _), (9, _), (12, _), (14, _), (18, _), (156, _)]) ?_
                      refine WX.next ?_
                      refine WC.cond rfl (fun h13 => ?_) (fun h13 => ?_)
                      ·
                        exact (h13 (ht.v _ (by omega) (by omega) (by omega))).elim
                      ·
                        refine WC.skip ?_
                        refine WX.in_normal ?_
                        refine WX.next ?_
                        refine WC.region ?_
                        refine wlv (op_move (lt_ rfl) rfl) rfl ?_
                        refine wlv (op_add (lt_ rfl) rfl rfl (by omega)) rfl ?_
                        refine wlv (op_assign (lt_ rfl) rfl) rfl ?_
                        refine WL.nil ?_
                        refine WX.regs (L' := [(7, _), (9, _), (12, _), (14, _), (18, _)]) ?_
                        refine WX.meet (j + 1) ⟨by omega, by omega⟩ (fun a w hs => hs.sub (by repeat (first | exact RS.nil | refine RS.cons (by first | rfl | exact congrArg (fun z : Int => some (Value.int .i64 z)) (by omega)) ?_)) (by repeat (first | exact Takes.nil | exact Take.here | apply Takes.cons | apply Take.there)))
                  ·
                    refine wlg_no rfl rfl rfl rfl rfl (by decide) ?_
                    refine wlg_no rfl rfl rfl rfl rfl (by decide) ?_
                    refine wlgv (op_pickF (lt_ rfl) rfl rfl) rfl rfl rfl ?_
                    refine wlv (op_pickF (lt_ rfl) rfl rfl) rfl ?_
                    refine WL.nil ?_
                    refine WX.regs (L' := [(7, _), (9, _), (12, _), (14, _), (18, _), (141, _)]) ?_
                    refine WX.next ?_
                    refine WC.condF rfl ?_
                    refine WC.skip ?_
                    refine WX.next ?_
                    refine WC.seq ?_
                    refine WC.region ?_
                    refine wlv (op_move (lt_ rfl) rfl) rfl ?_
                    refine wlv (op_move (lt_ rfl) rfl) rfl ?_
                    refine wlx (op_call (f30_spec bd bm A5 c5 D5 (j : Int) (by omega)) ca30 (lt_ rfl) rfl) rfl ?_
                    rintro ⟨Ar, cr, xr, er⟩ hxr
                    dsimp only at hxr
                    rw [read_ok hsa.dn (by omega), Prod.mk.injEq] at hxr
                    obtain ⟨rfl, rfl⟩ := hxr
                    dsimp only
                    refine wlv (op_move (lt_ rfl) rfl) rfl ?_
                    refine wlv (op_extract (lt_ rfl) rfl rfl) rfl ?_
                    refine wlv (op_extract (lt_ rfl) rfl rfl) rfl ?_
                    refine wlv (op_assign (lt_ rfl) rfl) rfl ?_
                    refine wlv (op_assign (lt_ rfl) rfl) rfl ?_
                    refine WL.nil ?_
                    refine WX.regs (L' := [(7, _), (9, _), (12, _), (14, _), (18, _), (19, _), (20, _)]) ?_
                    refine WX.next ?_
                    refine WC.seq ?_
                    refine WC.region ?_
                    refine wlv (op_move (lt_ rfl) rfl) rfl ?_
                    refine wlv (op_neq (lt_ rfl) rfl rfl) rfl ?_
                    refine wlv (op_move (lt_ rfl) rfl) rfl ?_
                    refine wlgv (op_move (lt_ rfl) rfl) rfl rfl rfl ?_
                    refine wlgv (op_bytesStr (bs := (D5.vis (j : Int)).s) Try.underlying23 Try.underlying5 Try.underlying9 (lt_ rfl) rfl (Src.rx (by repeat (first | exact List.Mem.head _ | apply List.Mem.tail)))) rfl rfl rfl ?_
                    refine wlgv (op_move (lt_ rfl) rfl) rfl rfl rfl ?_
                    refine wlgv (op_bytesStr (bs := (List.replicate 256 fill)) Try.underlying23 Try.underlying5 Try.underlying9 (lt_ rfl) rfl (Src.own (by repeat (first | exact List.Mem.head _ | apply List.Mem.tail)))) rfl rfl rfl ?_
                    refine wlgv (op_neqs (lt_ rfl) rfl rfl) rfl rfl rfl ?_
                    refine wlv (op_pickF (lt_ rfl) rfl rfl) rfl ?_
                    refine WL.nil ?_
                    refine WX.regs (L' := [(7, _), (9, _), (12, _), (14, _), (18, _), (156, _)]) ?_
                    refine WX.next ?_
                    refine WC.cond rfl (fun h13 => ?_) (fun h13 => ?_)
                    ·
                      exact (h13 (ht.v _ (by omega) (by omega) (by omega))).elim
                    ·
                      refine WC.skip ?_
                      refine WX.in_normal ?_
                      refine WX.next ?_
                      refine WC.region ?_
                      refine wlv (op_move (lt_ rfl) rfl) rfl ?_
                      refine wlv (op_add (lt_ rfl) rfl rfl (by omega)) rfl ?_
                      refine wlv (op_assign (lt_ rfl) rfl) rfl ?_
                      refine WL.nil ?_
                      refine WX.regs (L' := [(7, _), (9, _), (12, _), (14, _), (18, _)]) ?_
                      refine WX.meet (j + 1) ⟨by omega, by omega⟩ (fun a w hs => hs.sub (by repeat (first | exact RS.nil | refine RS.cons (by first | rfl | exact congrArg (fun z : Int => some (Value.int .i64 z)) (by omega)) ?_)) (by repeat (first | exact Takes.nil | exact Take.here | apply Takes.cons | apply Take.there)))
              ·
                refine WC.exit ?_
                refine WX.then_exit ?_
                refine WX.then_exit ?_
                refine WX.in_hit ?_
                refine WX.next ?_
                refine WC.seq ?_
                refine WC.region ?_
                refine wlv (op_move (lt_ rfl) rfl) rfl ?_
                refine wlx (op_call (f14_live bd bm A5 c5 D5 J5 hsa (by omega) (by omega) hla 2 hfa) ca14 (lt_ rfl) rfl) rfl ?_
                rintro ⟨⟨D7, A7, c7, J7, Aj7, cj7, rs7⟩, bc, ⟨Ax7, cx7⟩, xs7⟩ ⟨hr7, hx7, hn7, hl7, hp7, hf7, hfi7, hg7, ho7, hs7⟩
                dsimp only at hr7 hx7 hn7 hl7 hp7 hf7 hfi7 hg7 ho7 hs7 ⊢
                have hsb2 := hsb.out ho7 (.inl (by omega)) hn7 hs7.dn
                have hlx7 : xs7.length = rs5.length := by have := congrArg List.length hx7; simpa using this
                refine wlv (op_move (lt_ rfl) rfl) rfl ?_
                refine wlv (op_extract (lt_ rfl) rfl rfl) rfl ?_
                refine wlv (op_extract (lt_ rfl) rfl rfl) rfl ?_
                refine wlv (op_extract (lt_ rfl) rfl rfl) rfl ?_
                refine wlv (op_assign (lt_ rfl) rfl) rfl ?_
                refine wlv (op_assign (lt_ rfl) rfl) rfl ?_
                refine wlv (op_assign (lt_ rfl) rfl) rfl ?_
                refine WL.nil ?_
                refine WX.regs (L' := [(7, _), (12, _), (14, _), (21, _), (22, _), (23, _)]) ?_
                refine WX.next ?_
                refine WC.seq ?_
                refine WC.region ?_
                refine wlv (op_move (lt_ rfl) rfl) rfl ?_
                refine wlx (op_call (f14_live bd bm A7 c7 D7 J6 hsb2 (by omega) (by rw [hp7]; decide) hl7 23 hfb) ca14 (lt_ rfl) rfl) rfl ?_
                rintro ⟨⟨D8, A8, c8, J8, Aj8, cj8, rs8⟩, bk, ⟨Ax8, cx8⟩, xs8⟩ ⟨hr8, hx8, hn8, hl8, hp8, hf8, hfi8, hg8, ho8, hs8⟩
                dsimp only at hr8 hx8 hn8 hl8 hp8 hf8 hfi8 hg8 ho8 hs8 ⊢
                have hlx8 : xs8.length = rs6.length := by have := congrArg List.length hx8; simpa using this
                refine wlv (op_move (lt_ rfl) rfl) rfl ?_
                refine wlv (op_extract (lt_ rfl) rfl rfl) rfl ?_
                refine wlv (op_extract (lt_ rfl) rfl rfl) rfl ?_
                refine wlv (op_extract (lt_ rfl) rfl rfl) rfl ?_
                refine wlv (op_assign (lt_ rfl) rfl) rfl ?_
                refine wlv (op_assign (lt_ rfl) rfl) rfl ?_
                refine wlv (op_assign (lt_ rfl) rfl) rfl ?_
                refine WL.nil ?_
                refine WX.regs (L' := [(12, _), (14, _), (21, _), (22, _), (23, _), (24, _), (25, _), (26, _)]) ?_
                refine WX.next ?_
                refine WC.seq ?_
                refine WC.region ?_
                refine wlv (op_move (lt_ rfl) rfl) rfl ?_
                refine wlv (op_eql (lt_ rfl) rfl rfl) rfl ?_
                refine wlv (op_move (lt_ rfl) rfl) rfl ?_
                refine wlgv (op_move (lt_ rfl) rfl) rfl rfl rfl ?_
                refine wlgv (op_eql (lt_ rfl) rfl rfl) rfl rfl rfl ?_
                refine wlv (op_pickT (lt_ rfl) rfl rfl) rfl ?_
                refine wlv (op_move (lt_ rfl) rfl) rfl ?_
                refine wlgv (op_move (lt_ rfl) rfl) rfl rfl rfl ?_
                refine wlgx (op_call (f18_spec bc bd J7 Aj7 rs7.length cj7) ca18 (lt_ rfl) rfl) rfl rfl rfl ?_
                rintro _ _
                rw [hf7]
                refine wlgv (op_move (lt_ rfl) rfl) rfl rfl rfl ?_
                refine wlgx (op_call (f18_spec ba bd J5 Aj5 rs5.length cj5) ca18 (lt_ rfl) rfl) rfl rfl rfl ?_
                rintro _ _
                refine wlgv (op_eql (lt_ rfl) rfl rfl) rfl rfl rfl ?_
                refine wlv (op_pickT (lt_ rfl) rfl rfl) rfl ?_
                refine wlv (op_move (lt_ rfl) rfl) rfl ?_
                refine WL.split (t := 182) rfl (fun g182 => ?_) (fun g182 => ?_)
                ·
                  refine wlgv (op_move (lt_ rfl) rfl) rfl rfl rfl ?_
                  refine wlgv (op_len Try.underlying33 (lt_ rfl) rfl) rfl rfl rfl ?_
                  refine wlgv (op_move (lt_ rfl) rfl) rfl rfl rfl ?_
                  refine wlgx (op_call (f17_spec ba bd J5 Aj5 rs5.length cj5 (by omega)) ca17 (lt_ rfl) rfl) rfl rfl rfl ?_
                  rintro _ _
                  refine wlgv (op_move (lt_ rfl) rfl) rfl rfl rfl ?_
                  refine wlgx (op_call (f18_spec ba bd J5 Aj5 rs5.length cj5) ca18 (lt_ rfl) rfl) rfl rfl rfl ?_
                  rintro _ _
                  refine wlgv (op_sub (lt_ rfl) rfl rfl (by omega)) rfl rfl rfl ?_
                  refine wlgv (op_eql (lt_ rfl) rfl rfl) rfl rfl rfl ?_
                  refine wlv (op_pickT (lt_ rfl) rfl rfl) rfl ?_
                  refine wlv (op_move (lt_ rfl) rfl) rfl ?_
                  refine WL.split (t := 192) rfl (fun g192 => ?_) (fun g192 => ?_)
                  ·
                    refine wlgv (op_move (lt_ rfl) rfl) rfl rfl rfl ?_
                    refine wlgx (op_call (f18_spec bk bd J8 Aj8 rs8.length cj8) ca18 (lt_ rfl) rfl) rfl rfl rfl ?_
                    rintro _ _
                    rw [hf8]
                    refine wlgv (op_move (lt_ rfl) rfl) rfl rfl rfl ?_
                    refine wlgx (op_call (f18_spec bb bd J6 Aj6 rs6.length cj6) ca18 (lt_ rfl) rfl) rfl rfl rfl ?_
                    rintro _ _
                    refine wlgv (op_eql (lt_ rfl) rfl rfl) rfl rfl rfl ?_
                    refine wlv (op_pickT (lt_ rfl) rfl rfl) rfl ?_
                    refine wlv (op_move (lt_ rfl) rfl) rfl ?_
                    refine WL.split (t := 199) rfl (fun g199 => ?_) (fun g199 => ?_)
                    ·
                      refine wlgv (op_move (lt_ rfl) rfl) rfl rfl rfl ?_
                      refine wlgv (op_len Try.underlying33 (lt_ rfl) rfl) rfl rfl rfl ?_
                      refine wlgv (op_move (lt_ rfl) rfl) rfl rfl rfl ?_
                      refine wlgx (op_call (f17_spec bb bd J6 Aj6 rs6.length cj6 (by omega)) ca17 (lt_ rfl) rfl) rfl rfl rfl ?_
                      rintro _ _
                      refine wlgv (op_move (lt_ rfl) rfl) rfl rfl rfl ?_
                      refine wlgx (op_call (f18_spec bb bd J6 Aj6 rs6.length cj6) ca18 (lt_ rfl) rfl) rfl rfl rfl ?_
                      rintro _ _
                      refine wlgv (op_sub (lt_ rfl) rfl rfl (by omega)) rfl rfl rfl ?_
                      refine wlgv (op_eql (lt_ rfl) rfl rfl) rfl rfl rfl ?_
                      refine wlv (op_pickT (lt_ rfl) rfl rfl) rfl ?_
                      refine wlv (op_assign (lt_ rfl) rfl) rfl ?_
                      refine WL.nil ?_
                      refine WX.regs (L' := [(6, _)]) ?_
                      refine WX.next ?_
                      refine WC.ret ?_
                      exact Fin.ret1 (by first | exact .inl rfl | exact .inr rfl) (_) (decide_eq_true (by omega)) Try.results7 (.tmp rfl) (by repeat (first | exact Takes.nil | exact Take.here | apply Takes.cons | apply Take.there)) (by simp)
                    ·
                      exact absurd rfl g199
                  ·
                    exact (g192 (by omega)).elim
                ·
                  exact absurd rfl g182
end Go.Proofs.Ytkjlbedebmffgaa.Sx

