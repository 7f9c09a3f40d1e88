import Derived.Test.YtkjlbedebmffgaaGreatNl
set_option linter.unusedVariables false
set_option linter.unusedSimpArgs false
namespace Go.Proofs.YtkjlbedebmffgaaGreat.Sx
open Go.RowKit Go.Proofs.YtkjlbedebmffgaaGreat.Ty
attribute [local irreducible] blk own rd rx frameC
set_option maxHeartbeats 400000 in
set_option maxRecDepth 10000 in
theorem f21_spec (r : Rd) (hr : r.Ok) (a : Int) (k : Nat) (ha : 0 ≤ a ∧ 8 ≤ k ∧ a + k ≤ r.ds.length) (hg : nextF 0 (seenR r.V a k) ≤ 2147483647) (hw : r.ws.length + 10000 ≤ 1000000) :
  Spec Tryz.prog 21 [.agg r.cells.toArray, .int .i64 a, .int .i64 (k : Int)] [own (.slice r.A r.ds.length r.c) 30 1 r.ds.length (r.ds.map Bs.v), rowsC true r.ds, own (.slice r.Aw r.ws.length r.cw) 84 2 r.ws.length (r.ws.flatMap Wb.cells), rowsC true (r.ws.map Wb.b)] [] (R := Rd) (fun q => q.Area r (a + nextF 0 (seenR r.V a k) % 2 * ((k : Int) / 2)) (areaS (nextF 0 (seenR r.V a k)) 0 []))
   (fun q => .tuple #[.agg q.cells.toArray, .int .i64 0]) (fun q => [own (.slice q.A q.ds.length q.c) 30 1 q.ds.length (q.ds.map Bs.v), rowsC true q.ds, own (.slice q.Aw q.ws.length q.cw) 84 2 q.ws.length (q.ws.flatMap Wb.cells), rowsC true (q.ws.map Wb.b)]) := by
 have hrn := hr.n
 have hn0 := nextF_ge 0 (seenR r.V a k)
 refine Spec.intro Tryz.func21 Tryz.ntmps21 rfl (by simp) (by simp) fun w0 => ?_
 refine W240 ?_
 refine wl1 (op_box (lt_ rfl) rfl rfl) rfl fun b1 => ?_
 refine wl1 (op_alloc ti39 (lt_ rfl)) rfl fun b2 => ?_
 refine W241 ?_
 refine WX.regs (L' := [(1, _), (2, _), (3, _), (6, _)]) ?_
 refine W269 ?_
 refine W41 ?_
 refine W244 ?_
 refine wlx (op_call (f50_spec r a k ha (by omega)) ca50 (lt_ rfl) rfl) rfl ?_
 rintro _ _
 refine W241 ?_
 refine WX.regs (L' := [(1, _), (2, _), (3, _), (6, _), (8, _)]) ?_
 refine W359 ?_
 refine WX.regs (L' := [(1, _), (2, _), (3, _), (6, _), (8, _), (16, _)]) ?_
 refine W281 ?_
 refine W327 ?_
 refine WC.nilrows true ?_
 refine WC.drawn (Hs := [blk b1 r.cells 39]) mo 13 ?_
 refine WA.nilrd 1 ?_
 refine W70 ?_
 refine W39 ?_
 refine W60 ?_
 refine W199 ?_
 refine W51 ?_
 refine W67 ?_
 refine WA.abs (fun W hW => ?_)
 have st1111111111111000 : ∀ (q : Rd × Option Addr × Nat) (hq : q.1.Area r (a + nextF 0 (seenR r.V a k) % 2 * ((k : Int) / 2)) (areaS (nextF 0 (seenR r.V a k)) 0 (([] : List Bs).map Bs.s))) (b3 : Nat), W 3 #[true, true, true, true, true, true, true, true, true, true, true, true, true, false, false, false] ⟨33, []⟩ [(3, .pointer (some ⟨b1, 0, none⟩)), (6, .pointer (some ⟨b2, 0, none⟩)), (9, .pointer (some ⟨b3, 0, none⟩)), (28, .agg q.1.cells.toArray), (29, .agg (rjc (jrr a k (nextF 0 (seenR r.V a k)) 0 (1 + needs (([] : List Bs).map Bs.s)) ([] : List Bs).length) q.2.1 q.2.2 ([] : List Bs).length).toArray), (30, .int .i64 0)] [blk b3 [.int .i64 0, .int .i64 0, .int .i64 0, .int .i64 0, .int .i64 0, .int .i64 0, .slice none 0 0, .int .i64 0, .int .i64 0] 41, own (.slice q.1.A q.1.ds.length q.1.c) 30 1 q.1.ds.length (q.1.ds.map Bs.v), rowsC true q.1.ds, own (.slice q.1.Aw q.1.ws.length q.1.cw) 84 2 q.1.ws.length (q.1.ws.flatMap Wb.cells), rowsC true (q.1.ws.map Wb.b), rd (.slice none 0 0) 1 0 [], blk b1 r.cells 39, blk b2 [.slice none 0 0, .slice none 0 0, .int .i64 0, .bool false, .int .i64 0] 39, frameC w0 (MutF [own (.slice r.A r.ds.length r.c) 30 1 r.ds.length (r.ds.map Bs.v), rowsC true r.ds, own (.slice r.Aw r.ws.length r.cw) 84 2 r.ws.length (r.ws.flatMap Wb.cells), rowsC true (r.ws.map Wb.b)])] := by
  intro q hq b3
  subst hW
  refine WA.stepo (G := []) (i := 13) (by kernel_rfl) rfl rfl (op_storeAll sz39 rfl rfl xK xL xO xL) (fun h => absurd rfl h) ?_
  refine WA.stepoA (i := 14) (by kernel_rfl) rfl rfl (by kernel_rfl) (op_storeAll sz41 rfl rfl xK xL xO xL) ?_
  refine WA.pure (i := 15) rfl (by kernel_rfl) (fun _ _ _ h => h) rfl (op_assign (lt_ rfl) rfl) (.inl (by kernel_rfl)) ?_
  refine W19 ?_
  refine WX.blkEq (b := b1) q.1.cells xK (by rfl) ?_
  refine WX.regs (L' := [(3, _), (6, _), (10, _)]) ?_
  refine W249 ?_
  refine W41 ?_
  refine W4 ?_
  refine W50 ?_
  refine W271 ?_
  refine WX.regs (L' := [(6, _), (7, _)]) ?_
  refine W242 ?_
  exact Fin.ret2 xI (q.1) (hq) Tryz.results21 rfl (.cellN rfl ag39 xM xL) (.tmp rfl) xT (by simp)
 have st1111111100000000 : ∀ (q : Rd × Option Addr × Nat) (hq : q.1.Area r (a + nextF 0 (seenR r.V a k) % 2 * ((k : Int) / 2)) (areaS (nextF 0 (seenR r.V a k)) 0 (([] : List Bs).map Bs.s))), W 8 #[true, true, true, true, true, true, true, true, false, false, false, false, false, false, false, false] ⟨33, []⟩ [(3, .pointer (some ⟨b1, 0, none⟩)), (6, .pointer (some ⟨b2, 0, none⟩)), (27, .tuple #[.agg q.1.cells.toArray, .agg (rjc (jrr a k (nextF 0 (seenR r.V a k)) 0 (1 + needs (([] : List Bs).map Bs.s)) ([] : List Bs).length) q.2.1 q.2.2 ([] : List Bs).length).toArray, .int .i64 0])] [own (.slice q.1.A q.1.ds.length q.1.c) 30 1 q.1.ds.length (q.1.ds.map Bs.v), rowsC true q.1.ds, own (.slice q.1.Aw q.1.ws.length q.1.cw) 84 2 q.1.ws.length (q.1.ws.flatMap Wb.cells), rowsC true (q.1.ws.map Wb.b), rd (.slice none 0 0) 1 0 [], blk b1 r.cells 39, blk b2 [.slice none 0 0, .slice none 0 0, .int .i64 0, .bool false, .int .i64 0] 39, frameC w0 (MutF [own (.slice r.A r.ds.length r.c) 30 1 r.ds.length (r.ds.map Bs.v), rowsC true r.ds, own (.slice r.Aw r.ws.length r.cw) 84 2 r.ws.length (r.ws.flatMap Wb.cells), rowsC true (r.ws.map Wb.b)])] := by
  intro q hq
  subst hW
  refine W71 ?_
  refine WA.take (i := 9) rfl (by kernel_rfl) (fun _ _ _ h => h) rfl (op_extract (lt_ rfl) rfl rfl) xT ?_
  refine WA.pure (i := 10) rfl (by kernel_rfl) (fun _ _ _ h => h) rfl (op_extract (lt_ rfl) rfl rfl) (.inr ⟨_, xT⟩) ?_
  refine WA.pure (i := 11) rfl (by kernel_rfl) (fun _ _ _ h => h) rfl (op_extract (lt_ rfl) rfl rfl) (.inr ⟨_, xT⟩) ?_
  refine WA.pick (l := [12]) (by kernel_rfl) rfl (fun i hi => ?_)
  simp only [List.mem_cons, List.not_mem_nil, or_false] at hi
  subst hi
  ·
   refine WA.one1 rfl rfl (op_alloc ti41 (lt_ rfl)) (fun _ b => xT) fun b3 => ?_
   exact WA.conv (by first | rfl | kernel_rfl) xR xT (st1111111111111000 q hq b3)
 have st1111111100001000 : ∀ (q : Rd × Option Addr × Nat) (hq : q.1.Area r (a + nextF 0 (seenR r.V a k) % 2 * ((k : Int) / 2)) (areaS (nextF 0 (seenR r.V a k)) 0 (([] : List Bs).map Bs.s))) (b3 : Nat), W 7 #[true, true, true, true, true, true, true, true, false, false, false, false, true, false, false, false] ⟨33, []⟩ [(3, .pointer (some ⟨b1, 0, none⟩)), (6, .pointer (some ⟨b2, 0, none⟩)), (9, .pointer (some ⟨b3, 0, none⟩)), (27, .tuple #[.agg q.1.cells.toArray, .agg (rjc (jrr a k (nextF 0 (seenR r.V a k)) 0 (1 + needs (([] : List Bs).map Bs.s)) ([] : List Bs).length) q.2.1 q.2.2 ([] : List Bs).length).toArray, .int .i64 0])] [blk b3 [.int .i64 0, .int .i64 0, .int .i64 0, .int .i64 0, .int .i64 0, .int .i64 0, .slice none 0 0, .int .i64 0, .int .i64 0] 41, own (.slice q.1.A q.1.ds.length q.1.c) 30 1 q.1.ds.length (q.1.ds.map Bs.v), rowsC true q.1.ds, own (.slice q.1.Aw q.1.ws.length q.1.cw) 84 2 q.1.ws.length (q.1.ws.flatMap Wb.cells), rowsC true (q.1.ws.map Wb.b), rd (.slice none 0 0) 1 0 [], blk b1 r.cells 39, blk b2 [.slice none 0 0, .slice none 0 0, .int .i64 0, .bool false, .int .i64 0] 39, frameC w0 (MutF [own (.slice r.A r.ds.length r.c) 30 1 r.ds.length (r.ds.map Bs.v), rowsC true r.ds, own (.slice r.Aw r.ws.length r.cw) 84 2 r.ws.length (r.ws.flatMap Wb.cells), rowsC true (r.ws.map Wb.b)])] := by
  intro q hq b3
  subst hW
  refine W71 ?_
  refine WA.take (i := 9) rfl (by kernel_rfl) (fun _ _ _ h => h) rfl (op_extract (lt_ rfl) rfl rfl) xT ?_
  refine WA.pure (i := 10) rfl (by kernel_rfl) (fun _ _ _ h => h) rfl (op_extract (lt_ rfl) rfl rfl) (.inr ⟨_, xT⟩) ?_
  refine WA.pure (i := 11) rfl (by kernel_rfl) (fun _ _ _ h => h) rfl (op_extract (lt_ rfl) rfl rfl) (.inr ⟨_, xT⟩) ?_
  refine WA.stepo (G := []) (i := 13) (by kernel_rfl) rfl rfl (op_storeAll sz39 rfl rfl xK xL xO xL) (fun h => absurd rfl h) ?_
  refine WA.stepoA (i := 14) (by kernel_rfl) rfl rfl (by kernel_rfl) (op_storeAll sz41 rfl rfl xK xL xO xL) ?_
  refine WA.pure (i := 15) rfl (by kernel_rfl) (fun _ _ _ h => h) rfl (op_assign (lt_ rfl) rfl) (.inl (by kernel_rfl)) ?_
  refine W19 ?_
  refine WX.blkEq (b := b1) q.1.cells xK (by rfl) ?_
  refine WX.regs (L' := [(3, _), (6, _), (10, _)]) ?_
  refine W249 ?_
  refine W41 ?_
  refine W4 ?_
  refine W50 ?_
  refine W271 ?_
  refine WX.regs (L' := [(6, _), (7, _)]) ?_
  refine W242 ?_
  exact Fin.ret2 xI (q.1) (hq) Tryz.results21 rfl (.cellN rfl ag39 xM xL) (.tmp rfl) xT (by simp)
 have st1111111000001000 : ∀ (b3 : Nat), W 8 #[true, true, true, true, true, true, true, false, false, false, false, false, true, false, false, false] ⟨33, []⟩ [(3, .pointer (some ⟨b1, 0, none⟩)), (6, .pointer (some ⟨b2, 0, none⟩)), (9, .pointer (some ⟨b3, 0, none⟩)), (20, .agg r.cells.toArray), (21, .int .i64 a), (22, .int .i64 (k : Int)), (26, .int .i64 (nextF 0 (seenR r.V a k)))] [blk b3 [.int .i64 0, .int .i64 0, .int .i64 0, .int .i64 0, .int .i64 0, .int .i64 0, .slice none 0 0, .int .i64 0, .int .i64 0] 41, own (.slice r.A r.ds.length r.c) 30 1 r.ds.length (r.ds.map Bs.v), rowsC true r.ds, own (.slice r.Aw r.ws.length r.cw) 84 2 r.ws.length (r.ws.flatMap Wb.cells), rowsC true (r.ws.map Wb.b), rowsC true ([] : List Bs), rd (.slice none 0 0) 1 0 [], blk b1 r.cells 39, blk b2 [.slice none 0 0, .slice none 0 0, .int .i64 0, .bool false, .int .i64 0] 39, frameC w0 (MutF [own (.slice r.A r.ds.length r.c) 30 1 r.ds.length (r.ds.map Bs.v), rowsC true r.ds, own (.slice r.Aw r.ws.length r.cw) 84 2 r.ws.length (r.ws.flatMap Wb.cells), rowsC true (r.ws.map Wb.b)])] := by
  intro b3
  subst hW
  refine WA.pick (l := [7]) (by kernel_rfl) rfl (fun i hi => ?_)
  simp only [List.mem_cons, List.not_mem_nil, or_false] at hi
  subst hi
  ·
   refine W236 ?_
   rintro q hq
   exact WA.conv (by first | rfl | kernel_rfl) xR xT (st1111111100001000 q hq b3)
 have st1111111000000000 : ∀ (_u : Unit), W 9 #[true, true, true, true, true, true, true, false, false, false, false, false, false, false, false, false] ⟨33, []⟩ [(3, .pointer (some ⟨b1, 0, none⟩)), (6, .pointer (some ⟨b2, 0, none⟩)), (20, .agg r.cells.toArray), (21, .int .i64 a), (22, .int .i64 (k : Int)), (26, .int .i64 (nextF 0 (seenR r.V a k)))] [own (.slice r.A r.ds.length r.c) 30 1 r.ds.length (r.ds.map Bs.v), rowsC true r.ds, own (.slice r.Aw r.ws.length r.cw) 84 2 r.ws.length (r.ws.flatMap Wb.cells), rowsC true (r.ws.map Wb.b), rowsC true ([] : List Bs), rd (.slice none 0 0) 1 0 [], blk b1 r.cells 39, blk b2 [.slice none 0 0, .slice none 0 0, .int .i64 0, .bool false, .int .i64 0] 39, frameC w0 (MutF [own (.slice r.A r.ds.length r.c) 30 1 r.ds.length (r.ds.map Bs.v), rowsC true r.ds, own (.slice r.Aw r.ws.length r.cw) 84 2 r.ws.length (r.ws.flatMap Wb.cells), rowsC true (r.ws.map Wb.b)])] := by
  intro _u
  subst hW
  refine WA.pick (l := [7, 12]) (by kernel_rfl) rfl (fun i hi => ?_)
  simp only [List.mem_cons, List.not_mem_nil, or_false] at hi
  rcases hi with rfl | rfl
  ·
   refine W236 ?_
   rintro q hq
   exact WA.conv (by first | rfl | kernel_rfl) xR xT (st1111111100000000 q hq)
  ·
   refine WA.one1 rfl rfl (op_alloc ti41 (lt_ rfl)) (fun _ b => xT) fun b3 => ?_
   exact WA.conv (by first | rfl | kernel_rfl) xR xT (st1111111000001000 b3)
 have st1111110000001000 : ∀ (b3 : Nat), W 9 #[true, true, true, true, true, true, false, false, false, false, false, false, true, false, false, false] ⟨33, []⟩ [(3, .pointer (some ⟨b1, 0, none⟩)), (6, .pointer (some ⟨b2, 0, none⟩)), (9, .pointer (some ⟨b3, 0, none⟩)), (20, .agg r.cells.toArray), (21, .int .i64 a), (22, .int .i64 (k : Int)), (23, .agg r.cells.toArray), (24, .int .i64 a), (25, .int .i64 (k : Int))] [blk b3 [.int .i64 0, .int .i64 0, .int .i64 0, .int .i64 0, .int .i64 0, .int .i64 0, .slice none 0 0, .int .i64 0, .int .i64 0] 41, own (.slice r.A r.ds.length r.c) 30 1 r.ds.length (r.ds.map Bs.v), rowsC true r.ds, own (.slice r.Aw r.ws.length r.cw) 84 2 r.ws.length (r.ws.flatMap Wb.cells), rowsC true (r.ws.map Wb.b), rowsC true ([] : List Bs), rd (.slice none 0 0) 1 0 [], blk b1 r.cells 39, blk b2 [.slice none 0 0, .slice none 0 0, .int .i64 0, .bool false, .int .i64 0] 39, frameC w0 (MutF [own (.slice r.A r.ds.length r.c) 30 1 r.ds.length (r.ds.map Bs.v), rowsC true r.ds, own (.slice r.Aw r.ws.length r.cw) 84 2 r.ws.length (r.ws.flatMap Wb.cells), rowsC true (r.ws.map Wb.b)])] := by
  intro b3
  subst hW
  refine WA.pick (l := [6]) (by kernel_rfl) rfl (fun i hi => ?_)
  simp only [List.mem_cons, List.not_mem_nil, or_false] at hi
  subst hi
  ·
   refine WA.onex rfl rfl (op_call (f52_spec r hr a k 0 (by omega) (.inl rfl)) ca52 (lt_ rfl) rfl) (fun _ r => xT) ?_
   rintro _ _
   exact WA.conv (by first | rfl | kernel_rfl) xR xT (st1111111000001000 b3)
 subst hW
 refine WA.pick (l := [6, 12]) (by kernel_rfl) rfl (fun i hi => ?_)
 simp only [List.mem_cons, List.not_mem_nil, or_false] at hi
 rcases hi with rfl | rfl
 ·
  refine WA.onex rfl rfl (op_call (f52_spec r hr a k 0 (by omega) (.inl rfl)) ca52 (lt_ rfl) rfl) (fun _ r => xT) ?_
  rintro _ _
  exact WA.conv (by first | rfl | kernel_rfl) xR xT (st1111111000000000 ())
 ·
  refine WA.one1 rfl rfl (op_alloc ti41 (lt_ rfl)) (fun _ b => xT) fun b3 => ?_
  exact WA.conv (by first | rfl | kernel_rfl) xR xT (st1111110000001000 b3)
set_option maxHeartbeats 400000 in
set_option maxRecDepth 10000 in
theorem f28_spec (r : Rd) (hr : r.Ok) (J : Jn) (A : Option Addr) (c m : Nat) (hfl : J.failed = 0) (hb : 0 ≤ J.first ∧ J.first ≤ 1000000000000 ∧ m ≤ 1000000) :
  Spec Tryz.prog 28 [.agg r.cells.toArray, .agg (rjc J A c m).toArray] [own (.slice r.A r.ds.length r.c) 30 1 r.ds.length (r.ds.map Bs.v), rowsC true r.ds, own (.slice r.Aw r.ws.length r.cw) 84 2 r.ws.length (r.ws.flatMap Wb.cells), rowsC true (r.ws.map Wb.b)] [] (R := Rd) (fun q => q.Flushed r) (fun q => .tuple #[.agg q.cells.toArray, .agg (rjc { J with synced := J.first + m } A c m).toArray, .int .i64 0]) (fun q => [own (.slice q.A q.ds.length q.c) 30 1 q.ds.length (q.ds.map Bs.v), rowsC true q.ds, own (.slice q.Aw q.ws.length q.cw) 84 2 q.ws.length (q.ws.flatMap Wb.cells), rowsC true (q.ws.map Wb.b)]) := by
 refine Spec.intro Tryz.func28 Tryz.ntmps28 rfl (by simp) (by simp) fun w0 => ?_
 refine W240 ?_
 refine wl1 (op_box (lt_ rfl) rfl rfl) rfl fun b1 => ?_
 refine wl1 (op_box (lt_ rfl) rfl rfl) rfl fun b2 => ?_
 refine wl1 (op_alloc ti39 (lt_ rfl)) rfl fun b3 => ?_
 refine wl1 (op_alloc ti41 (lt_ rfl)) rfl fun b4 => ?_
 refine W241 ?_
 refine W121 ?_
 refine W354 ?_
 refine W21 ?_
 refine W24 ?_
 rw [show decide (¬ J.failed = 0) = false from decide_eq_false (fun k => k hfl)]
 refine W2 ?_
 refine WX.regs (L' := [(2, _), (3, _), (4, _), (5, _), (10, _)]) ?_
 refine W281 ?_
 refine W249 ?_
 refine W41 ?_
 refine wlx (op_call (f57_spec r hr) ca57 (lt_ rfl) rfl) rfl ?_
 rintro q hq
 refine W296 ?_
 refine W50 ?_
 refine W271 ?_
 refine WX.blkEq (b := b1) q.cells xK (by rfl) ?_
 refine WX.regs (L' := [(2, _), (3, _), (4, _), (5, _), (7, _)]) ?_
 refine W332 ?_
 refine WX.regs (L' := [(2, _), (3, _), (4, _), (5, _), (7, _), (21, _)]) ?_
 refine W281 ?_
 refine W249 ?_
 refine W355 ?_
 refine wlv (op_fieldAddr fo41_6 (lt_ rfl) rfl) rfl ?_
 refine W65 ?_
 refine W40 ?_
 refine W16 ?_
 refine wlv (op_fieldAddr fo41_7 (lt_ rfl) rfl) rfl ?_
 refine W61 ?_
 refine W252 ?_
 refine WX.blkEq (b := b2) (rjc { J with synced := J.first + m } A c m) xK (by rfl) ?_
 refine W121 ?_
 refine W327 ?_
 refine WC.drawn (Hs := [blk b1 q.cells 39, blk b2 (rjc { J with synced := J.first + m } A c m) 41]) mo 999 ?_
 refine W70 ?_
 refine W106 ?_
 refine W118 ?_
 refine W119 ?_
 refine W101 ?_
 refine W19 ?_
 refine WX.regs (L' := [(4, _), (5, _), (6, _)]) ?_
 refine W242 ?_
 exact Fin.ret3 xI (q) (hq) Tryz.results28 rfl (.cellN rfl ag39 xM xL) (.cellN rfl ag41 xM xL) (.tmp rfl) xT (by simp)
set_option maxHeartbeats 400000 in
set_option maxRecDepth 10000 in
theorem f26_spec (r : Rd) (hr : r.Ok) (J : Jn) (A : Option Addr) (c : Nat) (es : List Bs) (hfl : J.failed = 0) (hJ : 0 ≤ J.fi ∧ J.fi ≤ 100000 ∧ 8 ≤ J.se ∧ J.se ≤ 100000 ∧ 0 ≤ J.used ∧ J.used ≤ 100000 ∧ 0 ≤ J.gen ∧ J.gen ≤ 2147483647 ∧ 0 ≤ J.first ∧ J.first ≤ 1000000000 ∧ es.length ≤ 100000) (Ab : Option Addr) (cb : Nat) (p : List UInt8) (hp : p.length ≤ 100000) (hfit : ((need p.length : Nat) : Int) ≤ J.se / 2 - J.used) (hroom : (J.fi + J.gen % 2 * (J.se / 2) + J.used) + (need p.length : Nat) ≤ r.ds.length) (hw : r.ws.length + 1000 ≤ 1000000) :
  Spec Tryz.prog 26 [.agg r.cells.toArray, .agg (rjc J A c es.length).toArray, .slice Ab p.length cb] [own (.slice r.A r.ds.length r.c) 30 1 r.ds.length (r.ds.map Bs.v), rowsC true r.ds, own (.slice r.Aw r.ws.length r.cw) 84 2 r.ws.length (r.ws.flatMap Wb.cells), rowsC true (r.ws.map Wb.b), own (.slice A es.length c) 30 1 es.length (es.map Bs.v), rowsC true es] [rd (.slice Ab p.length cb) 1 p.length (bvs p)] (R := Rd × Option Addr × Nat × Option Addr × Nat) (fun q => q.1.Put r (J.fi + J.gen % 2 * (J.se / 2) + J.used) (sects 2 J.gen ((es.length : Int) + 1) p))
   (fun q => .tuple #[.agg q.1.cells.toArray, .agg (rjc { J with used := J.used + (need p.length : Nat) } q.2.1 q.2.2.1 (es ++ [(⟨q.2.2.2.1, q.2.2.2.2, p⟩ : Bs)]).length).toArray, .int .i64 (J.first + es.length), .int .i64 0]) (fun q => [own (.slice q.1.A q.1.ds.length q.1.c) 30 1 q.1.ds.length (q.1.ds.map Bs.v), rowsC true q.1.ds, own (.slice q.1.Aw q.1.ws.length q.1.cw) 84 2 q.1.ws.length (q.1.ws.flatMap Wb.cells), rowsC true (q.1.ws.map Wb.b), own (.slice q.2.1 (es ++ [(⟨q.2.2.2.1, q.2.2.2.2, p⟩ : Bs)]).length q.2.2.1) 30 1 (es ++ [(⟨q.2.2.2.1, q.2.2.2.2, p⟩ : Bs)]).length ((es ++ [(⟨q.2.2.2.1, q.2.2.2.2, p⟩ : Bs)]).map Bs.v), rowsC true (es ++ [(⟨q.2.2.2.1, q.2.2.2.2, p⟩ : Bs)])]) := by
 have hnl := need_le (m := p.length) (by omega)
 have hrn := hr.n
 have hgm : 0 ≤ J.gen % 2 * (J.se / 2) ∧ J.gen % 2 * (J.se / 2) ≤ 100000 := by rcases (show J.gen % 2 = 0 ∨ J.gen % 2 = 1 by omega) with e | e <;> rw [e] <;> omega
 refine Spec.intro Tryz.func26 Tryz.ntmps26 rfl (by simp) (by simp) fun w0 => ?_
 refine W240 ?_
 refine wl1 (op_box (lt_ rfl) rfl rfl) rfl fun b1 => ?_
 refine wl1 (op_box (lt_ rfl) rfl rfl) rfl fun b2 => ?_
 refine wl1 (op_alloc ti39 (lt_ rfl)) rfl fun b3 => ?_
 refine wl1 (op_alloc ti41 (lt_ rfl)) rfl fun b4 => ?_
 refine W251 ?_
 refine W149 ?_
 refine W354 ?_
 refine W21 ?_
 refine W24 ?_
 rw [show decide (¬ J.failed = 0) = false from decide_eq_false (fun k => k hfl)]
 refine W2 ?_
 refine WX.regs (L' := [(2, _), (3, _), (4, _), (6, _), (7, _), (14, _)]) ?_
 refine W281 ?_
 refine W282 ?_
 refine W38 ?_
 refine W56 ?_
 refine W2 ?_
 refine WX.regs (L' := [(2, _), (3, _), (4, _), (6, _), (7, _), (21, _)]) ?_
 refine W0 ?_
 refine WC.cond rfl (fun h2 => ?_) (fun h2 => ?_)
 ·
  exfalso; omega
 ·
  refine W262 ?_
  refine W1 ?_
  refine W1 ?_
  refine WC.drawn (Hs := [blk b2 (rjc J A c es.length) 41]) mo 999 ?_
  refine W29 ?_
  refine WA.take (i := 1) rfl (by kernel_rfl) (fun _ _ _ h => h) rfl (op_len Tryz.underlying30 (lt_ rfl) rfl) xT ?_
  refine WA.take (i := 3) rfl (by kernel_rfl) (fun _ _ _ h => h) rfl (op_fieldAddr fo41_1 (lt_ rfl) rfl) xT ?_
  refine W129 ?_
  refine WA.take (i := 5) rfl (by kernel_rfl) (fun _ _ _ h => h) rfl (op_fieldAddr fo41_4 (lt_ rfl) rfl) xT ?_
  refine W167 ?_
  refine WA.take (i := 7) rfl (by kernel_rfl) (fun _ _ _ h => h) rfl (op_sub (lt_ rfl) rfl rfl (by omega)) xT ?_
  refine WA.stepx (i := 2) (by kernel_rfl) rfl rfl (op_call (f54_spec p.length (by omega)) ca54 (lt_ rfl) rfl) (fun _ r => xT) ?_
  rintro _ _
  refine WA.take (i := 8) rfl (by kernel_rfl) (fun _ _ _ h => h) rfl (op_gtr (lt_ rfl) rfl rfl) xT ?_
  refine W19 ?_
  refine WX.regs (L' := [(2, _), (3, _), (4, _), (6, _), (7, _), (32, _)]) ?_
  refine W0 ?_
  refine WC.cond rfl (fun h3 => ?_) (fun h3 => ?_)
  ·
   exfalso; omega
  ·
   refine W274 ?_
   refine W41 ?_
   refine wlv (op_fieldAddr fo41_0 (lt_ rfl) rfl) rfl ?_
   refine W21 ?_
   refine wlv (op_fieldAddr fo41_3 (lt_ rfl) rfl) rfl ?_
   refine W21 ?_
   refine W78 ?_
   refine wlv (op_fieldAddr fo41_1 (lt_ rfl) rfl) rfl ?_
   refine W21 ?_
   refine wlv (op_mul (lt_ rfl) rfl rfl (by rcases (show J.gen % 2 = 0 ∨ J.gen % 2 = 1 by omega) with e | e <;> rw [e] <;> omega)) rfl ?_
   refine W16 ?_
   refine wlv (op_fieldAddr fo41_4 (lt_ rfl) rfl) rfl ?_
   refine W21 ?_
   refine W16 ?_
   refine wlv (op_fieldAddr fo41_3 (lt_ rfl) rfl) rfl ?_
   refine W21 ?_
   refine wlv (op_fieldAddr fo41_6 (lt_ rfl) rfl) rfl ?_
   refine W65 ?_
   refine W40 ?_
   refine W16 ?_
   refine W4 ?_
   refine wlx (op_call (f55_spec r hr (J.fi + J.gen % 2 * (J.se / 2) + J.used) 2 J.gen ((es.length : Int) + 1) Ab p.length cb p rfl (by simp only [fineP]; omega) (by omega) ⟨by omega, hroom⟩ hw) ca55 (lt_ rfl) rfl) rfl ?_
   rintro q hq
   refine W296 ?_
   refine W20 ?_
   refine W50 ?_
   refine W305 ?_
   refine WX.blkEq (b := b1) q.cells xK (by rfl) ?_
   refine WX.regs (L' := [(2, _), (3, _), (4, _), (6, _), (7, _), (10, _), (11, _)]) ?_
   refine W332 ?_
   refine WX.regs (L' := [(2, _), (3, _), (4, _), (6, _), (7, _), (10, _), (11, _), (61, _)]) ?_
   refine W281 ?_
   refine W249 ?_
   refine wlv (op_fieldAddr fo41_4 (lt_ rfl) rfl) rfl ?_
   refine W21 ?_
   refine W4 ?_
   refine W16 ?_
   refine wlv (op_fieldAddr fo41_4 (lt_ rfl) rfl) rfl ?_
   refine W61 ?_
   refine W252 ?_
   refine WX.blkEq (b := b2) (rjc { J with used := J.used + (need p.length : Nat) } A c es.length) xK (by rfl) ?_
   refine W149 ?_
   refine W249 ?_
   refine wl1 (op_lit0 Tryz.underlying36 ti30 (lt_ rfl)) rfl fun b5 => ?_
   refine wlv (op_fieldAddr fo41_6 (lt_ rfl) rfl) rfl ?_
   refine W65 ?_
   refine wl2 (op_append0 Tryz.underlying36 ti30 rfl (by decide) (lt_ rfl) rfl rfl xK xS (rows_one _) (by omega) (by omega)) rfl fun A1 c1 => ?_
   refine wl1 (op_lit0 Tryz.underlying30 ti5 (lt_ rfl)) rfl fun b6 => ?_
   refine W4 ?_
   refine wl2 (op_append0 Tryz.underlying30 ti5 rfl (by decide) (lt_ rfl) rfl rfl xK xS (bvs_one _) (by omega) (by omega)) rfl fun A2 c2 => ?_
   refine wl1 (op_lit1 Tryz.underlying36 ti30 rfl (by decide) (lt_ rfl) rfl rfl) rfl fun b7 => ?_
   refine wl2 (op_append Tryz.underlying36 ti30 rfl (by decide) (lt_ rfl) rfl rfl xK xS (by rfl) (by omega) (by omega)) rfl fun A3 c3 => ?_
   refine wlv (op_fieldAddr fo41_6 (lt_ rfl) rfl) rfl ?_
   refine W134 ?_
   refine W252 ?_
   refine WX.ownEq (v := .slice A3 (es.length + 1) c3) ((es ++ [(⟨A2, c2, p⟩ : Bs)]).map Bs.v) xK (by rw [← map_push]; rfl) ?_
   refine WX.merge2 (c1 := rowsC true es) (c2 := own (.slice A2 p.length c2) 5 1 p.length (bvs p)) (d := rowsC true (es ++ [⟨A2, c2, p⟩])) xK xK (rowsC_snoc (own_le_bs rfl) (fun _ => by simp)) ?_
   rw [len_push es ⟨A2, c2, p⟩]
   refine WX.blkEq (b := b2) (rjc { J with used := J.used + (need p.length : Nat) } A3 c3 (es ++ [(⟨A2, c2, p⟩ : Bs)]).length) xK (by rfl) ?_
   refine WX.regs (L' := [(3, _), (4, _), (6, _), (7, _)]) ?_
   refine W327 ?_
   refine WC.drawn (Hs := [blk b1 q.cells 39, blk b2 (rjc { J with used := J.used + (need p.length : Nat) } A3 c3 (es ++ [(⟨A2, c2, p⟩ : Bs)]).length) 41]) mo 999 ?_
   refine W70 ?_
   refine W106 ?_
   refine WA.take (i := 2) rfl (by kernel_rfl) (fun _ _ _ h => h) rfl (op_fieldAddr fo41_5 (lt_ rfl) rfl) xT ?_
   refine W198 ?_
   refine WA.take (i := 4) rfl (by kernel_rfl) (fun _ _ _ h => h) rfl (op_fieldAddr fo41_6 (lt_ rfl) rfl) xT ?_
   refine WA.take (i := 5) rfl (by kernel_rfl) (fun _ _ _ h => h) rfl (op_load1 fl36 (lt_ rfl) rfl xM rfl) xT ?_
   refine WA.take (i := 6) rfl (by kernel_rfl) (fun _ _ _ h => h) rfl (op_len Tryz.underlying36 (lt_ rfl) rfl) xT ?_
   refine WA.take (i := 7) rfl (by kernel_rfl) (fun _ _ _ h => h) rfl (op_add (lt_ rfl) rfl rfl (by show -9223372036854775808 ≤ J.first + (((es ++ [(⟨A2, c2, p⟩ : Bs)]).length : Nat) : Int) ∧ J.first + (((es ++ [(⟨A2, c2, p⟩ : Bs)]).length : Nat) : Int) < 9223372036854775808; rw [List.length_append, List.length_singleton]; omega)) xT ?_
   refine WA.take (i := 8) rfl (by kernel_rfl) (fun _ _ _ h => h) rfl (op_sub (lt_ rfl) rfl rfl (by show -9223372036854775808 ≤ J.first + (((es ++ [(⟨A2, c2, p⟩ : Bs)]).length : Nat) : Int) - 1 ∧ J.first + (((es ++ [(⟨A2, c2, p⟩ : Bs)]).length : Nat) : Int) - 1 < 9223372036854775808; rw [List.length_append, List.length_singleton]; omega)) xT ?_
   refine WA.stepo (i := 9) (by kernel_rfl) rfl rfl (op_storeAll sz39 rfl rfl xK xL xO xL) (fun _ => xT) ?_
   refine WA.stepo (i := 10) (by kernel_rfl) rfl rfl (op_storeAll sz41 rfl rfl xK xL xO xL) (fun _ => xT) ?_
   refine W183 ?_
   refine WA.take (i := 12) rfl (by kernel_rfl) (fun _ _ _ h => h) rfl (op_assign (lt_ rfl) rfl) xT ?_
   refine W19 ?_
   rw [show J.first + (((es ++ [(⟨A2, c2, p⟩ : Bs)]).length : Nat) : Int) - 1 = J.first + (es.length : Nat) by rw [List.length_append, List.length_singleton]; omega]
   refine WX.regs (L' := [(6, _), (7, _), (8, _), (9, _)]) ?_
   refine W242 ?_
   exact Fin.ret4 xI ((q, A3, c3, A2, c2)) (hq) Tryz.results26 rfl (.cellN rfl ag39 xM xL) (.cellN rfl ag41 xM xL) (.tmp rfl) (.tmp rfl) xT (by simp)
set_option maxHeartbeats 400000 in
set_option maxRecDepth 10000 in
theorem f26_full (r : Rd) (hr : r.Ok) (J : Jn) (A : Option Addr) (c : Nat) (es : List Bs) (hfl : J.failed = 0) (hJ : 0 ≤ J.fi ∧ J.fi ≤ 100000 ∧ 8 ≤ J.se ∧ J.se ≤ 100000 ∧ 0 ≤ J.used ∧ J.used ≤ 100000 ∧ 0 ≤ J.gen ∧ J.gen ≤ 2147483647 ∧ 0 ≤ J.first ∧ J.first ≤ 1000000000 ∧ es.length ≤ 100000) (Ab : Option Addr) (cb : Nat) (p : List UInt8) (hp : p.length ≤ 100000) (hfit : J.se / 2 - J.used < ((need p.length : Nat) : Int)) :
  Spec Tryz.prog 26 [.agg r.cells.toArray, .agg (rjc J A c es.length).toArray, .slice Ab p.length cb] [own (.slice r.A r.ds.length r.c) 30 1 r.ds.length (r.ds.map Bs.v), rowsC true r.ds, own (.slice r.Aw r.ws.length r.cw) 84 2 r.ws.length (r.ws.flatMap Wb.cells), rowsC true (r.ws.map Wb.b), own (.slice A es.length c) 30 1 es.length (es.map Bs.v), rowsC true es] [rd (.slice Ab p.length cb) 1 p.length (bvs p)] (R := Unit) (fun _ => True)
   (fun _ => .tuple #[.agg r.cells.toArray, .agg (rjc J A c es.length).toArray, .int .i64 0, .int .i64 9]) (fun _ => [own (.slice r.A r.ds.length r.c) 30 1 r.ds.length (r.ds.map Bs.v), rowsC true r.ds, own (.slice r.Aw r.ws.length r.cw) 84 2 r.ws.length (r.ws.flatMap Wb.cells), rowsC true (r.ws.map Wb.b), own (.slice A es.length c) 30 1 es.length (es.map Bs.v), rowsC true es]) := by
 have hnl := need_le (m := p.length) (by omega)
 have hrn := hr.n
 have hgm : 0 ≤ J.gen % 2 * (J.se / 2) ∧ J.gen % 2 * (J.se / 2) ≤ 100000 := by rcases (show J.gen % 2 = 0 ∨ J.gen % 2 = 1 by omega) with e | e <;> rw [e] <;> omega
 refine Spec.intro Tryz.func26 Tryz.ntmps26 rfl (by simp) (by simp) fun w0 => ?_
 refine W240 ?_
 refine wl1 (op_box (lt_ rfl) rfl rfl) rfl fun b1 => ?_
 refine wl1 (op_box (lt_ rfl) rfl rfl) rfl fun b2 => ?_
 refine wl1 (op_alloc ti39 (lt_ rfl)) rfl fun b3 => ?_
 refine wl1 (op_alloc ti41 (lt_ rfl)) rfl fun b4 => ?_
 refine W251 ?_
 refine W149 ?_
 refine W354 ?_
 refine W21 ?_
 refine W24 ?_
 rw [show decide (¬ J.failed = 0) = false from decide_eq_false (fun k => k hfl)]
 refine W2 ?_
 refine WX.regs (L' := [(2, _), (3, _), (4, _), (6, _), (7, _), (14, _)]) ?_
 refine W281 ?_
 refine W282 ?_
 refine W38 ?_
 refine W56 ?_
 refine W2 ?_
 refine WX.regs (L' := [(2, _), (3, _), (4, _), (6, _), (7, _), (21, _)]) ?_
 refine W0 ?_
 refine WC.cond rfl (fun h2 => ?_) (fun h2 => ?_)
 ·
  exfalso; omega
 ·
  refine W262 ?_
  refine W1 ?_
  refine W1 ?_
  refine WC.drawn (Hs := [blk b2 (rjc J A c es.length) 41]) mo 999 ?_
  refine W29 ?_
  refine WA.take (i := 1) rfl (by kernel_rfl) (fun _ _ _ h => h) rfl (op_len Tryz.underlying30 (lt_ rfl) rfl) xT ?_
  refine WA.take (i := 3) rfl (by kernel_rfl) (fun _ _ _ h => h) rfl (op_fieldAddr fo41_1 (lt_ rfl) rfl) xT ?_
  refine W129 ?_
  refine WA.take (i := 5) rfl (by kernel_rfl) (fun _ _ _ h => h) rfl (op_fieldAddr fo41_4 (lt_ rfl) rfl) xT ?_
  refine W167 ?_
  refine WA.take (i := 7) rfl (by kernel_rfl) (fun _ _ _ h => h) rfl (op_sub (lt_ rfl) rfl rfl (by omega)) xT ?_
  refine WA.stepx (i := 2) (by kernel_rfl) rfl rfl (op_call (f54_spec p.length (by omega)) ca54 (lt_ rfl) rfl) (fun _ r => xT) ?_
  rintro _ _
  refine WA.take (i := 8) rfl (by kernel_rfl) (fun _ _ _ h => h) rfl (op_gtr (lt_ rfl) rfl rfl) xT ?_
  refine W19 ?_
  refine WX.regs (L' := [(2, _), (3, _), (4, _), (6, _), (7, _), (32, _)]) ?_
  refine W0 ?_
  refine WC.cond rfl (fun h3 => ?_) (fun h3 => ?_)
  ·
   refine W1 ?_
   refine W325 ?_
   refine W106 ?_
   refine W118 ?_
   refine W119 ?_
   refine W101 ?_
   refine WA.take (i := 5) rfl (by kernel_rfl) (fun _ _ _ h => h) rfl (op_assign (lt_ rfl) rfl) xT ?_
   refine W19 ?_
   refine WX.regs (L' := [(6, _), (7, _), (8, _), (9, _)]) ?_
   refine W263 ?_
   exact Fin.ret4 xI (()) (trivial) Tryz.results26 rfl (.cellN rfl ag39 xM xL) (.cellN rfl ag41 xM xL) (.tmp rfl) (.tmp rfl) xT (by simp)
  ·
   exfalso; omega
end Go.Proofs.YtkjlbedebmffgaaGreat.Sx
namespace Go.Proofs.YtkjlbedebmffgaaGreat.Sx
open Go.RowKit Go.Proofs.YtkjlbedebmffgaaGreat.Ty
attribute [local irreducible] blk own rd rx frameC
theorem sliced_drop {A : Option Addr} {c : Nat} {es : List Bs} {m : Nat} (hm : m ≤ es.length) : ∃ AX cX, sliced A m es.length c 1 = .slice AX (es.drop m).length cX ∧
  (rd (.slice AX (es.drop m).length cX) 1 (es.drop m).length ((es.drop m).map Bs.v)).Le (rd (.slice A es.length c) 1 es.length (es.map Bs.v)) := by
 have h := rd_dropR (A := A) (c := c) (M := es.length) (l := m) (rs := es) rfl hm
 have hs : ∃ AX cX, sliced A m es.length c 1 = .slice AX (es.length - m) cX := ⟨_, _, rfl⟩
 obtain ⟨AX, cX, hs⟩ := hs
 refine ⟨AX, cX, by rw [hs, List.length_drop], ?_⟩
 rw [hs] at h
 rw [List.length_drop]
 exact h
set_option maxHeartbeats 400000 in
set_option maxRecDepth 10000 in
theorem f29_range (r : Rd) (J : Jn) (k : Nat) (A : Option Addr) (c : Nat) (es : List Bs) (hfl : J.failed = 0) (hJ : 0 ≤ J.first ∧ J.first ≤ 1000000000 ∧ es.length ≤ 100000) (before : Int) (hb : before < J.first ∨ J.first + es.length < before) :
  Spec Tryz.prog 29 [.agg r.cells.toArray, .agg (rjc J A c es.length).toArray, .int .i64 before] [own (.slice r.A r.ds.length r.c) 30 1 r.ds.length (r.ds.map Bs.v), rowsC true r.ds, own (.slice r.Aw r.ws.length r.cw) 84 2 r.ws.length (r.ws.flatMap Wb.cells), rowsC true (r.ws.map Wb.b), own (.slice A es.length c) 30 1 es.length (es.map Bs.v), rowsC true es] [] (R := Unit) (fun _ => True)
   (fun _ => .tuple #[.agg r.cells.toArray, .agg (rjc J A c es.length).toArray, .int .i64 2]) (fun _ => [own (.slice r.A r.ds.length r.c) 30 1 r.ds.length (r.ds.map Bs.v), rowsC true r.ds, own (.slice r.Aw r.ws.length r.cw) 84 2 r.ws.length (r.ws.flatMap Wb.cells), rowsC true (r.ws.map Wb.b), own (.slice A es.length c) 30 1 es.length (es.map Bs.v), rowsC true es]) := by
 refine Spec.intro Tryz.func29 Tryz.ntmps29 rfl (by simp) (by simp) fun w0 => ?_
 refine W240 ?_
 refine wl1 (op_box (lt_ rfl) rfl rfl) rfl fun b1 => ?_
 refine wl1 (op_box (lt_ rfl) rfl rfl) rfl fun b2 => ?_
 refine wl1 (op_alloc ti39 (lt_ rfl)) rfl fun b3 => ?_
 refine wl1 (op_alloc ti41 (lt_ rfl)) rfl fun b4 => ?_
 refine W241 ?_
 refine W149 ?_
 refine W354 ?_
 refine W21 ?_
 refine W24 ?_
 rw [show decide (¬ J.failed = 0) = false from decide_eq_false (fun k => k hfl)]
 refine W2 ?_
 refine WX.regs (L' := [(2, _), (3, _), (4, _), (6, _), (7, _), (13, _)]) ?_
 refine W281 ?_
 refine W282 ?_
 refine W355 ?_
 refine W25 ?_
 refine W4 ?_
 refine WL.split (t := 22) rfl (fun g22 => ?_) (fun g22 => ?_)
 ·
  refine W255 ?_
  refine W255 ?_
  refine W313 ?_
  refine WX.regs (L' := [(2, _), (3, _), (4, _), (6, _), (7, _), (31, _)]) ?_
  refine W362 ?_
  refine W1 ?_
  refine W325 ?_
  refine W106 ?_
  refine W118 ?_
  refine W119 ?_
  refine W101 ?_
  refine W19 ?_
  refine W45 ?_
  refine W263 ?_
  exact Fin.ret3 xI (()) (trivial) Tryz.results29 rfl (.cellN rfl ag39 xM xL) (.cellN rfl ag41 xM xL) (.tmp rfl) xT (by simp)
 ·
  refine W13 ?_
  refine wlgv (op_fieldAddr fo41_5 (lt_ rfl) rfl) rfl rfl rfl ?_
  refine W28 ?_
  refine wlgv (op_fieldAddr fo41_6 (lt_ rfl) rfl) rfl rfl rfl ?_
  refine W268 ?_
  refine W87 ?_
  refine W36 ?_
  refine W285 ?_
  refine WX.regs (L' := [(2, _), (3, _), (4, _), (6, _), (7, _), (31, _)]) ?_
  refine W0 ?_
  refine WC.cond rfl (fun h2 => ?_) (fun h2 => ?_)
  ·
   refine W1 ?_
   refine W325 ?_
   refine W106 ?_
   refine W118 ?_
   refine W119 ?_
   refine W101 ?_
   refine W19 ?_
   refine W45 ?_
   refine W263 ?_
   exact Fin.ret3 xI (()) (trivial) Tryz.results29 rfl (.cellN rfl ag39 xM xL) (.cellN rfl ag41 xM xL) (.tmp rfl) xT (by simp)
  ·
   exfalso; omega
set_option maxHeartbeats 400000 in
set_option maxRecDepth 10000 in
theorem f29_same (r : Rd) (J : Jn) (k : Nat) (A : Option Addr) (c : Nat) (es : List Bs) (hfl : J.failed = 0) (hJ : 0 ≤ J.first ∧ J.first ≤ 1000000000 ∧ es.length ≤ 100000) (before : Int) (hb : before = J.first) :
  Spec Tryz.prog 29 [.agg r.cells.toArray, .agg (rjc J A c es.length).toArray, .int .i64 before] [own (.slice r.A r.ds.length r.c) 30 1 r.ds.length (r.ds.map Bs.v), rowsC true r.ds, own (.slice r.Aw r.ws.length r.cw) 84 2 r.ws.length (r.ws.flatMap Wb.cells), rowsC true (r.ws.map Wb.b), own (.slice A es.length c) 30 1 es.length (es.map Bs.v), rowsC true es] [] (R := Unit) (fun _ => True)
   (fun _ => .tuple #[.agg r.cells.toArray, .agg (rjc J A c es.length).toArray, .int .i64 0]) (fun _ => [own (.slice r.A r.ds.length r.c) 30 1 r.ds.length (r.ds.map Bs.v), rowsC true r.ds, own (.slice r.Aw r.ws.length r.cw) 84 2 r.ws.length (r.ws.flatMap Wb.cells), rowsC true (r.ws.map Wb.b), own (.slice A es.length c) 30 1 es.length (es.map Bs.v), rowsC true es]) := by
 refine Spec.intro Tryz.func29 Tryz.ntmps29 rfl (by simp) (by simp) fun w0 => ?_
 refine W240 ?_
 refine wl1 (op_box (lt_ rfl) rfl rfl) rfl fun b1 => ?_
 refine wl1 (op_box (lt_ rfl) rfl rfl) rfl fun b2 => ?_
 refine wl1 (op_alloc ti39 (lt_ rfl)) rfl fun b3 => ?_
 refine wl1 (op_alloc ti41 (lt_ rfl)) rfl fun b4 => ?_
 refine W241 ?_
 refine W149 ?_
 refine W354 ?_
 refine W21 ?_
 refine W24 ?_
 rw [show decide (¬ J.failed = 0) = false from decide_eq_false (fun k => k hfl)]
 refine W2 ?_
 refine WX.regs (L' := [(2, _), (3, _), (4, _), (6, _), (7, _), (13, _)]) ?_
 refine W281 ?_
 refine W282 ?_
 refine W355 ?_
 refine W25 ?_
 refine W4 ?_
 refine WL.split (t := 22) rfl (fun g22 => ?_) (fun g22 => ?_)
 ·
  exfalso; omega
 ·
  refine W13 ?_
  refine wlgv (op_fieldAddr fo41_5 (lt_ rfl) rfl) rfl rfl rfl ?_
  refine W28 ?_
  refine wlgv (op_fieldAddr fo41_6 (lt_ rfl) rfl) rfl rfl rfl ?_
  refine W268 ?_
  refine W87 ?_
  refine W36 ?_
  refine W285 ?_
  refine WX.regs (L' := [(2, _), (3, _), (4, _), (6, _), (7, _), (31, _)]) ?_
  refine W0 ?_
  refine WC.cond rfl (fun h2 => ?_) (fun h2 => ?_)
  ·
   exfalso; omega
  ·
   refine W262 ?_
   refine W328 ?_
   refine W355 ?_
   refine W42 ?_
   refine W2 ?_
   refine WX.regs (L' := [(2, _), (3, _), (4, _), (6, _), (7, _), (37, _)]) ?_
   refine W0 ?_
   refine WC.cond rfl (fun h3 => ?_) (fun h3 => ?_)
   ·
    refine W1 ?_
    refine W325 ?_
    refine W106 ?_
    refine W118 ?_
    refine W119 ?_
    refine W101 ?_
    refine W19 ?_
    refine W45 ?_
    refine W263 ?_
    exact Fin.ret3 xI (()) (trivial) Tryz.results29 rfl (.cellN rfl ag39 xM xL) (.cellN rfl ag41 xM xL) (.tmp rfl) xT (by simp)
   ·
    exfalso; omega
set_option maxHeartbeats 400000 in
set_option maxRecDepth 10000 in
theorem f29_spec (r : Rd) (J : Jn) (k : Nat) (A : Option Addr) (c : Nat) (es : List Bs) (hfl : J.failed = 0) (hJ : 0 ≤ J.first ∧ J.first ≤ 1000000000 ∧ es.length ≤ 100000) (hr : r.Ok) (m : Nat) (hm : 1 ≤ m ∧ m ≤ es.length) (before : Int) (hb : before = J.first + (m : Nat)) (hk : J.se = k) (ha : 0 ≤ J.fi ∧ 8 ≤ k ∧ J.fi + k ≤ r.ds.length) (hg : 0 ≤ J.gen ∧ (nextF (1 - J.gen % 2) (seenR r.V J.fi k)) ≤ 2147483647) (hes : ∀ b ∈ es, b.s.length ≤ 131072) (hfit : 1 + needs (es.map Bs.s) ≤ k / 2) (hw : r.ws.length + 10000 ≤ 1000000) :
  Spec Tryz.prog 29 [.agg r.cells.toArray, .agg (rjc J A c es.length).toArray, .int .i64 before] [own (.slice r.A r.ds.length r.c) 30 1 r.ds.length (r.ds.map Bs.v), rowsC true r.ds, own (.slice r.Aw r.ws.length r.cw) 84 2 r.ws.length (r.ws.flatMap Wb.cells), rowsC true (r.ws.map Wb.b), own (.slice A es.length c) 30 1 es.length (es.map Bs.v), rowsC true es] [] (R := Rd × Option Addr × Nat) (fun q => q.1.Area r (J.fi + (nextF (1 - J.gen % 2) (seenR r.V J.fi k)) % 2 * ((k : Int) / 2)) (areaS (nextF (1 - J.gen % 2) (seenR r.V J.fi k)) (J.first + (m : Nat)) ((es.drop m).map Bs.s)))
   (fun q => .tuple #[.agg q.1.cells.toArray, .agg (rjc (jrr J.fi k (nextF (1 - J.gen % 2) (seenR r.V J.fi k)) (J.first + (m : Nat)) (1 + needs ((es.drop m).map Bs.s)) (es.drop m).length) q.2.1 q.2.2 (es.drop m).length).toArray, .int .i64 0]) (fun q => [own (.slice q.1.A q.1.ds.length q.1.c) 30 1 q.1.ds.length (q.1.ds.map Bs.v), rowsC true q.1.ds, own (.slice q.1.Aw q.1.ws.length q.1.cw) 84 2 q.1.ws.length (q.1.ws.flatMap Wb.cells), rowsC true (q.1.ws.map Wb.b), own (.slice q.2.1 (es.drop m).length q.2.2) 30 1 (es.drop m).length ((es.drop m).map Bs.v), rowsC true (es.drop m)]) := by
 subst hb
 have hrn := hr.n
 have hpar : (1 : Int) - J.gen % 2 = 0 ∨ (1 : Int) - J.gen % 2 = 1 := by omega
 have hn0 := nextF_ge (1 - J.gen % 2) (seenR r.V J.fi k)
 have hnd := needs_drop (es.map Bs.s) m
 rw [← List.map_drop] at hnd
 obtain ⟨AX, cX, hsl, hle⟩ := sliced_drop (A := A) (c := c) (es := es) hm.2
 refine Spec.intro Tryz.func29 Tryz.ntmps29 rfl (by simp) (by simp) fun w0 => ?_
 refine W240 ?_
 refine wl1 (op_box (lt_ rfl) rfl rfl) rfl fun b1 => ?_
 refine wl1 (op_box (lt_ rfl) rfl rfl) rfl fun b2 => ?_
 refine wl1 (op_alloc ti39 (lt_ rfl)) rfl fun b3 => ?_
 refine wl1 (op_alloc ti41 (lt_ rfl)) rfl fun b4 => ?_
 refine W241 ?_
 refine W149 ?_
 refine W354 ?_
 refine W21 ?_
 refine W24 ?_
 rw [show decide (¬ J.failed = 0) = false from decide_eq_false (fun k => k hfl)]
 refine W2 ?_
 refine WX.regs (L' := [(2, _), (3, _), (4, _), (6, _), (7, _), (13, _)]) ?_
 refine W281 ?_
 refine W282 ?_
 refine W355 ?_
 refine W25 ?_
 refine W4 ?_
 refine WL.split (t := 22) rfl (fun g22 => ?_) (fun g22 => ?_)
 ·
  exfalso; omega
 ·
  refine W13 ?_
  refine wlgv (op_fieldAddr fo41_5 (lt_ rfl) rfl) rfl rfl rfl ?_
  refine W28 ?_
  refine wlgv (op_fieldAddr fo41_6 (lt_ rfl) rfl) rfl rfl rfl ?_
  refine W268 ?_
  refine W87 ?_
  refine W36 ?_
  refine W285 ?_
  refine WX.regs (L' := [(2, _), (3, _), (4, _), (6, _), (7, _), (31, _)]) ?_
  refine W0 ?_
  refine WC.cond rfl (fun h2 => ?_) (fun h2 => ?_)
  ·
   exfalso; omega
  ·
   refine W262 ?_
   refine W328 ?_
   refine W355 ?_
   refine W42 ?_
   refine W2 ?_
   refine WX.regs (L' := [(2, _), (3, _), (4, _), (6, _), (7, _), (37, _)]) ?_
   refine W0 ?_
   refine WC.cond rfl (fun h3 => ?_) (fun h3 => ?_)
   ·
    exfalso; omega
   ·
    refine WC.turn (c := rowsC true es) (d := rowsC true (es.drop m)) xK (rowsC_sub fun r hr => List.mem_of_mem_drop hr) ?_
    refine WC.turn (c := own (.slice A es.length c) 30 1 es.length (es.map Bs.v)) (d := rd (.slice A es.length c) 1 es.length (es.map Bs.v)) xK own_le_rd ?_
    refine WC.dup (c := rd (.slice A es.length c) 1 es.length (es.map Bs.v)) (d := rd (.slice AX (es.drop m).length cX) 1 (es.drop m).length ((es.drop m).map Bs.v)) xM (by simp) (by simp) hle ?_
    refine WC.capm (Src.rd (v := .slice A es.length c) (sz := 1) (m := es.length) (xs := es.map Bs.v) xM) (fun hcap => ?_)
    refine W262 ?_
    refine W1 ?_
    refine WC.drawn (Hs := [blk b1 r.cells 39, blk b2 (rjc J A c es.length) 41]) mo 29 ?_
    refine W70 ?_
    refine WA.take (i := 1) rfl (by kernel_rfl) (fun _ _ _ h => h) rfl (op_fieldAddr fo41_0 (lt_ rfl) rfl) xT ?_
    refine W130 ?_
    refine WA.take (i := 3) rfl (by kernel_rfl) (fun _ _ _ h => h) rfl (op_fieldAddr fo41_2 (lt_ rfl) rfl) xT ?_
    refine W129 ?_
    rw [hk]
    refine WA.take (i := 5) rfl (by kernel_rfl) (fun _ _ _ h => h) rfl (op_loadAll ag39 (lt_ rfl) rfl xM xL) xT ?_
    refine WA.take (i := 6) rfl (by kernel_rfl) (fun _ _ _ h => h) rfl (op_fieldAddr fo41_0 (lt_ rfl) rfl) xT ?_
    refine W171 ?_
    refine WA.take (i := 8) rfl (by kernel_rfl) (fun _ _ _ h => h) rfl (op_fieldAddr fo41_2 (lt_ rfl) rfl) xT ?_
    refine WA.take (i := 9) rfl (by kernel_rfl) (fun _ _ _ h => h) rfl (op_load1 fl3 (lt_ rfl) rfl xM rfl) xT ?_
    rw [hk]
    refine WA.take (i := 10) rfl (by kernel_rfl) (fun _ _ _ h => h) rfl (op_fieldAddr fo41_3 (lt_ rfl) rfl) xT ?_
    refine WA.take (i := 11) rfl (by kernel_rfl) (fun _ _ _ h => h) rfl (op_load1 fl3 (lt_ rfl) rfl xM rfl) xT ?_
    refine WA.take (i := 12) rfl (by kernel_rfl) (fun _ _ _ h => h) rfl (op_rem (lt_ rfl) rfl rfl (by omega) (by omega)) xT ?_
    refine WA.take (i := 13) rfl (by kernel_rfl) (fun _ _ _ h => h) rfl (op_sub (lt_ rfl) rfl rfl (by omega)) xT ?_
    refine WA.take (i := 15) rfl (by kernel_rfl) (fun _ _ _ h => h) rfl (op_move (lt_ rfl) rfl) xT ?_
    refine WA.take (i := 16) rfl (by kernel_rfl) (fun _ _ _ h => h) rfl (op_fieldAddr fo41_6 (lt_ rfl) rfl) xT ?_
    refine WA.take (i := 17) rfl (by kernel_rfl) (fun _ _ _ h => h) rfl (op_load1 fl36 (lt_ rfl) rfl xM rfl) xT ?_
    refine WA.take (i := 18) rfl (by kernel_rfl) (fun _ _ _ h => h) rfl (op_move (lt_ rfl) rfl) xT ?_
    refine WA.take (i := 19) rfl (by kernel_rfl) (fun _ _ _ h => h) rfl (op_fieldAddr fo41_5 (lt_ rfl) rfl) xT ?_
    refine WA.take (i := 20) rfl (by kernel_rfl) (fun _ _ _ h => h) rfl (op_load1 fl3 (lt_ rfl) rfl xM rfl) xT ?_
    refine WA.take (i := 21) rfl (by kernel_rfl) (fun _ _ _ h => h) rfl (op_sub (lt_ rfl) rfl rfl (by omega)) xT ?_
    refine WA.take (i := 22) rfl (by kernel_rfl) (fun _ _ _ h => h) rfl (op_slice_l Tryz.underlying36 sz30 (lt_ rfl) rfl rfl (by omega) (by omega)) xT ?_
    rw [show (J.first + (m : Nat) - J.first).toNat = m by omega, hsl]
    refine WA.abs (fun W hW => ?_)
    have st11111111111111111111111111111000 : ∀ (q : Rd × Option Addr × Nat) (hq : q.1.Area r (J.fi + (nextF (1 - J.gen % 2) (seenR r.V J.fi k)) % 2 * ((k : Int) / 2)) (areaS (nextF (1 - J.gen % 2) (seenR r.V J.fi k)) (J.first + (m : Nat)) ((es.drop m).map Bs.s))) (b5 : Nat), W 3 #[true, true, true, true, true, true, true, true, true, true, true, true, true, true, true, true, true, true, true, true, true, true, true, true, true, true, true, true, true, false, false, false] ⟨79, []⟩ [(3, .pointer (some ⟨b1, 0, none⟩)), (4, .pointer (some ⟨b2, 0, none⟩)), (6, .pointer (some ⟨b3, 0, none⟩)), (7, .pointer (some ⟨b4, 0, none⟩)), (9, .pointer (some ⟨b5, 0, none⟩)), (65, .agg q.1.cells.toArray), (66, .agg (rjc (jrr J.fi k (nextF (1 - J.gen % 2) (seenR r.V J.fi k)) (J.first + (m : Nat)) (1 + needs ((es.drop m).map Bs.s)) (es.drop m).length) q.2.1 q.2.2 (es.drop m).length).toArray), (67, .int .i64 0)] [blk b5 [.int .i64 0, .int .i64 0, .int .i64 0, .int .i64 0, .int .i64 0, .int .i64 0, .slice none 0 0, .int .i64 0, .int .i64 0] 41, own (.slice q.1.A q.1.ds.length q.1.c) 30 1 q.1.ds.length (q.1.ds.map Bs.v), rowsC true q.1.ds, own (.slice q.1.Aw q.1.ws.length q.1.cw) 84 2 q.1.ws.length (q.1.ws.flatMap Wb.cells), rowsC true (q.1.ws.map Wb.b), own (.slice q.2.1 (es.drop m).length q.2.2) 30 1 (es.drop m).length ((es.drop m).map Bs.v), rowsC true (es.drop m), rd (.slice AX (es.drop m).length cX) 1 (es.drop m).length ((es.drop m).map Bs.v), rd (.slice A es.length c) 1 es.length (es.map Bs.v), blk b1 r.cells 39, blk b2 (rjc J A c es.length) 41, blk b3 [.slice none 0 0, .slice none 0 0, .int .i64 0, .bool false, .int .i64 0] 39, blk b4 [.int .i64 0, .int .i64 0, .int .i64 0, .int .i64 0, .int .i64 0, .int .i64 0, .slice none 0 0, .int .i64 0, .int .i64 0] 41, frameC w0 (MutF [own (.slice r.A r.ds.length r.c) 30 1 r.ds.length (r.ds.map Bs.v), rowsC true r.ds, own (.slice r.Aw r.ws.length r.cw) 84 2 r.ws.length (r.ws.flatMap Wb.cells), rowsC true (r.ws.map Wb.b), own (.slice A es.length c) 30 1 es.length (es.map Bs.v), rowsC true es])] := by
     intro q hq b5
     subst hW
     refine WA.stepo (G := []) (i := 29) (by kernel_rfl) rfl rfl (op_storeAll sz39 rfl rfl xK xL xO xL) (fun h => absurd rfl h) ?_
     refine WA.stepoA (i := 30) (by kernel_rfl) rfl rfl (by kernel_rfl) (op_storeAll sz41 rfl rfl xK xL xO xL) ?_
     refine WA.pure (i := 31) rfl (by kernel_rfl) (fun _ _ _ h => h) rfl (op_assign (lt_ rfl) rfl) (.inl (by kernel_rfl)) ?_
     refine W19 ?_
     refine WX.blkEq (b := b1) q.1.cells xK (by rfl) ?_
     refine W319 ?_
     refine W332 ?_
     refine WX.regs (L' := [(3, _), (4, _), (6, _), (7, _), (9, _), (10, _), (69, _)]) ?_
     refine W281 ?_
     refine W327 ?_
     refine W349 ?_
     refine W106 ?_
     refine W118 ?_
     refine W119 ?_
     refine W101 ?_
     refine W19 ?_
     refine W45 ?_
     refine W242 ?_
     exact Fin.ret3 xI (q) (hq) Tryz.results29 rfl (.cellN rfl ag39 xM xL) (.cellN rfl ag41 xM xL) (.tmp rfl) xT (by simp)
    have st11111111111111111111111100000000 : ∀ (q : Rd × Option Addr × Nat) (hq : q.1.Area r (J.fi + (nextF (1 - J.gen % 2) (seenR r.V J.fi k)) % 2 * ((k : Int) / 2)) (areaS (nextF (1 - J.gen % 2) (seenR r.V J.fi k)) (J.first + (m : Nat)) ((es.drop m).map Bs.s))), W 8 #[true, true, true, true, true, true, true, true, true, true, true, true, true, true, true, true, true, true, true, true, true, true, true, true, false, false, false, false, false, false, false, false] ⟨79, []⟩ [(3, .pointer (some ⟨b1, 0, none⟩)), (4, .pointer (some ⟨b2, 0, none⟩)), (6, .pointer (some ⟨b3, 0, none⟩)), (7, .pointer (some ⟨b4, 0, none⟩)), (64, .tuple #[.agg q.1.cells.toArray, .agg (rjc (jrr J.fi k (nextF (1 - J.gen % 2) (seenR r.V J.fi k)) (J.first + (m : Nat)) (1 + needs ((es.drop m).map Bs.s)) (es.drop m).length) q.2.1 q.2.2 (es.drop m).length).toArray, .int .i64 0])] [own (.slice q.1.A q.1.ds.length q.1.c) 30 1 q.1.ds.length (q.1.ds.map Bs.v), rowsC true q.1.ds, own (.slice q.1.Aw q.1.ws.length q.1.cw) 84 2 q.1.ws.length (q.1.ws.flatMap Wb.cells), rowsC true (q.1.ws.map Wb.b), own (.slice q.2.1 (es.drop m).length q.2.2) 30 1 (es.drop m).length ((es.drop m).map Bs.v), rowsC true (es.drop m), rd (.slice AX (es.drop m).length cX) 1 (es.drop m).length ((es.drop m).map Bs.v), rd (.slice A es.length c) 1 es.length (es.map Bs.v), blk b1 r.cells 39, blk b2 (rjc J A c es.length) 41, blk b3 [.slice none 0 0, .slice none 0 0, .int .i64 0, .bool false, .int .i64 0] 39, blk b4 [.int .i64 0, .int .i64 0, .int .i64 0, .int .i64 0, .int .i64 0, .int .i64 0, .slice none 0 0, .int .i64 0, .int .i64 0] 41, frameC w0 (MutF [own (.slice r.A r.ds.length r.c) 30 1 r.ds.length (r.ds.map Bs.v), rowsC true r.ds, own (.slice r.Aw r.ws.length r.cw) 84 2 r.ws.length (r.ws.flatMap Wb.cells), rowsC true (r.ws.map Wb.b), own (.slice A es.length c) 30 1 es.length (es.map Bs.v), rowsC true es])] := by
     intro q hq
     subst hW
     refine WA.take (i := 24) rfl (by kernel_rfl) (fun _ _ _ h => h) rfl (op_move (lt_ rfl) rfl) xT ?_
     refine WA.take (i := 25) rfl (by kernel_rfl) (fun _ _ _ h => h) rfl (op_extract (lt_ rfl) rfl rfl) xT ?_
     refine WA.pure (i := 26) rfl (by kernel_rfl) (fun _ _ _ h => h) rfl (op_extract (lt_ rfl) rfl rfl) (.inr ⟨_, xT⟩) ?_
     refine WA.pure (i := 27) rfl (by kernel_rfl) (fun _ _ _ h => h) rfl (op_extract (lt_ rfl) rfl rfl) (.inr ⟨_, xT⟩) ?_
     refine WA.pick (l := [28]) (by kernel_rfl) rfl (fun i hi => ?_)
     simp only [List.mem_cons, List.not_mem_nil, or_false] at hi
     subst hi
     ·
      refine WA.one1 rfl rfl (op_alloc ti41 (lt_ rfl)) (fun _ b => xT) fun b5 => ?_
      exact WA.conv (by first | rfl | kernel_rfl) xR xT (st11111111111111111111111111111000 q hq b5)
    have st11111111111111111111111100001000 : ∀ (q : Rd × Option Addr × Nat) (hq : q.1.Area r (J.fi + (nextF (1 - J.gen % 2) (seenR r.V J.fi k)) % 2 * ((k : Int) / 2)) (areaS (nextF (1 - J.gen % 2) (seenR r.V J.fi k)) (J.first + (m : Nat)) ((es.drop m).map Bs.s))) (b5 : Nat), W 7 #[true, true, true, true, true, true, true, true, true, true, true, true, true, true, true, true, true, true, true, true, true, true, true, true, false, false, false, false, true, false, false, false] ⟨79, []⟩ [(3, .pointer (some ⟨b1, 0, none⟩)), (4, .pointer (some ⟨b2, 0, none⟩)), (6, .pointer (some ⟨b3, 0, none⟩)), (7, .pointer (some ⟨b4, 0, none⟩)), (9, .pointer (some ⟨b5, 0, none⟩)), (64, .tuple #[.agg q.1.cells.toArray, .agg (rjc (jrr J.fi k (nextF (1 - J.gen % 2) (seenR r.V J.fi k)) (J.first + (m : Nat)) (1 + needs ((es.drop m).map Bs.s)) (es.drop m).length) q.2.1 q.2.2 (es.drop m).length).toArray, .int .i64 0])] [blk b5 [.int .i64 0, .int .i64 0, .int .i64 0, .int .i64 0, .int .i64 0, .int .i64 0, .slice none 0 0, .int .i64 0, .int .i64 0] 41, own (.slice q.1.A q.1.ds.length q.1.c) 30 1 q.1.ds.length (q.1.ds.map Bs.v), rowsC true q.1.ds, own (.slice q.1.Aw q.1.ws.length q.1.cw) 84 2 q.1.ws.length (q.1.ws.flatMap Wb.cells), rowsC true (q.1.ws.map Wb.b), own (.slice q.2.1 (es.drop m).length q.2.2) 30 1 (es.drop m).length ((es.drop m).map Bs.v), rowsC true (es.drop m), rd (.slice AX (es.drop m).length cX) 1 (es.drop m).length ((es.drop m).map Bs.v), rd (.slice A es.length c) 1 es.length (es.map Bs.v), blk b1 r.cells 39, blk b2 (rjc J A c es.length) 41, blk b3 [.slice none 0 0, .slice none 0 0, .int .i64 0, .bool false, .int .i64 0] 39, blk b4 [.int .i64 0, .int .i64 0, .int .i64 0, .int .i64 0, .int .i64 0, .int .i64 0, .slice none 0 0, .int .i64 0, .int .i64 0] 41, frameC w0 (MutF [own (.slice r.A r.ds.length r.c) 30 1 r.ds.length (r.ds.map Bs.v), rowsC true r.ds, own (.slice r.Aw r.ws.length r.cw) 84 2 r.ws.length (r.ws.flatMap Wb.cells), rowsC true (r.ws.map Wb.b), own (.slice A es.length c) 30 1 es.length (es.map Bs.v), rowsC true es])] := by
     intro q hq b5
     subst hW
     refine WA.take (i := 24) rfl (by kernel_rfl) (fun _ _ _ h => h) rfl (op_move (lt_ rfl) rfl) xT ?_
     refine WA.take (i := 25) rfl (by kernel_rfl) (fun _ _ _ h => h) rfl (op_extract (lt_ rfl) rfl rfl) xT ?_
     refine WA.pure (i := 26) rfl (by kernel_rfl) (fun _ _ _ h => h) rfl (op_extract (lt_ rfl) rfl rfl) (.inr ⟨_, xT⟩) ?_
     refine WA.pure (i := 27) rfl (by kernel_rfl) (fun _ _ _ h => h) rfl (op_extract (lt_ rfl) rfl rfl) (.inr ⟨_, xT⟩) ?_
     refine WA.stepo (G := []) (i := 29) (by kernel_rfl) rfl rfl (op_storeAll sz39 rfl rfl xK xL xO xL) (fun h => absurd rfl h) ?_
     refine WA.stepoA (i := 30) (by kernel_rfl) rfl rfl (by kernel_rfl) (op_storeAll sz41 rfl rfl xK xL xO xL) ?_
     refine WA.pure (i := 31) rfl (by kernel_rfl) (fun _ _ _ h => h) rfl (op_assign (lt_ rfl) rfl) (.inl (by kernel_rfl)) ?_
     refine W19 ?_
     refine WX.blkEq (b := b1) q.1.cells xK (by rfl) ?_
     refine W319 ?_
     refine W332 ?_
     refine WX.regs (L' := [(3, _), (4, _), (6, _), (7, _), (9, _), (10, _), (69, _)]) ?_
     refine W281 ?_
     refine W327 ?_
     refine W349 ?_
     refine W106 ?_
     refine W118 ?_
     refine W119 ?_
     refine W101 ?_
     refine W19 ?_
     refine W45 ?_
     refine W242 ?_
     exact Fin.ret3 xI (q) (hq) Tryz.results29 rfl (.cellN rfl ag39 xM xL) (.cellN rfl ag41 xM xL) (.tmp rfl) xT (by simp)
    have st11111111111111111111111000001000 : ∀ (b5 : Nat), W 8 #[true, true, true, true, true, true, true, true, true, true, true, true, true, true, true, true, true, true, true, true, true, true, true, false, false, false, false, false, true, false, false, false] ⟨79, []⟩ [(3, .pointer (some ⟨b1, 0, none⟩)), (4, .pointer (some ⟨b2, 0, none⟩)), (6, .pointer (some ⟨b3, 0, none⟩)), (7, .pointer (some ⟨b4, 0, none⟩)), (9, .pointer (some ⟨b5, 0, none⟩)), (41, .agg r.cells.toArray), (43, .int .i64 J.fi), (45, .int .i64 (k : Int)), (55, .int .i64 (nextF (1 - J.gen % 2) (seenR r.V J.fi k))), (56, .int .i64 (J.first + (m : Nat))), (63, .slice AX (es.drop m).length cX)] [blk b5 [.int .i64 0, .int .i64 0, .int .i64 0, .int .i64 0, .int .i64 0, .int .i64 0, .slice none 0 0, .int .i64 0, .int .i64 0] 41, own (.slice r.A r.ds.length r.c) 30 1 r.ds.length (r.ds.map Bs.v), rowsC true r.ds, own (.slice r.Aw r.ws.length r.cw) 84 2 r.ws.length (r.ws.flatMap Wb.cells), rowsC true (r.ws.map Wb.b), rowsC true (es.drop m), rd (.slice AX (es.drop m).length cX) 1 (es.drop m).length ((es.drop m).map Bs.v), rd (.slice A es.length c) 1 es.length (es.map Bs.v), blk b1 r.cells 39, blk b2 (rjc J A c es.length) 41, blk b3 [.slice none 0 0, .slice none 0 0, .int .i64 0, .bool false, .int .i64 0] 39, blk b4 [.int .i64 0, .int .i64 0, .int .i64 0, .int .i64 0, .int .i64 0, .int .i64 0, .slice none 0 0, .int .i64 0, .int .i64 0] 41, frameC w0 (MutF [own (.slice r.A r.ds.length r.c) 30 1 r.ds.length (r.ds.map Bs.v), rowsC true r.ds, own (.slice r.Aw r.ws.length r.cw) 84 2 r.ws.length (r.ws.flatMap Wb.cells), rowsC true (r.ws.map Wb.b), own (.slice A es.length c) 30 1 es.length (es.map Bs.v), rowsC true es])] := by
     intro b5
     subst hW
     refine WA.pick (l := [23]) (by kernel_rfl) rfl (fun i hi => ?_)
     simp only [List.mem_cons, List.not_mem_nil, or_false] at hi
     subst hi
     ·
      refine W237 ?_
      rintro q hq
      exact WA.conv (by first | rfl | kernel_rfl) xR xT (st11111111111111111111111100001000 q hq b5)
    have st11111111111111111111111000000000 : ∀ (_u : Unit), W 9 #[true, true, true, true, true, true, true, true, true, true, true, true, true, true, true, true, true, true, true, true, true, true, true, false, false, false, false, false, false, false, false, false] ⟨79, []⟩ [(3, .pointer (some ⟨b1, 0, none⟩)), (4, .pointer (some ⟨b2, 0, none⟩)), (6, .pointer (some ⟨b3, 0, none⟩)), (7, .pointer (some ⟨b4, 0, none⟩)), (41, .agg r.cells.toArray), (43, .int .i64 J.fi), (45, .int .i64 (k : Int)), (55, .int .i64 (nextF (1 - J.gen % 2) (seenR r.V J.fi k))), (56, .int .i64 (J.first + (m : Nat))), (63, .slice AX (es.drop m).length cX)] [own (.slice r.A r.ds.length r.c) 30 1 r.ds.length (r.ds.map Bs.v), rowsC true r.ds, own (.slice r.Aw r.ws.length r.cw) 84 2 r.ws.length (r.ws.flatMap Wb.cells), rowsC true (r.ws.map Wb.b), rowsC true (es.drop m), rd (.slice AX (es.drop m).length cX) 1 (es.drop m).length ((es.drop m).map Bs.v), rd (.slice A es.length c) 1 es.length (es.map Bs.v), blk b1 r.cells 39, blk b2 (rjc J A c es.length) 41, blk b3 [.slice none 0 0, .slice none 0 0, .int .i64 0, .bool false, .int .i64 0] 39, blk b4 [.int .i64 0, .int .i64 0, .int .i64 0, .int .i64 0, .int .i64 0, .int .i64 0, .slice none 0 0, .int .i64 0, .int .i64 0] 41, frameC w0 (MutF [own (.slice r.A r.ds.length r.c) 30 1 r.ds.length (r.ds.map Bs.v), rowsC true r.ds, own (.slice r.Aw r.ws.length r.cw) 84 2 r.ws.length (r.ws.flatMap Wb.cells), rowsC true (r.ws.map Wb.b), own (.slice A es.length c) 30 1 es.length (es.map Bs.v), rowsC true es])] := by
     intro _u
     subst hW
     refine WA.pick (l := [23, 28]) (by kernel_rfl) rfl (fun i hi => ?_)
     simp only [List.mem_cons, List.not_mem_nil, or_false] at hi
     rcases hi with rfl | rfl
     ·
      refine W237 ?_
      rintro q hq
      exact WA.conv (by first | rfl | kernel_rfl) xR xT (st11111111111111111111111100000000 q hq)
     ·
      refine WA.one1 rfl rfl (op_alloc ti41 (lt_ rfl)) (fun _ b => xT) fun b5 => ?_
      exact WA.conv (by first | rfl | kernel_rfl) xR xT (st11111111111111111111111000001000 b5)
    have st11111111111111011111111000001000 : ∀ (b5 : Nat), W 9 #[true, true, true, true, true, true, true, true, true, true, true, true, true, true, false, true, true, true, true, true, true, true, true, false, false, false, false, false, true, false, false, false] ⟨79, []⟩ [(3, .pointer (some ⟨b1, 0, none⟩)), (4, .pointer (some ⟨b2, 0, none⟩)), (6, .pointer (some ⟨b3, 0, none⟩)), (7, .pointer (some ⟨b4, 0, none⟩)), (9, .pointer (some ⟨b5, 0, none⟩)), (41, .agg r.cells.toArray), (43, .int .i64 J.fi), (45, .int .i64 (k : Int)), (46, .agg r.cells.toArray), (48, .int .i64 J.fi), (50, .int .i64 (k : Int)), (54, .int .i64 (1 - J.gen % 2)), (56, .int .i64 (J.first + (m : Nat))), (63, .slice AX (es.drop m).length cX)] [blk b5 [.int .i64 0, .int .i64 0, .int .i64 0, .int .i64 0, .int .i64 0, .int .i64 0, .slice none 0 0, .int .i64 0, .int .i64 0] 41, own (.slice r.A r.ds.length r.c) 30 1 r.ds.length (r.ds.map Bs.v), rowsC true r.ds, own (.slice r.Aw r.ws.length r.cw) 84 2 r.ws.length (r.ws.flatMap Wb.cells), rowsC true (r.ws.map Wb.b), rowsC true (es.drop m), rd (.slice AX (es.drop m).length cX) 1 (es.drop m).length ((es.drop m).map Bs.v), rd (.slice A es.length c) 1 es.length (es.map Bs.v), blk b1 r.cells 39, blk b2 (rjc J A c es.length) 41, blk b3 [.slice none 0 0, .slice none 0 0, .int .i64 0, .bool false, .int .i64 0] 39, blk b4 [.int .i64 0, .int .i64 0, .int .i64 0, .int .i64 0, .int .i64 0, .int .i64 0, .slice none 0 0, .int .i64 0, .int .i64 0] 41, frameC w0 (MutF [own (.slice r.A r.ds.length r.c) 30 1 r.ds.length (r.ds.map Bs.v), rowsC true r.ds, own (.slice r.Aw r.ws.length r.cw) 84 2 r.ws.length (r.ws.flatMap Wb.cells), rowsC true (r.ws.map Wb.b), own (.slice A es.length c) 30 1 es.length (es.map Bs.v), rowsC true es])] := by
     intro b5
     subst hW
     refine WA.pick (l := [14]) (by kernel_rfl) rfl (fun i hi => ?_)
     simp only [List.mem_cons, List.not_mem_nil, or_false] at hi
     subst hi
     ·
      refine WA.onex rfl rfl (op_call (f52_spec r hr J.fi k (1 - J.gen % 2) (by omega) hpar) ca52 (lt_ rfl) rfl) (fun _ r => xT) ?_
      rintro _ _
      exact WA.conv (by first | rfl | kernel_rfl) xR xT (st11111111111111111111111000001000 b5)
    subst hW
    refine WA.pick (l := [14, 28]) (by kernel_rfl) rfl (fun i hi => ?_)
    simp only [List.mem_cons, List.not_mem_nil, or_false] at hi
    rcases hi with rfl | rfl
    ·
     refine WA.onex rfl rfl (op_call (f52_spec r hr J.fi k (1 - J.gen % 2) (by omega) hpar) ca52 (lt_ rfl) rfl) (fun _ r => xT) ?_
     rintro _ _
     exact WA.conv (by first | rfl | kernel_rfl) xR xT (st11111111111111111111111000000000 ())
    ·
     refine WA.one1 rfl rfl (op_alloc ti41 (lt_ rfl)) (fun _ b => xT) fun b5 => ?_
     exact WA.conv (by first | rfl | kernel_rfl) xR xT (st11111111111111011111111000001000 b5)
end Go.Proofs.YtkjlbedebmffgaaGreat.Sx
namespace Go.Proofs.YtkjlbedebmffgaaGreat.Sx
open Go.RowKit Go.Proofs.YtkjlbedebmffgaaGreat.Ty
attribute [local irreducible] blk own rd rx frameC
theorem pick_ok0 {x0 x1 : Ar} {m0 m1 : Ara} (h0 : x0.fitsR m0) (h1 : x1.fitsR m1) (hk : x0.ok = true) (hc : x1.ok = false ∨ ¬ x1.g > x0.g) : pickM m0 m1 = some (x0.g, x0.f, x0.es.map Bs.s) := by
 cases m0 with
 | none => rw [show x0.ok = false from h0] at hk; cases hk
 | some y =>
  obtain ⟨g, f, es⟩ := y
  obtain ⟨_, rfl, rfl, rfl⟩ := h0
  cases m1 with
  | none => rfl
  | some z =>
   obtain ⟨g', f', es'⟩ := z
   obtain ⟨h2, rfl, rfl, rfl⟩ := h1
   simp only [pickM]
   rw [if_neg (hc.resolve_left (by rw [h2]; simp))]
theorem pick_ok1 {x0 x1 : Ar} {m0 m1 : Ara} (h0 : x0.fitsR m0) (h1 : x1.fitsR m1) (hk : x1.ok = true) (hc : x0.ok = false ∨ x1.g > x0.g) : pickM m0 m1 = some (x1.g, x1.f, x1.es.map Bs.s) := by
 cases m1 with
 | none => rw [show x1.ok = false from h1] at hk; cases hk
 | some y =>
  obtain ⟨g, f, es⟩ := y
  obtain ⟨_, rfl, rfl, rfl⟩ := h1
  cases m0 with
  | none => rfl
  | some z =>
   obtain ⟨g', f', es'⟩ := z
   obtain ⟨h2, rfl, rfl, rfl⟩ := h0
   simp only [pickM]
   rw [if_pos (hc.resolve_left (by rw [h2]; simp))]
theorem pick_no {x0 x1 : Ar} {m0 m1 : Ara} (h0 : x0.fitsR m0) (h1 : x1.fitsR m1) (k0 : x0.ok = false) (k1 : x1.ok = false) : pickM m0 m1 = none := by
 cases m1 with
 | none =>
  cases m0 with
  | none => rfl
  | some z => rw [h0.1] at k0; cases k0
 | some y => rw [h1.1] at k1; cases k1
abbrev OpR' := Sum (Rd × Option Addr × Nat × List Bs × Int × Int) Int
set_option maxHeartbeats 400000 in
set_option maxRecDepth 10000 in
theorem f35_spec (r : Rd) (hr : r.Ok) (a : Int) (k : Nat) (ha : 0 ≤ a ∧ 8 ≤ k ∧ a + k ≤ r.ds.length) (hw : r.ws.length + 10000 ≤ 1000000) :
  Spec Tryz.prog 35 [.agg r.cells.toArray, .int .i64 a, .int .i64 (k : Int)] [own (.slice r.A r.ds.length r.c) 30 1 r.ds.length (r.ds.map Bs.v), rowsC true r.ds, own (.slice r.Aw r.ws.length r.cw) 84 2 r.ws.length (r.ws.flatMap Wb.cells), rowsC true (r.ws.map Wb.b)] [] (R := OpR') (fun x : OpR' => match x with | .inl q => pkR r.V a k = some (q.2.2.2.2.1, q.2.2.2.2.2, q.2.2.2.1.map Bs.s) ∧ (nextF (1 - q.2.2.2.2.1 % 2) (seenR r.V a k)) ≤ 2147483647 ∧ q.1.Area r (a + (nextF (1 - q.2.2.2.2.1 % 2) (seenR r.V a k)) % 2 * ((k : Int) / 2)) (areaS (nextF (1 - q.2.2.2.2.1 % 2) (seenR r.V a k)) q.2.2.2.2.2 (q.2.2.2.1.map Bs.s)) | .inr e => (pkR r.V a k = none ∧ e = 3) ∨ ∃ g f es, pkR r.V a k = some (g, f, es) ∧ 2147483647 < (nextF (1 - g % 2) (seenR r.V a k)) ∧ e = 9)
   (fun x : OpR' => match x with | .inl q => .tuple #[.agg q.1.cells.toArray, .agg (rjc (jrr a k (nextF (1 - q.2.2.2.2.1 % 2) (seenR r.V a k)) q.2.2.2.2.2 (1 + needs (q.2.2.2.1.map Bs.s)) q.2.2.2.1.length) q.2.1 q.2.2.1 q.2.2.2.1.length).toArray, .int .i64 0] | .inr e => .tuple #[.agg r.cells.toArray, .agg #[.int .i64 0, .int .i64 0, .int .i64 0, .int .i64 0, .int .i64 0, .int .i64 0, .slice none 0 0, .int .i64 0, .int .i64 0], .int .i64 e]) (fun x : OpR' => match x with | .inl q => [own (.slice q.1.A q.1.ds.length q.1.c) 30 1 q.1.ds.length (q.1.ds.map Bs.v), rowsC true q.1.ds, own (.slice q.1.Aw q.1.ws.length q.1.cw) 84 2 q.1.ws.length (q.1.ws.flatMap Wb.cells), rowsC true (q.1.ws.map Wb.b), own (.slice q.2.1 q.2.2.2.1.length q.2.2.1) 30 1 q.2.2.2.1.length (q.2.2.2.1.map Bs.v), rowsC true q.2.2.2.1] | .inr _ => []) := by
 have hrn := hr.n
 refine Spec.intro Tryz.func35 Tryz.ntmps35 rfl (by simp) (by simp) fun w0 => ?_
 refine W240 ?_
 refine wl1 (op_box (lt_ rfl) rfl rfl) rfl fun b1 => ?_
 refine wl1 (op_alloc ti39 (lt_ rfl)) rfl fun b2 => ?_
 refine wl1 (op_alloc ti41 (lt_ rfl)) rfl fun b3 => ?_
 refine W241 ?_
 refine WX.regs (L' := [(1, _), (2, _), (3, _), (6, _), (7, _)]) ?_
 refine W269 ?_
 refine W41 ?_
 refine W244 ?_
 refine wlx (op_call (f50_spec r a k ha (by omega)) ca50 (lt_ rfl) rfl) rfl ?_
 rintro _ _
 refine W241 ?_
 refine WX.regs (L' := [(1, _), (2, _), (3, _), (6, _), (7, _), (9, _)]) ?_
 refine W359 ?_
 refine WX.regs (L' := [(1, _), (2, _), (3, _), (6, _), (7, _), (9, _), (24, _)]) ?_
 refine W281 ?_
 refine W261 ?_
 refine W109 ?_
 rw [show ((k : Int)) / 2 = ((k / 2 : Nat) : Int) by omega]
 refine W241 ?_
 refine WX.regs (L' := [(1, _), (2, _), (3, _), (6, _), (7, _), (10, _)]) ?_
 refine W249 ?_
 refine W41 ?_
 refine W244 ?_
 refine wlx (op_call (f59_spec r hr a (k / 2) (by omega)) ca59 (lt_ rfl) rfl) rfl ?_
 rintro ⟨As, cs, rs0⟩ hrs0
 dsimp only at hrs0 ⊢
 have hl0 : rs0.length = k / 2 := by have := congrArg List.length hrs0; rw [List.length_map, seenR_length] at this; exact this
 refine wlx (op_call (f58_spec 0 (by omega) As rs0.length cs rs0 rfl (by omega) (by omega)) ca58 (lt_ rfl) rfl) rfl ?_
 rintro x0 hx0
 rw [hrs0] at hx0
 refine W296 ?_
 refine W248 ?_
 refine W5 ?_
 refine W266 ?_
 refine WX.regs (L' := [(1, _), (2, _), (3, _), (6, _), (7, _), (10, _), (11, _), (12, _), (13, _), (14, _)]) ?_
 refine W249 ?_
 refine W41 ?_
 refine W244 ?_
 refine W16 ?_
 refine W4 ?_
 refine wlx (op_call (f59_spec r hr (a + ((k / 2 : Nat) : Int)) (k / 2) (by omega)) ca59 (lt_ rfl) rfl) rfl ?_
 rintro ⟨At, ct, rs1⟩ hrs1
 dsimp only at hrs1 ⊢
 have hl1 : rs1.length = k / 2 := by have := congrArg List.length hrs1; rw [List.length_map, seenR_length] at this; exact this
 refine wlx (op_call (f58_spec 1 (by omega) At rs1.length ct rs1 rfl (by omega) (by omega)) ca58 (lt_ rfl) rfl) rfl ?_
 rintro x1 hx1
 rw [hrs1] at hx1
 refine W296 ?_
 refine W248 ?_
 refine W5 ?_
 refine W266 ?_
 refine WX.regs (L' := [(1, _), (2, _), (3, _), (6, _), (7, _), (11, _), (12, _), (13, _), (14, _), (15, _), (16, _), (17, _), (18, _)]) ?_
 refine W282 ?_
 refine W85 ?_
 refine W4 ?_
 refine WL.splitb (t := 54) rfl (fun g54 => ?_) (fun g54 => ?_)
 ·
  refine W13 ?_
  refine W113 ?_
  refine W313 ?_
  refine WX.regs (L' := [(1, _), (2, _), (3, _), (6, _), (7, _), (11, _), (12, _), (13, _), (14, _), (15, _), (16, _), (17, _), (18, _), (57, _)]) ?_
  refine W0 ?_
  refine WC.condb rfl (fun h2 => ?_) (fun h2 => ?_)
  ·
   refine W240 ?_
   refine W41 ?_
   refine wlv (op_build (cs := [.int .i64 0, .int .i64 0, .int .i64 0, .int .i64 0, .int .i64 0, .int .i64 0, .slice none 0 0, .int .i64 0, .int .i64 0]) (pv := []) (lt_ rfl) rfl (by kernel_rfl)) rfl ?_
   refine W50 ?_
   refine W10 ?_
   refine wl (op_storeAll sz41 rfl rfl xK xL xO xL) rfl ?_
   refine W271 ?_
   refine W45 ?_
   refine W263 ?_
   exact Fin.ret3 xI ((.inr 3)) (.inl ⟨pick_no hx0 hx1 (by simp_all) (by simp_all), rfl⟩) Tryz.results35 rfl (.cellN rfl ag39 xM xL) (.cellN rfl ag41 xM xL) (.tmp rfl) xT (by simp)
  ·
   refine W262 ?_
   refine WC.cut (X := Ar × Nat × Nat × Nat) (fun q => pkR r.V a k = some (q.1.g, q.1.f, q.1.es.map Bs.s)) (fun q => [(1, .int .i64 a), (2, .int .i64 (k : Int)), (3, .pointer (some ⟨q.2.1, 0, none⟩)), (6, .pointer (some ⟨q.2.2.1, 0, none⟩)), (7, .pointer (some ⟨q.2.2.2, 0, none⟩)), (11, .int .i64 q.1.g), (12, .int .i64 q.1.f), (13, .slice q.1.A q.1.es.length q.1.c)]) (fun q => [own (.slice q.1.A q.1.es.length q.1.c) 30 1 q.1.es.length (q.1.es.map Bs.v), rowsC true q.1.es, own (.slice r.A r.ds.length r.c) 30 1 r.ds.length (r.ds.map Bs.v), rowsC true r.ds, own (.slice r.Aw r.ws.length r.cw) 84 2 r.ws.length (r.ws.flatMap Wb.cells), rowsC true (r.ws.map Wb.b), blk q.2.1 r.cells 39, blk q.2.2.1 [.slice none 0 0, .slice none 0 0, .int .i64 0, .bool false, .int .i64 0] 39, blk q.2.2.2 [.int .i64 0, .int .i64 0, .int .i64 0, .int .i64 0, .int .i64 0, .int .i64 0, .slice none 0 0, .int .i64 0, .int .i64 0] 41, frameC w0 (MutF [own (.slice r.A r.ds.length r.c) 30 1 r.ds.length (r.ds.map Bs.v), rowsC true r.ds, own (.slice r.Aw r.ws.length r.cw) 84 2 r.ws.length (r.ws.flatMap Wb.cells), rowsC true (r.ws.map Wb.b)])]) ?_ ?_
   ·
    refine W240 ?_
    refine W244 ?_
    refine WL.splitb (t := 61) rfl (fun g61 => ?_) (fun g61 => ?_)
    ·
     refine W13 ?_
     refine W113 ?_
     refine W13 ?_
     refine WL.splitb (t := 64) rfl (fun g64 => ?_) (fun g64 => ?_)
     ·
      refine W243 ?_
      refine W6 ?_
      refine W68 ?_
      refine W313 ?_
      refine W150 ?_
      refine W362 ?_
      refine W334 ?_
      refine W4 ?_
      refine W266 ?_
      refine W200 ?_
      refine WX.meet ((x1, b1, b2, b3)) (pick_ok1 hx0 hx1 (by simp_all) (by first | (left; simp_all; done) | (right; assumption) | (exfalso; simp_all; done))) (fun a w hs => hs.sub xY xT)
     ·
      refine W345 ?_
      refine W36 ?_
      refine W57 ?_
      refine W313 ?_
      refine W150 ?_
      refine W0 ?_
      refine WC.cond rfl (fun h3 => ?_) (fun h3 => ?_)
      ·
       refine W334 ?_
       refine W4 ?_
       refine W266 ?_
       refine W200 ?_
       refine WX.meet ((x1, b1, b2, b3)) (pick_ok1 hx0 hx1 (by simp_all) (by first | (left; simp_all; done) | (right; assumption) | (exfalso; simp_all; done))) (fun a w hs => hs.sub xY xT)
      ·
       refine W8 ?_
       refine WX.meet ((x0, b1, b2, b3)) (pick_ok0 hx0 hx1 (by first | (simp_all; done) | (exfalso; simp_all; done)) (by first | (left; simp_all; done) | (right; assumption) | (exfalso; simp_all; done))) (fun a w hs => hs.sub xY xT)
    ·
     refine W243 ?_
     refine W6 ?_
     refine W37 ?_
     refine W37 ?_
     refine W37 ?_
     refine W6 ?_
     refine W285 ?_
     refine W150 ?_
     refine W281 ?_
     refine WX.meet ((x0, b1, b2, b3)) (pick_ok0 hx0 hx1 (by first | (simp_all; done) | (exfalso; simp_all; done)) (by first | (left; simp_all; done) | (right; assumption) | (exfalso; simp_all; done))) (fun a w hs => hs.sub xY xT)
   ·rintro ⟨x, b1, b2, b3⟩ hpk
    try dsimp only at hpk ⊢
    obtain ⟨hb1, hb2, hb3, hb4⟩ := pkR_bound hpk
    have hn0 := nextF_ge (1 - x.g % 2) (seenR r.V a k)
    refine W1 ?_
    refine WC.drawn (Hs := [blk b1 r.cells 39]) mo 999 ?_
    refine W70 ?_
    refine W39 ?_
    refine W60 ?_
    refine W199 ?_
    refine W51 ?_
    refine W67 ?_
    refine W107 ?_
    refine WA.take (i := 7) rfl (by kernel_rfl) (fun _ _ _ h => h) rfl (op_rem (lt_ rfl) rfl rfl (by omega) (by omega)) xT ?_
    refine WA.take (i := 8) rfl (by kernel_rfl) (fun _ _ _ h => h) rfl (op_sub (lt_ rfl) rfl rfl (by omega)) xT ?_
    refine W90 ?_
    refine W122 ?_
    refine WA.stepx (i := 9) (by kernel_rfl) rfl rfl (op_call (f52_spec r hr a k (1 - x.g % 2) (by omega) (by omega)) ca52 (lt_ rfl) rfl) (fun _ r => xT) ?_
    rintro _ _
    by_cases hgm : (nextF (1 - x.g % 2) (seenR r.V a k)) ≤ 2147483647
    ·
     refine W238 ?_
     rintro q hq
     refine W120 ?_
     refine W148 ?_
     refine W104 ?_
     refine W151 ?_
     refine W152 ?_
     refine W100 ?_
     refine W19 ?_
     refine W45 ?_
     refine W242 ?_
     exact Fin.ret3 xI ((.inl (q.1, q.2.1, q.2.2, x.es, x.g, x.f))) (⟨hpk, hgm, hq⟩) Tryz.results35 rfl (.cellN rfl ag39 xM xL) (.cellN rfl ag41 xM xL) (.tmp rfl) xT (by simp)
    ·
     refine WA.stepx (i := 12) (by kernel_rfl) rfl rfl (op_call (f51_lim r a k (nextF (1 - x.g % 2) (seenR r.V a k)) x.f _ (by omega) (by omega)) ca51 (lt_ rfl) rfl) (fun _ r => xT) ?_
     rintro _ _
     refine W120 ?_
     refine W148 ?_
     refine W104 ?_
     refine W151 ?_
     refine W152 ?_
     refine W100 ?_
     refine W19 ?_
     refine W45 ?_
     refine W242 ?_
     exact Fin.ret3 xI ((.inr 9)) (.inr ⟨_, _, _, hpk, by omega, rfl⟩) Tryz.results35 rfl (.cellN rfl ag39 xM xL) (.cellN rfl ag41 xM xL) (.tmp rfl) xT (by simp)
 ·
  refine W267 ?_
  refine W2 ?_
  refine WX.regs (L' := [(1, _), (2, _), (3, _), (6, _), (7, _), (11, _), (12, _), (13, _), (14, _), (15, _), (16, _), (17, _), (18, _), (57, _)]) ?_
  refine W281 ?_
  refine W0 ?_
  refine WC.cut (X := Ar × Nat × Nat × Nat) (fun q => pkR r.V a k = some (q.1.g, q.1.f, q.1.es.map Bs.s)) (fun q => [(1, .int .i64 a), (2, .int .i64 (k : Int)), (3, .pointer (some ⟨q.2.1, 0, none⟩)), (6, .pointer (some ⟨q.2.2.1, 0, none⟩)), (7, .pointer (some ⟨q.2.2.2, 0, none⟩)), (11, .int .i64 q.1.g), (12, .int .i64 q.1.f), (13, .slice q.1.A q.1.es.length q.1.c)]) (fun q => [own (.slice q.1.A q.1.es.length q.1.c) 30 1 q.1.es.length (q.1.es.map Bs.v), rowsC true q.1.es, own (.slice r.A r.ds.length r.c) 30 1 r.ds.length (r.ds.map Bs.v), rowsC true r.ds, own (.slice r.Aw r.ws.length r.cw) 84 2 r.ws.length (r.ws.flatMap Wb.cells), rowsC true (r.ws.map Wb.b), blk q.2.1 r.cells 39, blk q.2.2.1 [.slice none 0 0, .slice none 0 0, .int .i64 0, .bool false, .int .i64 0] 39, blk q.2.2.2 [.int .i64 0, .int .i64 0, .int .i64 0, .int .i64 0, .int .i64 0, .int .i64 0, .slice none 0 0, .int .i64 0, .int .i64 0] 41, frameC w0 (MutF [own (.slice r.A r.ds.length r.c) 30 1 r.ds.length (r.ds.map Bs.v), rowsC true r.ds, own (.slice r.Aw r.ws.length r.cw) 84 2 r.ws.length (r.ws.flatMap Wb.cells), rowsC true (r.ws.map Wb.b)])]) ?_ ?_
  ·
   refine W240 ?_
   refine W244 ?_
   refine WL.splitb (t := 61) rfl (fun g61 => ?_) (fun g61 => ?_)
   ·
    refine W13 ?_
    refine W113 ?_
    refine W13 ?_
    refine WL.splitb (t := 64) rfl (fun g64 => ?_) (fun g64 => ?_)
    ·
     refine W243 ?_
     refine W6 ?_
     refine W68 ?_
     refine W313 ?_
     refine W150 ?_
     refine W362 ?_
     refine W334 ?_
     refine W4 ?_
     refine W266 ?_
     refine W200 ?_
     refine WX.meet ((x1, b1, b2, b3)) (pick_ok1 hx0 hx1 (by simp_all) (by first | (left; simp_all; done) | (right; assumption) | (exfalso; simp_all; done))) (fun a w hs => hs.sub xY xT)
    ·
     refine W345 ?_
     refine W36 ?_
     refine W57 ?_
     refine W313 ?_
     refine W150 ?_
     refine W0 ?_
     refine WC.cond rfl (fun h3 => ?_) (fun h3 => ?_)
     ·
      refine W334 ?_
      refine W4 ?_
      refine W266 ?_
      refine W200 ?_
      refine WX.meet ((x1, b1, b2, b3)) (pick_ok1 hx0 hx1 (by simp_all) (by first | (left; simp_all; done) | (right; assumption) | (exfalso; simp_all; done))) (fun a w hs => hs.sub xY xT)
     ·
      refine W8 ?_
      refine WX.meet ((x0, b1, b2, b3)) (pick_ok0 hx0 hx1 (by first | (simp_all; done) | (exfalso; simp_all; done)) (by first | (left; simp_all; done) | (right; assumption) | (exfalso; simp_all; done))) (fun a w hs => hs.sub xY xT)
   ·
    refine W243 ?_
    refine W6 ?_
    refine W37 ?_
    refine W37 ?_
    refine W37 ?_
    refine W6 ?_
    refine W285 ?_
    refine W150 ?_
    refine W281 ?_
    refine WX.meet ((x0, b1, b2, b3)) (pick_ok0 hx0 hx1 (by first | (simp_all; done) | (exfalso; simp_all; done)) (by first | (left; simp_all; done) | (right; assumption) | (exfalso; simp_all; done))) (fun a w hs => hs.sub xY xT)
  ·rintro ⟨x, b1, b2, b3⟩ hpk
   try dsimp only at hpk ⊢
   obtain ⟨hb1, hb2, hb3, hb4⟩ := pkR_bound hpk
   have hn0 := nextF_ge (1 - x.g % 2) (seenR r.V a k)
   refine W1 ?_
   refine WC.drawn (Hs := [blk b1 r.cells 39]) mo 999 ?_
   refine W70 ?_
   refine W39 ?_
   refine W60 ?_
   refine W199 ?_
   refine W51 ?_
   refine W67 ?_
   refine W107 ?_
   refine WA.take (i := 7) rfl (by kernel_rfl) (fun _ _ _ h => h) rfl (op_rem (lt_ rfl) rfl rfl (by omega) (by omega)) xT ?_
   refine WA.take (i := 8) rfl (by kernel_rfl) (fun _ _ _ h => h) rfl (op_sub (lt_ rfl) rfl rfl (by omega)) xT ?_
   refine W90 ?_
   refine W122 ?_
   refine WA.stepx (i := 9) (by kernel_rfl) rfl rfl (op_call (f52_spec r hr a k (1 - x.g % 2) (by omega) (by omega)) ca52 (lt_ rfl) rfl) (fun _ r => xT) ?_
   rintro _ _
   by_cases hgm : (nextF (1 - x.g % 2) (seenR r.V a k)) ≤ 2147483647
   ·
    refine W238 ?_
    rintro q hq
    refine W120 ?_
    refine W148 ?_
    refine W104 ?_
    refine W151 ?_
    refine W152 ?_
    refine W100 ?_
    refine W19 ?_
    refine W45 ?_
    refine W242 ?_
    exact Fin.ret3 xI ((.inl (q.1, q.2.1, q.2.2, x.es, x.g, x.f))) (⟨hpk, hgm, hq⟩) Tryz.results35 rfl (.cellN rfl ag39 xM xL) (.cellN rfl ag41 xM xL) (.tmp rfl) xT (by simp)
   ·
    refine WA.stepx (i := 12) (by kernel_rfl) rfl rfl (op_call (f51_lim r a k (nextF (1 - x.g % 2) (seenR r.V a k)) x.f _ (by omega) (by omega)) ca51 (lt_ rfl) rfl) (fun _ r => xT) ?_
    rintro _ _
    refine W120 ?_
    refine W148 ?_
    refine W104 ?_
    refine W151 ?_
    refine W152 ?_
    refine W100 ?_
    refine W19 ?_
    refine W45 ?_
    refine W242 ?_
    exact Fin.ret3 xI ((.inr 9)) (.inr ⟨_, _, _, hpk, by omega, rfl⟩) Tryz.results35 rfl (.cellN rfl ag39 xM xL) (.cellN rfl ag41 xM xL) (.tmp rfl) xT (by simp)
end Go.Proofs.YtkjlbedebmffgaaGreat.Sx
namespace Go.Proofs.YtkjlbedebmffgaaGreat.Sx
open Go.RowKit Go.Proofs.YtkjlbedebmffgaaGreat.Ty
attribute [local irreducible] blk own rd rx frameC
def dmg (s : List UInt8) (i : Nat) (x : UInt8) : List UInt8 := s.set i (s.getD i 0 ^^^ x)
theorem dmg_length (s : List UInt8) (i : Nat) (x : UInt8) : (dmg s i x).length = s.length := by simp [dmg]
def rowV (s : Nat) (ds : List Bs) : Bs := ds.getD s ⟨none, 0, []⟩
theorem rowV_in {s : Nat} {ds : List Bs} (h : s < ds.length) : ds[s]? = some (rowV s ds) := by simp [rowV, List.getD_eq_getElem?_getD, h]
theorem rowV_push {s : Nat} {ds : List Bs} {b : Bs} (h : ¬ ds.length = s) : rowV s (ds ++ [b]) = rowV s ds := by
 unfold rowV
 simp only [List.getD_eq_getElem?_getD]
 by_cases h1 : s < ds.length
 ·rw [List.getElem?_append_left h1]
 ·rw [List.getElem?_append_right (by omega), List.getElem?_eq_none (show [b].length ≤ s - ds.length by simp only [List.length_singleton]; omega), List.getElem?_eq_none (by omega)]
theorem rowV_self {s : Nat} {ds : List Bs} {b : Bs} (h : ds.length = s) : rowV s (ds ++ [b]) = b := by
 unfold rowV
 simp [List.getD_eq_getElem?_getD, ← h]
theorem WX.rowput {Q : Exit → Act → World → Prop} {e : Exit} {n : Fr} {L : List (Nat × Value)} {H F1 F2 F3 : List Ch} {s : Nat} {ds : List Bs} {b : Bs} (k1 : Take H (rowsC true (ds.eraseIdx s)) F1) (k2 : Take F1 (own (rowV s ds).v 5 1 (rowV s ds).s.length (bvs (rowV s ds).s)) F2) (k3 : Take F2 (own b.v 5 1 b.s.length (bvs b.s)) F3)
  (h : WX Q e n L (rowsC true ((ds ++ [b]).eraseIdx s) :: own (rowV s (ds ++ [b])).v 5 1 (rowV s (ds ++ [b])).s.length (bvs (rowV s (ds ++ [b])).s) :: F3)) : WX Q e n L H := by
 by_cases hc : ds.length = s
 ·rw [rowV_self hc, List.eraseIdx_append_of_length_le (by omega), show s - ds.length = 0 by omega, show [b].eraseIdx 0 = [] from rfl, List.append_nil] at h
  rw [List.eraseIdx_of_length_le (by omega)] at k1
  intro a w hs
  refine h a w ⟨hs.regs, ?_⟩
  have h2 := ((hs.sat.perm k1.perm).perm (List.Perm.cons _ (k2.perm.trans (List.Perm.cons _ k3.perm))))
  exact h2.perm (List.Perm.swap _ _ _) |>.tail
 ·rw [rowV_push hc] at h
  have he : (ds ++ [b]).eraseIdx s = ds.eraseIdx s ++ [b] := by
   by_cases h1 : s < ds.length
   ·exact List.eraseIdx_append_of_lt_length h1 _
   ·rw [List.eraseIdx_of_length_le (by rw [List.length_append, List.length_singleton]; omega), List.eraseIdx_of_length_le (by omega)]
  rw [he] at h
  intro a w hs
  have h2 := ((hs.sat.perm k1.perm).perm (List.Perm.cons _ (k2.perm.trans (List.Perm.cons _ k3.perm))))
  have h3 := h2.perm ((List.Perm.swap _ _ _).symm)
  have hm := (h3.perm (List.Perm.cons _ (List.Perm.swap _ _ _))).perm (List.Perm.refl _)
  have h4 : Sat w (rowsC true (ds.eraseIdx s) :: own b.v 5 1 b.s.length (bvs b.s) :: own (rowV s ds).v 5 1 (rowV s ds).s.length (bvs (rowV s ds).s) :: F3) := h2.perm (List.Perm.cons _ (List.Perm.swap _ _ _))
  have h5 := h4.merge2 (d := rowsC true (ds.eraseIdx s ++ [b])) Take.here Take.here (rowsC_snoc (own_le_bs (A := b.A) (c := b.c) (s := b.s) rfl) (fun _ => by simp))
  exact h a w ⟨hs.regs, h5⟩
theorem rowsC_erase {s : Nat} {ds : List Bs} {b : Bs} {c : Ch} (hc : b.ch.Le c) (he : c.ex = true) : Mrg (rowsC true (ds.eraseIdx s)) c (rowsC true (ds.set s b)) := by
 have hmem : ∀ r ∈ ds.set s b, r ∈ ds.eraseIdx s ∨ r = b := by
  intro r hr
  obtain ⟨i, hi, rfl⟩ := List.mem_iff_getElem.1 hr
  rw [List.length_set] at hi
  rw [List.getElem_set]
  split
  ·exact .inr rfl
  ·rename_i hne
   left
   rw [List.mem_eraseIdx_iff_getElem]
   exact ⟨i, hi, fun k => hne k.symm, rfl⟩
 refine ⟨fun _ => ⟨rfl, he⟩, fun x ⟨r, hr, hx⟩ => ?_, fun w h1 h2 r hr => ?_⟩
 ·rcases hmem r hr with h | rfl
  ·exact .inl ⟨r, h, hx⟩
  ·exact .inr (hc.foot x hx)
 ·rcases hmem r hr with h | rfl
  ·exact h1 r h
  ·exact hc.ok w h2
structure Rd.Dmgd (q r : Rd) (a : Int) (i : Nat) (x : UInt8) : Prop where
 V : ∀ j : Int, 0 ≤ j → j < r.ds.length → q.V j = if j = a then dmg (r.V j) i x else r.V j
 n : q.ds.length = r.ds.length
 m : q.ws = []
 ok : q.Ok
theorem dmgd_of {q r : Rd} {s i : Nat} {x : UInt8} (hl : q.Like r) (hr : r.Ok) (hw : r.ws = []) (hs : s < q.ds.length) {A Aw : Option Addr} {c cw : Nat} {ops : Int} : (⟨A, c, q.ds.set s ⟨(rowV s q.ds).A, (rowV s q.ds).c, dmg (rowV s q.ds).s i x⟩, Aw, cw, [], ops⟩ : Rd).Dmgd r (s : Int) i x := by
 have hk := hl.Ok hr
 have h1 := congrArg List.length hl.1
 rw [List.length_map, List.length_map] at h1
 have h256 := hk.d _ (List.mem_of_getElem? (rowV_in hs))
 refine ⟨fun j h2 h3 => ?_, by simp only [List.length_set]; exact h1, rfl, ⟨by simp only [List.length_set]; exact hk.n, fun b hb => ?_, Nat.zero_le _, fun w hw => by cases hw⟩⟩
 ·rw [← hl.V]
  have hqw : q.ws = [] := by
   have := hl.2
   rw [hw, List.map_nil, List.map_eq_nil_iff] at this
   exact this
  unfold Rd.V
  simp only [hqw, List.map_nil, List.map_set, lastW, List.foldl_nil, List.getD_eq_getElem?_getD]
  by_cases hj : j = (s : Int)
  ·subst hj
   rw [if_pos rfl, Int.toNat_natCast, List.getElem?_set_self (by rw [List.length_map]; exact hs), List.getElem?_map, rowV_in hs]
   rfl
  ·rw [if_neg hj, List.getElem?_set_ne (by omega)]
 ·rcases List.mem_or_eq_of_mem_set hb with hb | rfl
  ·exact hk.d b hb
  ·rw [dmg_length]; exact h256
set_option maxHeartbeats 400000 in
set_option maxRecDepth 10000 in
theorem f34_apart (s : Nat) (r : Rd) (hr : r.Ok) (hw0 : r.ws = []) :
  Spec Tryz.prog 34 [.agg r.cells.toArray] [] [rd (.slice r.A r.ds.length r.c) 1 r.ds.length (r.ds.map Bs.v), rowsC false r.ds, rd (.slice r.Aw r.ws.length r.cw) 2 r.ws.length (r.ws.flatMap Wb.cells), rowsC false (r.ws.map Wb.b)] (R := Rd) (fun q => q.Like r) (fun q => .agg q.cells.toArray) (fun q => [own (.slice q.A q.ds.length q.c) 30 1 q.ds.length (q.ds.map Bs.v), rowsC true (q.ds.eraseIdx s), own (rowV s q.ds).v 5 1 (rowV s q.ds).s.length (bvs (rowV s q.ds).s), own (.slice q.Aw q.ws.length q.cw) 84 2 q.ws.length (q.ws.flatMap Wb.cells), rowsC true (q.ws.map Wb.b)]) := by
 have hrn := hr.n
 have hrm := hr.m
 have hw00 : r.ws.length = 0 := by rw [hw0]; rfl
 refine Spec.intro Tryz.func34 Tryz.ntmps34 rfl (by simp) (by simp) fun w0 => ?_
 refine W240 ?_
 refine wl1 (op_box (lt_ rfl) rfl rfl) rfl fun b1 => ?_
 refine wl1 (op_alloc ti39 (lt_ rfl)) rfl fun b2 => ?_
 refine W2 ?_
 refine W80 ?_
 refine W249 ?_
 refine W241 ?_
 refine WX.regs (L' := [(1, _), (2, _), (3, _)]) ?_
 refine W310 ?_
 refine W135 ?_
 refine W294 ?_
 refine W293 ?_
 refine WC.nilslice 5 1 ?_
 refine WC.loop (X := Nat × List Bs × Option Addr × Nat) (fun x => r.ds.length - x.1) (fun x => x.1 ≤ r.ds.length ∧ x.2.1.map Bs.s = (r.ds.map Bs.s).take x.1) (fun x => [(1, .pointer (some ⟨b1, 0, none⟩)), (2, .pointer (some ⟨b2, 0, none⟩)), (3, .slice x.2.2.1 x.2.1.length x.2.2.2), (4, .int .i64 (x.1 : Int))]) (fun x => [own (.slice x.2.2.1 x.2.1.length x.2.2.2) 30 1 x.2.1.length (x.2.1.map Bs.v), rowsC true (x.2.1.eraseIdx s), own (rowV s x.2.1).v 5 1 (rowV s x.2.1).s.length (bvs (rowV s x.2.1).s), blk b1 r.cells 39, blk b2 [.slice none 0 0, .slice none 0 0, .int .i64 0, .bool false, .int .i64 0] 39, rd (.slice r.A r.ds.length r.c) 1 r.ds.length (r.ds.map Bs.v), rowsC false r.ds, rd (.slice r.Aw r.ws.length r.cw) 2 r.ws.length (r.ws.flatMap Wb.cells), rowsC false (r.ws.map Wb.b), frameC w0 (MutF [])]) ((0, [], none, 0)) (⟨Nat.zero_le _, rfl⟩) (fun a w hs => hs.sub xY xT) ?_
 rintro ⟨i, ds, Ad, cd⟩ ⟨hi, hds⟩
 try dsimp only at hi hds ⊢
 have hdl : ds.length = i := by have := congrArg List.length hds; rw [List.length_map, List.length_take, List.length_map] at this; omega
 refine W328 ?_
 refine W117 ?_
 refine W65 ?_
 refine W40 ?_
 refine W265 ?_
 refine WX.regs (L' := [(1, _), (2, _), (3, _), (4, _), (11, _)]) ?_
 refine W0 ?_
 refine WC.cond rfl (fun h1 => ?_) (fun h1 => ?_)
 ·
  refine W270 ?_
  refine W3 ?_
  obtain ⟨d0, hd0⟩ : ∃ b, r.ds[i]? = some b := ⟨r.ds[i]'(by omega), List.getElem?_eq_getElem _⟩
  have hl0 := hr.d d0 (List.mem_of_getElem? hd0)
  refine W4 ?_
  refine wl1 (op_lit0 Tryz.underlying30 ti5 (lt_ rfl)) rfl fun b3 => ?_
  refine W117 ?_
  refine W65 ?_
  refine W4 ?_
  refine W95 ?_
  refine wlv (op_loadS fl30 (lt_ rfl) rfl xS (rows_at' hd0 (by omega))) rfl ?_
  refine wl2 (op_append0 Tryz.underlying30 ti5 rfl (by decide) (lt_ rfl) rfl rfl xK ⟨rowsC false r.ds, xM, rowsC_get (r := d0) (List.mem_of_getElem? hd0)⟩ xO (by omega) (by omega)) rfl fun A1 c1 => ?_
  refine wl1 (op_lit1 Tryz.underlying36 ti30 rfl (by decide) (lt_ rfl) rfl rfl) rfl fun b4 => ?_
  refine wl2 (op_append Tryz.underlying36 ti30 rfl (by decide) (lt_ rfl) rfl rfl xK xS (by rfl) (by omega) (by omega)) rfl fun A2 c2 => ?_
  refine W241 ?_
  refine W135 ?_
  refine W352 ?_
  refine W135 ?_
  refine WX.ownEq (v := .slice A2 (ds.length + 1) c2) ((ds ++ [(⟨A1, c1, d0.s⟩ : Bs)]).map Bs.v) xK (by rw [← map_push]; rfl) ?_
  refine WX.rowput (s := s) (ds := ds) (b := ⟨A1, c1, d0.s⟩) xK xK xK ?_
  rw [len_push ds ⟨A1, c1, d0.s⟩]
  refine WX.meet ((i + 1, ds ++ [⟨A1, c1, d0.s⟩], A2, c2)) ⟨⟨by simp only []; omega, by rw [take_snoc (x := d0.s) (by simp [hd0]), List.map_append, hds]; rfl⟩, by simp only []; omega⟩ (fun a w hs => hs.sub xY xT)
 ·
  refine W284 ?_
  refine W241 ?_
  refine WX.regs (L' := [(1, _), (2, _), (3, _), (5, _)]) ?_
  refine W310 ?_
  refine WX.regs (L' := [(1, _), (2, _), (3, _), (5, _), (6, _)]) ?_
  refine W294 ?_
  refine WC.nilrows true ?_
  refine WC.nilslice 84 2 ?_
  refine WC.loop (X := Nat × List Wb × Option Addr × Nat) (fun x => r.ws.length - x.1) (fun x => x.1 ≤ r.ws.length ∧ x.2.1.map Wb.p = (r.ws.map Wb.p).take x.1) (fun x => [(1, .pointer (some ⟨b1, 0, none⟩)), (2, .pointer (some ⟨b2, 0, none⟩)), (3, .slice Ad ds.length cd), (5, .slice x.2.2.1 x.2.1.length x.2.2.2), (6, .int .i64 (x.1 : Int))]) (fun x => [own (.slice x.2.2.1 x.2.1.length x.2.2.2) 84 2 x.2.1.length (x.2.1.flatMap Wb.cells), rowsC true (x.2.1.map Wb.b), own (.slice Ad ds.length cd) 30 1 ds.length (ds.map Bs.v), rowsC true (ds.eraseIdx s), own (rowV s ds).v 5 1 (rowV s ds).s.length (bvs (rowV s ds).s), blk b1 r.cells 39, blk b2 [.slice none 0 0, .slice none 0 0, .int .i64 0, .bool false, .int .i64 0] 39, rd (.slice r.A r.ds.length r.c) 1 r.ds.length (r.ds.map Bs.v), rowsC false r.ds, rd (.slice r.Aw r.ws.length r.cw) 2 r.ws.length (r.ws.flatMap Wb.cells), rowsC false (r.ws.map Wb.b), frameC w0 (MutF [])]) ((0, [], none, 0)) (⟨Nat.zero_le _, rfl⟩) (fun a w hs => hs.sub xY xT) ?_
  rintro ⟨j, ws, Aw, cw⟩ ⟨hj, hws⟩
  try dsimp only at hj hws ⊢
  have hwl : ws.length = j := by have := congrArg List.length hws; rw [List.length_map, List.length_take, List.length_map] at this; omega
  refine W328 ?_
  refine W105 ?_
  refine W306 ?_
  refine W265 ?_
  refine WX.regs (L' := [(1, _), (2, _), (3, _), (5, _), (6, _), (28, _)]) ?_
  refine W0 ?_
  refine WC.cond rfl (fun h2 => ?_) (fun h2 => ?_)
  ·
   exfalso; omega
  ·
   refine W284 ?_
   refine W244 ?_
   refine W117 ?_
   refine W134 ?_
   refine W10 ?_
   refine W105 ?_
   refine wl (op_store sz37 rfl rfl xK xL xO (by first | exact Nat.le_of_ble_eq_true rfl | (simp; omega))) rfl ?_
   refine W252 ?_
   refine WX.blkEq (b := b1) (Rd.cells ⟨Ad, cd, ds, Aw, cw, ws, r.ops⟩) xK (by rfl) ?_
   refine W80 ?_
   refine W249 ?_
   refine W41 ?_
   refine W50 ?_
   refine W252 ?_
   refine W250 ?_
   exact Fin.ret1 xI (⟨Ad, cd, ds, Aw, cw, ws, r.ops⟩) (⟨by rw [hds, List.take_of_length_le (by rw [List.length_map]; omega)], by rw [hws, List.take_of_length_le (by rw [List.length_map]; omega)]⟩) Tryz.results34 (.cellN rfl ag39 xM xL) xT (by simp)
set_option maxHeartbeats 400000 in
set_option maxRecDepth 10000 in
theorem f10_spec (r : Rd) (hr : r.Ok) (hw0 : r.ws = []) (s : Nat) (hs : s < r.ds.length) (i : Nat) (hi : i < 256) (x : UInt8) :
  Spec Tryz.prog 10 [.agg r.cells.toArray, .int .i64 (s : Int), .int .i64 (i : Int), bv x] [] [rd (.slice r.A r.ds.length r.c) 1 r.ds.length (r.ds.map Bs.v), rowsC false r.ds, rd (.slice r.Aw r.ws.length r.cw) 2 r.ws.length (r.ws.flatMap Wb.cells), rowsC false (r.ws.map Wb.b)] (R := Rd) (fun q => q.Dmgd r (s : Int) i x) (fun q => .tuple #[.agg q.cells.toArray, .int .i64 0]) (fun q => [own (.slice q.A q.ds.length q.c) 30 1 q.ds.length (q.ds.map Bs.v), rowsC true q.ds, own (.slice q.Aw q.ws.length q.cw) 84 2 q.ws.length (q.ws.flatMap Wb.cells), rowsC true (q.ws.map Wb.b)]) := by
 have hrn := hr.n
 refine Spec.intro Tryz.func10 Tryz.ntmps10 rfl (by simp) (by simp) fun w0 => ?_
 refine W240 ?_
 refine wl1 (op_box (lt_ rfl) rfl rfl) rfl fun b1 => ?_
 refine wl1 (op_alloc ti39 (lt_ rfl)) rfl fun b2 => ?_
 refine W241 ?_
 refine WX.regs (L' := [(1, _), (2, _), (3, _), (4, _), (8, _)]) ?_
 refine W269 ?_
 refine W41 ?_
 refine W4 ?_
 refine wlx (op_call (f33_spec r (s : Int) ⟨by omega, by omega⟩) ca33 (lt_ rfl) rfl) rfl ?_
 rintro _ _
 refine W85 ?_
 refine W2 ?_
 refine WX.regs (L' := [(1, _), (2, _), (3, _), (4, _), (8, _), (14, _)]) ?_
 refine W281 ?_
 refine W282 ?_
 refine W25 ?_
 rw [show decide ((i : Int) < 0) = false from decide_eq_false (by omega)]
 refine W361 ?_
 refine wlgv (op_geq (lt_ rfl) rfl rfl) rfl rfl rfl ?_
 rw [show decide ((i : Int) ≥ 256) = false from decide_eq_false (by omega)]
 refine W285 ?_
 refine WX.regs (L' := [(1, _), (2, _), (3, _), (4, _), (8, _), (21, _)]) ?_
 refine W281 ?_
 refine W249 ?_
 refine W41 ?_
 refine wlx (op_call (f34_apart s r hr hw0) ca34 (lt_ rfl) rfl) rfl ?_
 rintro q hq
 have hqn : q.ds.length = r.ds.length := by have := congrArg List.length hq.1; rw [List.length_map, List.length_map] at this; exact this
 have hrow := rowV_in (s := s) (ds := q.ds) (by omega)
 have h256 := (hq.Ok hr).d _ (List.mem_of_getElem? hrow)
 have hqw : q.ws = [] := by have := hq.2; rw [hw0, List.map_nil, List.map_eq_nil_iff] at this; exact this
 refine W50 ?_
 refine W252 ?_
 refine WX.blkEq (b := b1) q.cells xK (by rfl) ?_
 refine WX.regs (L' := [(1, _), (2, _), (3, _), (4, _), (8, _)]) ?_
 refine W327 ?_
 refine WC.drawn (Hs := [blk b1 q.cells 39, own (.slice q.A q.ds.length q.c) 30 1 q.ds.length (q.ds.map Bs.v), own (rowV s q.ds).v 5 1 (rowV s q.ds).s.length (bvs (rowV s q.ds).s)]) mo 17 ?_
 refine W278 ?_
 refine W60 ?_
 refine WA.take (i := 3) rfl (by kernel_rfl) (fun _ _ _ h => h) rfl (op_index Tryz.underlying36 sz30 (lt_ rfl) rfl rfl (by omega) (by omega) (by decide) xS) xT ?_
 refine WA.take (i := 4) rfl (by kernel_rfl) (fun _ _ _ h => h) rfl (op_loadS fl30 (lt_ rfl) rfl xS (rows_at' hrow (by omega))) xT ?_
 refine W67 ?_
 refine WA.take (i := 6) rfl (by kernel_rfl) (fun _ _ _ h => h) rfl (op_fieldAddr fo39_0 (lt_ rfl) rfl) xT ?_
 refine WA.take (i := 7) rfl (by kernel_rfl) (fun _ _ _ h => h) rfl (op_load1 fl36 (lt_ rfl) rfl xM rfl) xT ?_
 refine W71 ?_
 refine WA.take (i := 9) rfl (by kernel_rfl) (fun _ _ _ h => h) rfl (op_index Tryz.underlying36 sz30 (lt_ rfl) rfl rfl (by omega) (by omega) (by decide) xS) xT ?_
 refine WA.take (i := 10) rfl (by kernel_rfl) (fun _ _ _ h => h) rfl (op_loadS fl30 (lt_ rfl) rfl xS (rows_at' hrow (by omega))) xT ?_
 refine W122 ?_
 refine W220 ?_
 refine WA.take (i := 13) rfl (by kernel_rfl) (fun _ _ _ h => h) rfl (op_loadS fl5 (lt_ rfl) rfl xS (bvs_at (k := i) (by omega) (by omega))) xT ?_
 refine W123 ?_
 refine WA.take (i := 15) rfl (by kernel_rfl) (fun _ _ _ h => h) rfl (op_xor8 (lt_ rfl) rfl rfl) xT ?_
 refine WA.take (i := 16) rfl (by kernel_rfl) (fun _ _ _ h => h) rfl (op_index Tryz.underlying30 sz5 (lt_ rfl) rfl rfl (by omega) (by omega) (by decide) xS) xT ?_
 refine WA.stepo (G := []) (i := 17) (by kernel_rfl) rfl rfl (op_storeS sz5 rfl rfl xK rfl (by rfl) (by rw [bvs_length]; simp [Value.cells]; omega) (by decide)) (fun h => absurd rfl h) ?_
 refine W19 ?_
 refine WX.ownEq (v := (rowV s q.ds).v) (bvs (dmg (rowV s q.ds).s i x)) xK (bvs_put (k := i) (by omega) (by omega)) ?_
 refine WX.merge2 (c1 := rowsC true (q.ds.eraseIdx s)) (c2 := own (rowV s q.ds).v 5 1 (rowV s q.ds).s.length (bvs (dmg (rowV s q.ds).s i x))) (d := rowsC true (q.ds.set s ⟨(rowV s q.ds).A, (rowV s q.ds).c, dmg (rowV s q.ds).s i x⟩)) xK xK (rowsC_erase (own_le_bs (dmg_length ..)) (by simp)) ?_
 have hvs : (q.ds.set s ⟨(rowV s q.ds).A, (rowV s q.ds).c, dmg (rowV s q.ds).s i x⟩).map Bs.v = q.ds.map Bs.v := by rw [List.map_set]; refine (List.ext_getElem? fun j => ?_); by_cases hj : s = j; (subst hj; rw [List.getElem?_set_self (by rw [List.length_map]; omega), rows_at hrow]; unfold Bs.v; rw [dmg_length]); rw [List.getElem?_set_ne hj]
 have hls : (q.ds.set s ⟨(rowV s q.ds).A, (rowV s q.ds).c, dmg (rowV s q.ds).s i x⟩).length = q.ds.length := List.length_set
 refine WX.chEq (c := own (.slice q.A q.ds.length q.c) 30 1 q.ds.length (q.ds.map Bs.v)) (own (.slice q.A (q.ds.set s ⟨(rowV s q.ds).A, (rowV s q.ds).c, dmg (rowV s q.ds).s i x⟩).length q.c) 30 1 (q.ds.set s ⟨(rowV s q.ds).A, (rowV s q.ds).c, dmg (rowV s q.ds).s i x⟩).length ((q.ds.set s ⟨(rowV s q.ds).A, (rowV s q.ds).c, dmg (rowV s q.ds).s i x⟩).map Bs.v)) xK (by rw [hvs, hls]) ?_
 refine WX.blkEq (b := b1) (Rd.cells ⟨q.A, q.c, q.ds.set s ⟨(rowV s q.ds).A, (rowV s q.ds).c, dmg (rowV s q.ds).s i x⟩, q.Aw, q.cw, [], q.ops⟩) xK (by unfold Rd.cells; rw [hls, hqw]) ?_
 refine WX.chEq (c := own (.slice q.Aw q.ws.length q.cw) 84 2 q.ws.length (q.ws.flatMap Wb.cells)) (own (.slice q.Aw ([] : List Wb).length q.cw) 84 2 ([] : List Wb).length (([] : List Wb).flatMap Wb.cells)) xK (by rw [hqw]) ?_
 refine WX.chEq (c := rowsC true (q.ws.map Wb.b)) (rowsC true (([] : List Wb).map Wb.b)) xK (by rw [hqw]) ?_
 refine WX.regs (L' := [(1, _), (2, _), (3, _), (4, _), (8, _)]) ?_
 refine W310 ?_
 refine WX.regs (L' := [(1, _), (2, _), (3, _), (4, _), (8, _), (10, _)]) ?_
 refine W294 ?_
 refine WC.loop (X := Unit) (fun u => 0) (fun u => True) (fun u => [(4, .pointer (some ⟨b1, 0, none⟩)), (8, .pointer (some ⟨b2, 0, none⟩)), (10, .int .i64 0)]) (fun u => [own (.slice (⟨q.A, q.c, q.ds.set s ⟨(rowV s q.ds).A, (rowV s q.ds).c, dmg (rowV s q.ds).s i x⟩, q.Aw, q.cw, [], q.ops⟩ : Rd).A (⟨q.A, q.c, q.ds.set s ⟨(rowV s q.ds).A, (rowV s q.ds).c, dmg (rowV s q.ds).s i x⟩, q.Aw, q.cw, [], q.ops⟩ : Rd).ds.length (⟨q.A, q.c, q.ds.set s ⟨(rowV s q.ds).A, (rowV s q.ds).c, dmg (rowV s q.ds).s i x⟩, q.Aw, q.cw, [], q.ops⟩ : Rd).c) 30 1 (⟨q.A, q.c, q.ds.set s ⟨(rowV s q.ds).A, (rowV s q.ds).c, dmg (rowV s q.ds).s i x⟩, q.Aw, q.cw, [], q.ops⟩ : Rd).ds.length ((⟨q.A, q.c, q.ds.set s ⟨(rowV s q.ds).A, (rowV s q.ds).c, dmg (rowV s q.ds).s i x⟩, q.Aw, q.cw, [], q.ops⟩ : Rd).ds.map Bs.v), rowsC true (⟨q.A, q.c, q.ds.set s ⟨(rowV s q.ds).A, (rowV s q.ds).c, dmg (rowV s q.ds).s i x⟩, q.Aw, q.cw, [], q.ops⟩ : Rd).ds, own (.slice (⟨q.A, q.c, q.ds.set s ⟨(rowV s q.ds).A, (rowV s q.ds).c, dmg (rowV s q.ds).s i x⟩, q.Aw, q.cw, [], q.ops⟩ : Rd).Aw (⟨q.A, q.c, q.ds.set s ⟨(rowV s q.ds).A, (rowV s q.ds).c, dmg (rowV s q.ds).s i x⟩, q.Aw, q.cw, [], q.ops⟩ : Rd).ws.length (⟨q.A, q.c, q.ds.set s ⟨(rowV s q.ds).A, (rowV s q.ds).c, dmg (rowV s q.ds).s i x⟩, q.Aw, q.cw, [], q.ops⟩ : Rd).cw) 84 2 (⟨q.A, q.c, q.ds.set s ⟨(rowV s q.ds).A, (rowV s q.ds).c, dmg (rowV s q.ds).s i x⟩, q.Aw, q.cw, [], q.ops⟩ : Rd).ws.length ((⟨q.A, q.c, q.ds.set s ⟨(rowV s q.ds).A, (rowV s q.ds).c, dmg (rowV s q.ds).s i x⟩, q.Aw, q.cw, [], q.ops⟩ : Rd).ws.flatMap Wb.cells), rowsC true ((⟨q.A, q.c, q.ds.set s ⟨(rowV s q.ds).A, (rowV s q.ds).c, dmg (rowV s q.ds).s i x⟩, q.Aw, q.cw, [], q.ops⟩ : Rd).ws.map Wb.b), blk b1 (Rd.cells ⟨q.A, q.c, q.ds.set s ⟨(rowV s q.ds).A, (rowV s q.ds).c, dmg (rowV s q.ds).s i x⟩, q.Aw, q.cw, [], q.ops⟩) 39, blk b2 [.slice none 0 0, .slice none 0 0, .int .i64 0, .bool false, .int .i64 0] 39, frameC w0 (MutF [])]) (()) (trivial) (fun a w hs => hs.sub xY xT) ?_
 rintro _ _
 try dsimp only
 refine W328 ?_
 refine W105 ?_
 refine W306 ?_
 refine W265 ?_
 refine WX.regs (L' := [(4, _), (8, _), (10, _), (46, _)]) ?_
 refine W0 ?_
 refine WC.cond rfl (fun h3 => ?_) (fun h3 => ?_)
 ·
  simp at h3
 ·
  refine W284 ?_
  refine W41 ?_
  refine W50 ?_
  refine W271 ?_
  refine WX.regs (L' := [(8, _), (9, _)]) ?_
  refine W242 ?_
  exact Fin.ret2 xI (⟨q.A, q.c, q.ds.set s ⟨(rowV s q.ds).A, (rowV s q.ds).c, dmg (rowV s q.ds).s i x⟩, q.Aw, q.cw, [], q.ops⟩) (dmgd_of hq hr hw0 (by omega)) Tryz.results10 rfl (.cellN rfl ag39 xM xL) (.tmp rfl) xT (by simp)
def Dk.dmgS (D : Dk) (a : Int) (i : Nat) (x : UInt8) : Dk := { D with dur := put D.dur a ⟨dmg (D.dur a).s i x, by rw [dmg_length, (D.dur a).h]⟩ }
set_option maxHeartbeats 400000 in
set_option maxRecDepth 10000 in
theorem f9_dmg (bd bm : Nat) (A : Option Addr) (c : Nat) (D : Dk) (hp : D.pend = []) (a : Int) (ha : 0 ≤ a ∧ a < D.n) (i : Nat) (hi : i < 256) (x : UInt8) :
  Spec Tryz.prog 9 [.pointer (some ⟨bd, 0, none⟩), .int .i64 a, .int .i64 (i : Int), bv x] [blk bd (dcells D bm A c) 77, mapC bm (dmap D.dur), own (.slice A D.pend.length c) 80 257 D.pend.length (D.pend.flatMap wcs)] [] (R := Unit) (fun _ => True) (fun _ => .int .i64 0) (fun q => [blk bd (dcells (D.dmgS a i x) bm A c) 77, mapC bm (dmap (D.dmgS a i x).dur), own (.slice A (D.dmgS a i x).pend.length c) 80 257 (D.dmgS a i x).pend.length ((D.dmgS a i x).pend.flatMap wcs)]) := by
 have hpl : D.pend.length = 0 := by rw [hp]; rfl
 have h256 := (D.dur a).h
 refine Spec.intro Tryz.func9 Tryz.ntmps9 rfl (by simp) (by simp) fun w0 => ?_
 refine W283 ?_
 refine WX.regs (L' := [(0, _), (1, _), (2, _), (3, _)]) ?_
 refine W0 ?_
 refine W254 ?_
 refine W351 ?_
 refine W142 ?_
 refine W241 ?_
 refine WX.regs (L' := [(0, _), (1, _), (2, _), (3, _), (11, _)]) ?_
 refine W0 ?_
 refine W23 ?_
 refine W240 ?_
 refine W244 ?_
 refine wlx (op_call (f31_spec bd bm A c D a) ca31 (lt_ rfl) rfl) rfl ?_
 rintro _ _
 rw [show decide (0 ≤ a ∧ a < D.n) = true from decide_eq_true ha]
 refine W85 ?_
 refine W241 ?_
 refine WX.regs (L' := [(0, _), (1, _), (2, _), (3, _), (14, _)]) ?_
 refine W0 ?_
 refine W23 ?_
 refine W351 ?_
 refine W25 ?_
 rw [show decide ((i : Int) < 0) = false from decide_eq_false (by omega)]
 refine W361 ?_
 refine wlgv (op_geq (lt_ rfl) rfl rfl) rfl rfl rfl ?_
 rw [show decide ((i : Int) ≥ 256) = false from decide_eq_false (by omega)]
 refine W15 ?_
 refine W241 ?_
 refine WX.regs (L' := [(0, _), (1, _), (2, _), (3, _), (19, _)]) ?_
 refine W281 ?_
 refine W18 ?_
 refine W323 ?_
 refine wlv (op_fieldAddr fo77_1 (lt_ rfl) rfl) rfl ?_
 refine wlv (op_load1 fl74 (lt_ rfl) rfl xM rfl) rfl ?_
 refine W4 ?_
 refine wlv (op_lookup Tryz.underlying74 Tryz.underlying3 zf73 (lt_ rfl) rfl rfl xM) rfl ?_
 rw [dmap_get]
 refine wl1 (op_alloc ti73 (lt_ rfl)) rfl fun b1 => ?_
 refine wl (op_storeAll sz73 rfl rfl xK (by show (bvs (D.dur a).s).length = 256; rw [bvs_length, (D.dur a).h]) (bvs_one _) (by rfl)) rfl ?_
 refine W252 ?_
 refine WX.blkEq (b := b1) (bvs (D.dur a).s) xK (by rfl) ?_
 refine WX.regs (L' := [(0, _), (1, _), (2, _), (3, _), (9, _)]) ?_
 refine W261 ?_
 refine wlv (op_indexArr Tryz.underlying73 sz5 (lt_ rfl) rfl rfl (by omega) (by omega)) rfl ?_
 refine wlv (op_load1 fl5 (lt_ rfl) rfl xM (by rw [Nat.zero_add]; exact bvs_at (k := i) (by omega) (by omega))) rfl ?_
 refine W4 ?_
 refine wlv (op_xor8 (lt_ rfl) rfl rfl) rfl ?_
 refine wlv (op_indexArr Tryz.underlying73 sz5 (lt_ rfl) rfl rfl (by omega) (by omega)) rfl ?_
 refine wl (op_store sz5 rfl rfl xK xL xO (by rw [bvs_length]; simp [Value.cells]; omega)) rfl ?_
 refine W252 ?_
 refine WX.blkEq (b := b1) (bvs (dmg (D.dur a).s i x)) xK (by first | exact bvs_put (k := i) (by omega) (by omega) | (rw [Nat.zero_add]; exact bvs_put (k := i) (by omega) (by omega))) ?_
 refine WX.regs (L' := [(0, _), (1, _), (2, _), (3, _), (9, _)]) ?_
 refine W299 ?_
 refine wlv (op_loadAll ag73 (lt_ rfl) rfl xM (by rw [bvs_length, dmg_length, (D.dur a).h])) rfl ?_
 refine wlx (op_call (f32_spec bd bm A c D a (⟨dmg (D.dur a).s i x, by rw [dmg_length, (D.dur a).h]⟩ : Sct)) ca32 (lt_ rfl) rfl) rfl ?_
 rintro _ _
 refine W2 ?_
 refine WX.regs (L' := [(0, _), (1, _), (2, _), (3, _)]) ?_
 refine W282 ?_
 refine W27 ?_
 refine wlv (op_fieldAddr fo77_2 (lt_ rfl) rfl) rfl ?_
 refine wlv (op_load1 fl75 (lt_ rfl) rfl xM rfl) rfl ?_
 refine wlv (op_len Tryz.underlying75 (lt_ rfl) rfl) rfl ?_
 refine W272 ?_
 refine WX.regs (L' := [(0, _), (1, _), (2, _), (3, _), (46, _), (47, _)]) ?_
 refine W294 ?_
 refine WC.loop (X := Unit) (fun u => 0) (fun u => True) (fun u => [(46, .int .i64 (D.pend.length : Int)), (47, .int .i64 0)]) (fun u => [blk bd (dcells (D.dmgS a i x) bm A c) 77, mapC bm (dmap (D.dmgS a i x).dur), own (.slice A (D.dmgS a i x).pend.length c) 80 257 (D.dmgS a i x).pend.length ((D.dmgS a i x).pend.flatMap wcs), frameC w0 (MutF [blk bd (dcells D bm A c) 77, mapC bm (dmap D.dur), own (.slice A D.pend.length c) 80 257 D.pend.length (D.pend.flatMap wcs)])]) (()) (trivial) (fun a w hs => hs.sub xY xT) ?_
 rintro _ _
 try dsimp only
 refine W312 ?_
 refine WX.regs (L' := [(46, _), (47, _), (48, _)]) ?_
 refine W327 ?_
 refine WC.cond rfl (fun h4 => ?_) (fun h4 => ?_)
 ·
  exfalso; omega
 ·
  refine W284 ?_
  refine W241 ?_
  refine WX.regs (L' := [(8, _)]) ?_
  refine W242 ?_
  exact Fin.ret1 xI (()) (trivial) Tryz.results9 (.tmp rfl) xT (by simp)
end Go.Proofs.YtkjlbedebmffgaaGreat.Sx
