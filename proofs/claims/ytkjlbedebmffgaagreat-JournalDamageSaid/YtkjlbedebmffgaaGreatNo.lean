import Derived.Test.YtkjlbedebmffgaaGreatNn
set_option linter.unusedVariables false
set_option linter.unusedSimpArgs false
namespace Go.Proofs.YtkjlbedebmffgaaGreat.Sx
open Go.RowKit Go.Proofs.YtkjlbedebmffgaaGreat.Ty
attribute [local irreducible] blk own rd rx frameC
structure Wi (k : Nat) (N : Int) (M : Nat) (s : Wo) : Prop where
 S : ∃ c0 k0, Strong k N s.p.D s.p.J (s.p.rs.map Bs.s) c0 k0
 lim : s.p.D.lim = false
 fi : s.p.J.fi = 3
 n : s.p.D.n = 48
 pd : s.p.D.pend.length ≤ M
 ws : s.r.ws.length ≤ M
 same : Same s.r s.p.D
 es : s.es.map Bs.s = s.p.rs.map Bs.s
theorem Same.eqV {r : Rd} {D D' : Dk} (h : Same r D) (hn : D'.n = D.n) (hv : D'.V = D.V) : Same r D' := ⟨by rw [h.n, hn], fun i h1 h2 => by rw [hv]; exact h.v i h1 (by rw [← hn]; exact h2), h.ok⟩
theorem AppO.same {k : Nat} {J J2 J3 : Jn} {es es2 es3 : List Sec} {p : Sec} {n2 e2 n3 e3 : Int} (h : AppO k J J2 es es2 p n2 e2) (h' : AppO k J J3 es es3 p n3 e3) : J3 = J2 ∧ es3 = es2 ∧ n2 = n3 ∧ e2 = e3 := by
 rcases h with ⟨h0, h1, h2, h3, h4⟩ | ⟨h0, h1, h2, h3, h4⟩ <;> rcases h' with ⟨g0, g1, g2, g3, g4⟩ | ⟨g0, g1, g2, g3, g4⟩
 ·exact ⟨by rw [h1, g1], by rw [h2, g2], by rw [h3, g3], by rw [h4, g4]⟩
 ·omega
 ·omega
 ·exact ⟨by rw [h1, g1], by rw [h2, g2], by rw [h3, g3], by rw [h4, g4]⟩
theorem AppO.fi {k : Nat} {J J2 : Jn} {es es2 : List Sec} {p : Sec} {n2 e2 : Int} (h : AppO k J J2 es es2 p n2 e2) : J2.fi = J.fi := by
 rcases h with ⟨_, rfl, _⟩ | ⟨_, rfl, _⟩ <;> rfl
theorem AppV.same {k : Nat} {J : Jn} {es : List Sec} {p : Sec} {r r2 : Rd} {D D2 : Dk} (h : AppV k J es p D.V D2.V) (hs : Same r D) (hn : D2.n = D.n) (h1 : 1 + needs es + need p.length ≤ k / 2 → r2.Put r (J.fi + J.gen % 2 * (J.se / 2) + J.used) (sects 2 J.gen ((es.length : Int) + 1) p)) (h2 : k / 2 < 1 + needs es + need p.length → r2 = r) : Same r2 D2 := by
 by_cases hf : 1 + needs es + need p.length ≤ k / 2
 ·exact hs.put (h1 hf) hn (h.1 hf)
 ·rw [h2 (by omega)]
  exact hs.eqV hn (h.2 (by omega))
theorem TrO.same {k : Nat} {J J2 J3 : Jn} {es es2 es3 : List Sec} {b g e2 e3 : Int} (h : TrO k J J2 es es2 b g e2) (h' : TrO k J J3 es es3 b g e3) : J3 = J2 ∧ es3 = es2 ∧ e2 = e3 := by
 rcases h with ⟨h0, h1, h2, h3⟩ | ⟨h0, h1, h2, h3⟩ | ⟨m, m1, m2, h0, h1, h2, h3⟩ <;> rcases h' with ⟨g0, g1, g2, g3⟩ | ⟨g0, g1, g2, g3⟩ | ⟨m', m1', m2', g0, g1, g2, g3⟩
 ·exact ⟨by rw [h1, g1], by rw [h2, g2], by rw [h3, g3]⟩
 ·omega
 ·omega
 ·omega
 ·exact ⟨by rw [h1, g1], by rw [h2, g2], by rw [h3, g3]⟩
 ·omega
 ·omega
 ·omega
 ·obtain rfl : m = m' := by omega
  exact ⟨by rw [h1, g1], by rw [h2, g2], by rw [h3, g3]⟩
theorem TrO.fi {k : Nat} {J J2 : Jn} {es es2 : List Sec} {b g e2 : Int} (h : TrO k J J2 es es2 b g e2) : J2.fi = J.fi := by
 rcases h with ⟨_, rfl, _⟩ | ⟨_, rfl, _⟩ | ⟨_, _, _, _, rfl, _⟩ <;> rfl
theorem TrV.same {k : Nat} {J : Jn} {es : List Sec} {b g : Int} {r r2 : Rd} {D D2 : Dk} (h : TrV k J es b g D.V D2.V) (hs : Same r D) (hn : D2.n = D.n) (h1 : b ≤ J.first ∨ J.first + es.length < b → r2 = r)
  (h2 : ∀ m : Nat, 1 ≤ m → m ≤ es.length → b = J.first + m → r2.Area r (J.fi + g % 2 * ((k / 2 : Nat) : Int)) (areaS g b (es.drop m))) : Same r2 D2 := by
 by_cases hf : b ≤ J.first ∨ J.first + es.length < b
 ·rw [h1 hf]
  exact hs.eqV hn (h.1 hf)
 ·exact hs.area (h2 (b - J.first).toNat (by omega) (by omega) (by omega)) hn (h.2 (b - J.first).toNat (by omega) (by omega) (by omega))
set_option maxHeartbeats 400000 in
set_option maxRecDepth 10000 in
theorem f8_spec (bx bd bm : Nat) {k : Nat} {N : Int} {M : Nat} (D : Dk) (A : Option Addr) (c : Nat) (J : Jn) (Aj : Option Addr) (cj : Nat) (rs : List Bs) (bj : Nat) (r : Rd) (Ar : Option Addr) (cr : Nat) (es : List Bs) (h : Wi k N M ⟨⟨D, A, c, J, Aj, cj, rs⟩, bj, r, Ar, cr, es⟩) (hN : 0 ≤ N ∧ N ≤ 800000) (hM : M ≤ 700000) (o : OpR) (ho : o.n < 65536) (hk3 : o.k.toNat < 3) :
  Spec Tryz.prog 8 [.pointer (some ⟨bx, 0, none⟩), .agg o.cells.toArray] [blk bx (wcl bd (.pointer (some ⟨bj, 0, none⟩)) r (rjc J Ar cr es.length) k) 43, blk bd (dcells D bm A c) 77, mapC bm (dmap D.dur), own (.slice A D.pend.length c) 80 257 D.pend.length (D.pend.flatMap wcs), blk bj (jcells J bd Aj rs.length cj) 96, own (.slice Aj rs.length cj) 30 1 rs.length (rs.map Bs.v), rowsC true rs, own (.slice r.A r.ds.length r.c) 30 1 r.ds.length (r.ds.map Bs.v), rowsC true r.ds, own (.slice r.Aw r.ws.length r.cw) 84 2 r.ws.length (r.ws.flatMap Wb.cells), rowsC true (r.ws.map Wb.b), own (.slice Ar es.length cr) 30 1 es.length (es.map Bs.v), rowsC true es] [] (R := Wo) (fun q => Wi k (N + 1000) (M + 600) q ∧ (o.k.toNat = 1 → q.p.D.pend = [] ∧ q.r.ws = [])) (fun _ => .bool true) (fun q => [blk bx (wcl bd (.pointer (some ⟨q.bj, 0, none⟩)) q.r (rjc q.p.J q.A q.c q.es.length) k) 43, blk bd (dcells q.p.D bm q.p.A q.p.c) 77, mapC bm (dmap q.p.D.dur), own (.slice q.p.A q.p.D.pend.length q.p.c) 80 257 q.p.D.pend.length (q.p.D.pend.flatMap wcs), blk q.bj (jcells q.p.J bd q.p.Aj q.p.rs.length q.p.cj) 96, own (.slice q.p.Aj q.p.rs.length q.p.cj) 30 1 q.p.rs.length (q.p.rs.map Bs.v), rowsC true q.p.rs, own (.slice q.r.A q.r.ds.length q.r.c) 30 1 q.r.ds.length (q.r.ds.map Bs.v), rowsC true q.r.ds, own (.slice q.r.Aw q.r.ws.length q.r.cw) 84 2 q.r.ws.length (q.r.ws.flatMap Wb.cells), rowsC true (q.r.ws.map Wb.b), own (.slice q.A q.es.length q.c) 30 1 q.es.length (q.es.map Bs.v), rowsC true q.es]) := by
 obtain ⟨⟨c0, k0, hS⟩, hl, hfi, hn, hpd, hws, hsame, hes⟩ := h
 dsimp only at hS hl hfi hn hpd hws hsame hes
 have hgb := hS.geo.gb
 have hfb := hS.geo.fb
 have hfit := hS.fit
 have hkk := hS.geo.k
 have hle := needs_le (rs.map Bs.s)
 rw [List.length_map] at hle
 have hel : es.length = rs.length := by have := congrArg List.length hes; rw [List.length_map, List.length_map] at this; exact this
 have hpl := bytesM_length o.n o.b
 refine Spec.intro Tryz.func8 Tryz.ntmps8 rfl (by simp) (by simp) fun w0 => ?_
 refine W240 ?_
 refine wl1 (op_box (lt_ rfl) rfl rfl) rfl fun b1 => ?_
 refine W241 ?_
 refine W84 ?_
 refine W0 ?_
 refine W254 ?_
 refine W240 ?_
 refine W292 ?_
 refine W176 ?_
 refine W42 ?_
 rw [show decide ((o.k.toNat : Int) % 5 = 3) = false from decide_eq_false (by omega)]
 refine W361 ?_
 refine wlgv (op_nilCheck (lt_ rfl) rfl) rfl rfl rfl ?_
 refine wlgv (op_fieldAddr fo43_1 (lt_ rfl) rfl) rfl rfl rfl ?_
 refine wlgv (op_load1 fl35 (lt_ rfl) rfl xM rfl) rfl rfl rfl ?_
 refine wlgv (op_eqlnil Tryz.underlying35 (lt_ rfl) rfl rfl) rfl rfl rfl ?_
 refine W15 ?_
 refine W241 ?_
 refine WX.regs (L' := [(0, _), (3, _), (24, _)]) ?_
 refine W0 ?_
 refine W23 ?_
 refine W240 ?_
 refine W292 ?_
 refine W176 ?_
 refine W42 ?_
 refine W241 ?_
 refine WX.regs (L' := [(0, _), (3, _), (73, _)]) ?_
 refine W0 ?_
 refine WC.cond rfl (fun h2 => ?_) (fun h2 => ?_)
 ·
  refine W1 ?_
  refine W226 ?_
  refine W29 ?_
  refine W69 ?_
  refine WA.take (i := 2) rfl (by kernel_rfl) (fun _ _ _ h => h) rfl (op_fieldAddr fo43_1 (lt_ rfl) rfl) xT ?_
  refine WA.take (i := 3) rfl (by kernel_rfl) (fun _ _ _ h => h) rfl (op_load1 fl35 (lt_ rfl) rfl xM rfl) xT ?_
  refine WA.take (i := 4) rfl (by kernel_rfl) (fun _ _ _ h => h) rfl (op_fieldAddr fo32_1 (lt_ rfl) rfl) xT ?_
  refine WA.take (i := 5) rfl (by kernel_rfl) (fun _ _ _ h => h) rfl (op_load1 fl29 (lt_ rfl) rfl xM rfl) xT ?_
  refine WA.take (i := 6) rfl (by kernel_rfl) (fun _ _ _ h => h) rfl (op_fieldAddr fo32_2 (lt_ rfl) rfl) xT ?_
  refine WA.take (i := 7) rfl (by kernel_rfl) (fun _ _ _ h => h) rfl (op_load1 fl5 (lt_ rfl) rfl xM rfl) xT ?_
  refine WA.stepx (i := 8) (by kernel_rfl) rfl rfl (op_call (f25_spec o.n ho o.b) ca25 (lt_ rfl) rfl) (fun _ r => xT) ?_
  rintro bb _
  refine WA.stepx (i := 9) (by kernel_rfl) rfl rfl (op_call (f17_two bd bm bj A c D J Aj cj rs hS rfl ⟨hN.1, by omega⟩ (by omega) hl (some ⟨bb, 0, none⟩) (o.n % 1500) (o.n % 1500) (bytesM o.n o.b) hpl (by omega)) ca17 (lt_ rfl) rfl) (fun _ r => xT) ?_
  rintro ⟨⟨D2, A2, c2, J2, Aj2, cj2, rs2⟩, n2, e2⟩ ⟨p1, p2, p3, p4, p5, p6⟩
  dsimp only at p1 p2 p3 p4 p5 p6 ⊢
  refine W90 ?_
  refine W343 ?_
  refine W173 ?_
  refine WA.take (i := 14) rfl (by kernel_rfl) (fun _ _ _ h => h) rfl (op_assign (lt_ rfl) rfl) xT ?_
  refine W19 ?_
  refine WX.regs (L' := [(0, _), (3, _), (8, _), (9, _)]) ?_
  refine W327 ?_
  refine W226 ?_
  refine W29 ?_
  refine W69 ?_
  refine W174 ?_
  refine W175 ?_
  refine W51 ?_
  refine W102 ?_
  refine W277 ?_
  refine WA.take (i := 8) rfl (by kernel_rfl) (fun _ _ _ h => h) rfl (op_fieldAddr fo32_1 (lt_ rfl) rfl) xT ?_
  refine WA.take (i := 9) rfl (by kernel_rfl) (fun _ _ _ h => h) rfl (op_load1 fl29 (lt_ rfl) rfl xM rfl) xT ?_
  refine WA.take (i := 10) rfl (by kernel_rfl) (fun _ _ _ h => h) rfl (op_fieldAddr fo32_2 (lt_ rfl) rfl) xT ?_
  refine WA.take (i := 11) rfl (by kernel_rfl) (fun _ _ _ h => h) rfl (op_load1 fl5 (lt_ rfl) rfl xM rfl) xT ?_
  refine WA.abs (fun W hW => ?_)
  have st1111111111111111111110000 : ∀ (bb2 : Nat) (r2 : Rd) (J3 : Jn) (Ar2 : Option Addr) (cr2 : Nat) (es2 : List Bs) (n3 : Int) (e3 : Int) (hap : AppO k J J3 (rs.map Bs.s) (es2.map Bs.s) (bytesM o.n o.b) n3 e3) (hw3 : r2.ws.length ≤ r.ws.length + 600) (hput : 1 + needs (rs.map Bs.s) + need (bytesM o.n o.b).length ≤ k / 2 → r2.Put r (J.fi + J.gen % 2 * (J.se / 2) + J.used) (sects 2 J.gen (((rs.map Bs.s).length : Int) + 1) (bytesM o.n o.b))) (hfull : k / 2 < 1 + needs (rs.map Bs.s) + need (bytesM o.n o.b).length → r2 = r) (b10 : Nat) (b11 : Nat), W 4 #[true, true, true, true, true, true, true, true, true, true, true, true, true, true, true, true, true, true, true, true, true, false, false, false, false] ⟨224, []⟩ [(0, .pointer (some ⟨bx, 0, none⟩)), (8, .int .i64 n2), (9, .int .i64 e2), (10, .pointer (some ⟨b10, 0, none⟩)), (11, .pointer (some ⟨b11, 0, none⟩)), (106, .agg r2.cells.toArray), (107, .agg (rjc J3 Ar2 cr2 es2.length).toArray), (108, .int .i64 n3), (109, .int .i64 e3)] [blk b11 [.int .i64 0, .int .i64 0, .int .i64 0, .int .i64 0, .int .i64 0, .int .i64 0, .slice none 0 0, .int .i64 0, .int .i64 0] 41, blk b10 [.slice none 0 0, .slice none 0 0, .int .i64 0, .bool false, .int .i64 0] 39, own (.slice r2.A r2.ds.length r2.c) 30 1 r2.ds.length (r2.ds.map Bs.v), rowsC true r2.ds, own (.slice r2.Aw r2.ws.length r2.cw) 84 2 r2.ws.length (r2.ws.flatMap Wb.cells), rowsC true (r2.ws.map Wb.b), own (.slice Ar2 es2.length cr2) 30 1 es2.length (es2.map Bs.v), rowsC true es2, own (.slice (some ⟨bb2, 0, none⟩) (o.n % 1500) (o.n % 1500)) 5 1 (o.n % 1500) (bvs (bytesM o.n o.b)), blk bx (wcl bd (.pointer (some ⟨bj, 0, none⟩)) r (rjc J Ar cr es.length) k) 43, blk bd (dcells D2 bm A2 c2) 77, mapC bm (dmap D2.dur), own (.slice A2 D2.pend.length c2) 80 257 D2.pend.length (D2.pend.flatMap wcs), blk bj (jcells J2 bd Aj2 rs2.length cj2) 96, own (.slice Aj2 rs2.length cj2) 30 1 rs2.length (rs2.map Bs.v), rowsC true rs2, blk b1 o.cells 32, frameC w0 (MutF [blk bx (wcl bd (.pointer (some ⟨bj, 0, none⟩)) r (rjc J Ar cr es.length) k) 43, blk bd (dcells D bm A c) 77, mapC bm (dmap D.dur), own (.slice A D.pend.length c) 80 257 D.pend.length (D.pend.flatMap wcs), blk bj (jcells J bd Aj rs.length cj) 96, own (.slice Aj rs.length cj) 30 1 rs.length (rs.map Bs.v), rowsC true rs, own (.slice r.A r.ds.length r.c) 30 1 r.ds.length (r.ds.map Bs.v), rowsC true r.ds, own (.slice r.Aw r.ws.length r.cw) 84 2 r.ws.length (r.ws.flatMap Wb.cells), rowsC true (r.ws.map Wb.b), own (.slice Ar es.length cr) 30 1 es.length (es.map Bs.v), rowsC true es])] := by
   intro bb2 r2 J3 Ar2 cr2 es2 n3 e3 hap hw3 hput hfull b10 b11
   subst hW
   refine WA.stepo (i := 21) (by kernel_rfl) rfl rfl (op_storeAll sz39 rfl rfl xK xL xO xL) (fun _ => xT) ?_
   refine WA.stepo (i := 22) (by kernel_rfl) rfl rfl (op_storeAll sz41 rfl rfl xK xL xO xL) (fun _ => xT) ?_
   refine WA.take (i := 23) rfl (by kernel_rfl) (fun _ _ _ h => h) rfl (op_assign (lt_ rfl) rfl) xT ?_
   refine WA.take (i := 24) rfl (by kernel_rfl) (fun _ _ _ h => h) rfl (op_assign (lt_ rfl) rfl) xT ?_
   refine W19 ?_
   refine W303 ?_
   refine WX.regs (L' := [(0, _), (8, _), (9, _), (10, _), (11, _), (12, _), (13, _)]) ?_
   refine W327 ?_
   refine W211 ?_
   refine W344 ?_
   refine W156 ?_
   refine W157 ?_
   refine W131 ?_
   refine W158 ?_
   refine W159 ?_
   refine W160 ?_
   refine W161 ?_
   refine W162 ?_
   refine W19 ?_
   refine W212 ?_
   have hsm := p5.same hap
   obtain ⟨rfl, hes3, _, _⟩ := id hsm
   refine WX.regs (L' := [(8, _), (9, _), (12, _), (13, _)]) ?_
   refine W299 ?_
   refine W42 ?_
   rw [show decide (n2 = n3) = true from decide_eq_true hsm.2.2.1]
   refine W4 ?_
   refine W345 ?_
   refine W62 ?_
   rw [show decide (e2 = e3) = true from decide_eq_true hsm.2.2.2]
   refine W17 ?_
   refine W241 ?_
   refine W35 ?_
   refine W275 ?_
   exact Fin.ret1 xI (⟨⟨D2, A2, c2, J3, Aj2, cj2, rs2⟩, bj, r2, Ar2, cr2, es2⟩) (⟨⟨p4.imp fun _ ⟨k1, q⟩ => ⟨k1, q.up (by omega)⟩, p2, by show J3.fi = 3; rw [p5.fi, hfi], by show D2.n = 48; rw [p1, hn], by show D2.pend.length ≤ M + 600; omega, by show r2.ws.length ≤ M + 600; omega, p6.same hsame p1 hput hfull, hes3⟩, fun hk => by omega⟩) Tryz.results8 (.tmp rfl) xT (by simp)
  have st1111111111111111111100000 : ∀ (bb2 : Nat) (r2 : Rd) (J3 : Jn) (Ar2 : Option Addr) (cr2 : Nat) (es2 : List Bs) (n3 : Int) (e3 : Int) (hap : AppO k J J3 (rs.map Bs.s) (es2.map Bs.s) (bytesM o.n o.b) n3 e3) (hw3 : r2.ws.length ≤ r.ws.length + 600) (hput : 1 + needs (rs.map Bs.s) + need (bytesM o.n o.b).length ≤ k / 2 → r2.Put r (J.fi + J.gen % 2 * (J.se / 2) + J.used) (sects 2 J.gen (((rs.map Bs.s).length : Int) + 1) (bytesM o.n o.b))) (hfull : k / 2 < 1 + needs (rs.map Bs.s) + need (bytesM o.n o.b).length → r2 = r) (b10 : Nat), W 5 #[true, true, true, true, true, true, true, true, true, true, true, true, true, true, true, true, true, true, true, true, false, false, false, false, false] ⟨224, []⟩ [(0, .pointer (some ⟨bx, 0, none⟩)), (8, .int .i64 n2), (9, .int .i64 e2), (10, .pointer (some ⟨b10, 0, none⟩)), (106, .agg r2.cells.toArray), (107, .agg (rjc J3 Ar2 cr2 es2.length).toArray), (108, .int .i64 n3), (109, .int .i64 e3)] [blk b10 [.slice none 0 0, .slice none 0 0, .int .i64 0, .bool false, .int .i64 0] 39, own (.slice r2.A r2.ds.length r2.c) 30 1 r2.ds.length (r2.ds.map Bs.v), rowsC true r2.ds, own (.slice r2.Aw r2.ws.length r2.cw) 84 2 r2.ws.length (r2.ws.flatMap Wb.cells), rowsC true (r2.ws.map Wb.b), own (.slice Ar2 es2.length cr2) 30 1 es2.length (es2.map Bs.v), rowsC true es2, own (.slice (some ⟨bb2, 0, none⟩) (o.n % 1500) (o.n % 1500)) 5 1 (o.n % 1500) (bvs (bytesM o.n o.b)), blk bx (wcl bd (.pointer (some ⟨bj, 0, none⟩)) r (rjc J Ar cr es.length) k) 43, blk bd (dcells D2 bm A2 c2) 77, mapC bm (dmap D2.dur), own (.slice A2 D2.pend.length c2) 80 257 D2.pend.length (D2.pend.flatMap wcs), blk bj (jcells J2 bd Aj2 rs2.length cj2) 96, own (.slice Aj2 rs2.length cj2) 30 1 rs2.length (rs2.map Bs.v), rowsC true rs2, blk b1 o.cells 32, frameC w0 (MutF [blk bx (wcl bd (.pointer (some ⟨bj, 0, none⟩)) r (rjc J Ar cr es.length) k) 43, blk bd (dcells D bm A c) 77, mapC bm (dmap D.dur), own (.slice A D.pend.length c) 80 257 D.pend.length (D.pend.flatMap wcs), blk bj (jcells J bd Aj rs.length cj) 96, own (.slice Aj rs.length cj) 30 1 rs.length (rs.map Bs.v), rowsC true rs, own (.slice r.A r.ds.length r.c) 30 1 r.ds.length (r.ds.map Bs.v), rowsC true r.ds, own (.slice r.Aw r.ws.length r.cw) 84 2 r.ws.length (r.ws.flatMap Wb.cells), rowsC true (r.ws.map Wb.b), own (.slice Ar es.length cr) 30 1 es.length (es.map Bs.v), rowsC true es])] := by
   intro bb2 r2 J3 Ar2 cr2 es2 n3 e3 hap hw3 hput hfull b10
   subst hW
   refine WA.pick (l := [20]) (by kernel_rfl) rfl (fun i hi => ?_)
   simp only [List.mem_cons, List.not_mem_nil, or_false] at hi
   subst hi
   ·
    refine WA.one1 rfl rfl (op_alloc ti41 (lt_ rfl)) (fun _ b => xT) fun b11 => ?_
    exact WA.conv (by first | rfl | kernel_rfl) xR xT (st1111111111111111111110000 bb2 r2 J3 Ar2 cr2 es2 n3 e3 hap hw3 hput hfull b10 b11)
  have st1111111111111111111010000 : ∀ (bb2 : Nat) (r2 : Rd) (J3 : Jn) (Ar2 : Option Addr) (cr2 : Nat) (es2 : List Bs) (n3 : Int) (e3 : Int) (hap : AppO k J J3 (rs.map Bs.s) (es2.map Bs.s) (bytesM o.n o.b) n3 e3) (hw3 : r2.ws.length ≤ r.ws.length + 600) (hput : 1 + needs (rs.map Bs.s) + need (bytesM o.n o.b).length ≤ k / 2 → r2.Put r (J.fi + J.gen % 2 * (J.se / 2) + J.used) (sects 2 J.gen (((rs.map Bs.s).length : Int) + 1) (bytesM o.n o.b))) (hfull : k / 2 < 1 + needs (rs.map Bs.s) + need (bytesM o.n o.b).length → r2 = r) (b11 : Nat), W 5 #[true, true, true, true, true, true, true, true, true, true, true, true, true, true, true, true, true, true, true, false, true, false, false, false, false] ⟨224, []⟩ [(0, .pointer (some ⟨bx, 0, none⟩)), (8, .int .i64 n2), (9, .int .i64 e2), (11, .pointer (some ⟨b11, 0, none⟩)), (106, .agg r2.cells.toArray), (107, .agg (rjc J3 Ar2 cr2 es2.length).toArray), (108, .int .i64 n3), (109, .int .i64 e3)] [blk b11 [.int .i64 0, .int .i64 0, .int .i64 0, .int .i64 0, .int .i64 0, .int .i64 0, .slice none 0 0, .int .i64 0, .int .i64 0] 41, own (.slice r2.A r2.ds.length r2.c) 30 1 r2.ds.length (r2.ds.map Bs.v), rowsC true r2.ds, own (.slice r2.Aw r2.ws.length r2.cw) 84 2 r2.ws.length (r2.ws.flatMap Wb.cells), rowsC true (r2.ws.map Wb.b), own (.slice Ar2 es2.length cr2) 30 1 es2.length (es2.map Bs.v), rowsC true es2, own (.slice (some ⟨bb2, 0, none⟩) (o.n % 1500) (o.n % 1500)) 5 1 (o.n % 1500) (bvs (bytesM o.n o.b)), blk bx (wcl bd (.pointer (some ⟨bj, 0, none⟩)) r (rjc J Ar cr es.length) k) 43, blk bd (dcells D2 bm A2 c2) 77, mapC bm (dmap D2.dur), own (.slice A2 D2.pend.length c2) 80 257 D2.pend.length (D2.pend.flatMap wcs), blk bj (jcells J2 bd Aj2 rs2.length cj2) 96, own (.slice Aj2 rs2.length cj2) 30 1 rs2.length (rs2.map Bs.v), rowsC true rs2, blk b1 o.cells 32, frameC w0 (MutF [blk bx (wcl bd (.pointer (some ⟨bj, 0, none⟩)) r (rjc J Ar cr es.length) k) 43, blk bd (dcells D bm A c) 77, mapC bm (dmap D.dur), own (.slice A D.pend.length c) 80 257 D.pend.length (D.pend.flatMap wcs), blk bj (jcells J bd Aj rs.length cj) 96, own (.slice Aj rs.length cj) 30 1 rs.length (rs.map Bs.v), rowsC true rs, own (.slice r.A r.ds.length r.c) 30 1 r.ds.length (r.ds.map Bs.v), rowsC true r.ds, own (.slice r.Aw r.ws.length r.cw) 84 2 r.ws.length (r.ws.flatMap Wb.cells), rowsC true (r.ws.map Wb.b), own (.slice Ar es.length cr) 30 1 es.length (es.map Bs.v), rowsC true es])] := by
   intro bb2 r2 J3 Ar2 cr2 es2 n3 e3 hap hw3 hput hfull b11
   subst hW
   refine WA.pick (l := [19]) (by kernel_rfl) rfl (fun i hi => ?_)
   simp only [List.mem_cons, List.not_mem_nil, or_false] at hi
   subst hi
   ·
    refine WA.one1 rfl rfl (op_alloc ti39 (lt_ rfl)) (fun _ b => xT) fun b10 => ?_
    exact WA.conv (by first | rfl | kernel_rfl) xR xT (st1111111111111111111110000 bb2 r2 J3 Ar2 cr2 es2 n3 e3 hap hw3 hput hfull b10 b11)
  have st1111111111111100000000000 : ∀ (bb2 : Nat) (r2 : Rd) (J3 : Jn) (Ar2 : Option Addr) (cr2 : Nat) (es2 : List Bs) (n3 : Int) (e3 : Int) (hap : AppO k J J3 (rs.map Bs.s) (es2.map Bs.s) (bytesM o.n o.b) n3 e3) (hw3 : r2.ws.length ≤ r.ws.length + 600) (hput : 1 + needs (rs.map Bs.s) + need (bytesM o.n o.b).length ≤ k / 2 → r2.Put r (J.fi + J.gen % 2 * (J.se / 2) + J.used) (sects 2 J.gen (((rs.map Bs.s).length : Int) + 1) (bytesM o.n o.b))) (hfull : k / 2 < 1 + needs (rs.map Bs.s) + need (bytesM o.n o.b).length → r2 = r), W 11 #[true, true, true, true, true, true, true, true, true, true, true, true, true, true, false, false, false, false, false, false, false, false, false, false, false] ⟨224, []⟩ [(0, .pointer (some ⟨bx, 0, none⟩)), (8, .int .i64 n2), (9, .int .i64 e2), (105, .tuple #[.agg r2.cells.toArray, .agg (rjc J3 Ar2 cr2 es2.length).toArray, .int .i64 n3, .int .i64 e3])] [own (.slice r2.A r2.ds.length r2.c) 30 1 r2.ds.length (r2.ds.map Bs.v), rowsC true r2.ds, own (.slice r2.Aw r2.ws.length r2.cw) 84 2 r2.ws.length (r2.ws.flatMap Wb.cells), rowsC true (r2.ws.map Wb.b), own (.slice Ar2 es2.length cr2) 30 1 es2.length (es2.map Bs.v), rowsC true es2, own (.slice (some ⟨bb2, 0, none⟩) (o.n % 1500) (o.n % 1500)) 5 1 (o.n % 1500) (bvs (bytesM o.n o.b)), blk bx (wcl bd (.pointer (some ⟨bj, 0, none⟩)) r (rjc J Ar cr es.length) k) 43, blk bd (dcells D2 bm A2 c2) 77, mapC bm (dmap D2.dur), own (.slice A2 D2.pend.length c2) 80 257 D2.pend.length (D2.pend.flatMap wcs), blk bj (jcells J2 bd Aj2 rs2.length cj2) 96, own (.slice Aj2 rs2.length cj2) 30 1 rs2.length (rs2.map Bs.v), rowsC true rs2, blk b1 o.cells 32, frameC w0 (MutF [blk bx (wcl bd (.pointer (some ⟨bj, 0, none⟩)) r (rjc J Ar cr es.length) k) 43, blk bd (dcells D bm A c) 77, mapC bm (dmap D.dur), own (.slice A D.pend.length c) 80 257 D.pend.length (D.pend.flatMap wcs), blk bj (jcells J bd Aj rs.length cj) 96, own (.slice Aj rs.length cj) 30 1 rs.length (rs.map Bs.v), rowsC true rs, own (.slice r.A r.ds.length r.c) 30 1 r.ds.length (r.ds.map Bs.v), rowsC true r.ds, own (.slice r.Aw r.ws.length r.cw) 84 2 r.ws.length (r.ws.flatMap Wb.cells), rowsC true (r.ws.map Wb.b), own (.slice Ar es.length cr) 30 1 es.length (es.map Bs.v), rowsC true es])] := by
   intro bb2 r2 J3 Ar2 cr2 es2 n3 e3 hap hw3 hput hfull
   subst hW
   refine W123 ?_
   refine W104 ?_
   refine W213 ?_
   refine W214 ?_
   refine W215 ?_
   refine WA.pick (l := [19, 20]) (by kernel_rfl) rfl (fun i hi => ?_)
   simp only [List.mem_cons, List.not_mem_nil, or_false] at hi
   rcases hi with rfl | rfl
   ·
    refine WA.one1 rfl rfl (op_alloc ti39 (lt_ rfl)) (fun _ b => xT) fun b10 => ?_
    exact WA.conv (by first | rfl | kernel_rfl) xR xT (st1111111111111111111100000 bb2 r2 J3 Ar2 cr2 es2 n3 e3 hap hw3 hput hfull b10)
   ·
    refine WA.one1 rfl rfl (op_alloc ti41 (lt_ rfl)) (fun _ b => xT) fun b11 => ?_
    exact WA.conv (by first | rfl | kernel_rfl) xR xT (st1111111111111111111010000 bb2 r2 J3 Ar2 cr2 es2 n3 e3 hap hw3 hput hfull b11)
  have st1111111111111100000100000 : ∀ (bb2 : Nat) (r2 : Rd) (J3 : Jn) (Ar2 : Option Addr) (cr2 : Nat) (es2 : List Bs) (n3 : Int) (e3 : Int) (hap : AppO k J J3 (rs.map Bs.s) (es2.map Bs.s) (bytesM o.n o.b) n3 e3) (hw3 : r2.ws.length ≤ r.ws.length + 600) (hput : 1 + needs (rs.map Bs.s) + need (bytesM o.n o.b).length ≤ k / 2 → r2.Put r (J.fi + J.gen % 2 * (J.se / 2) + J.used) (sects 2 J.gen (((rs.map Bs.s).length : Int) + 1) (bytesM o.n o.b))) (hfull : k / 2 < 1 + needs (rs.map Bs.s) + need (bytesM o.n o.b).length → r2 = r) (b10 : Nat), W 10 #[true, true, true, true, true, true, true, true, true, true, true, true, true, true, false, false, false, false, false, true, false, false, false, false, false] ⟨224, []⟩ [(0, .pointer (some ⟨bx, 0, none⟩)), (8, .int .i64 n2), (9, .int .i64 e2), (10, .pointer (some ⟨b10, 0, none⟩)), (105, .tuple #[.agg r2.cells.toArray, .agg (rjc J3 Ar2 cr2 es2.length).toArray, .int .i64 n3, .int .i64 e3])] [blk b10 [.slice none 0 0, .slice none 0 0, .int .i64 0, .bool false, .int .i64 0] 39, own (.slice r2.A r2.ds.length r2.c) 30 1 r2.ds.length (r2.ds.map Bs.v), rowsC true r2.ds, own (.slice r2.Aw r2.ws.length r2.cw) 84 2 r2.ws.length (r2.ws.flatMap Wb.cells), rowsC true (r2.ws.map Wb.b), own (.slice Ar2 es2.length cr2) 30 1 es2.length (es2.map Bs.v), rowsC true es2, own (.slice (some ⟨bb2, 0, none⟩) (o.n % 1500) (o.n % 1500)) 5 1 (o.n % 1500) (bvs (bytesM o.n o.b)), blk bx (wcl bd (.pointer (some ⟨bj, 0, none⟩)) r (rjc J Ar cr es.length) k) 43, blk bd (dcells D2 bm A2 c2) 77, mapC bm (dmap D2.dur), own (.slice A2 D2.pend.length c2) 80 257 D2.pend.length (D2.pend.flatMap wcs), blk bj (jcells J2 bd Aj2 rs2.length cj2) 96, own (.slice Aj2 rs2.length cj2) 30 1 rs2.length (rs2.map Bs.v), rowsC true rs2, blk b1 o.cells 32, frameC w0 (MutF [blk bx (wcl bd (.pointer (some ⟨bj, 0, none⟩)) r (rjc J Ar cr es.length) k) 43, blk bd (dcells D bm A c) 77, mapC bm (dmap D.dur), own (.slice A D.pend.length c) 80 257 D.pend.length (D.pend.flatMap wcs), blk bj (jcells J bd Aj rs.length cj) 96, own (.slice Aj rs.length cj) 30 1 rs.length (rs.map Bs.v), rowsC true rs, own (.slice r.A r.ds.length r.c) 30 1 r.ds.length (r.ds.map Bs.v), rowsC true r.ds, own (.slice r.Aw r.ws.length r.cw) 84 2 r.ws.length (r.ws.flatMap Wb.cells), rowsC true (r.ws.map Wb.b), own (.slice Ar es.length cr) 30 1 es.length (es.map Bs.v), rowsC true es])] := by
   intro bb2 r2 J3 Ar2 cr2 es2 n3 e3 hap hw3 hput hfull b10
   subst hW
   refine W123 ?_
   refine W104 ?_
   refine W213 ?_
   refine W214 ?_
   refine W215 ?_
   refine WA.pick (l := [20]) (by kernel_rfl) rfl (fun i hi => ?_)
   simp only [List.mem_cons, List.not_mem_nil, or_false] at hi
   subst hi
   ·
    refine WA.one1 rfl rfl (op_alloc ti41 (lt_ rfl)) (fun _ b => xT) fun b11 => ?_
    exact WA.conv (by first | rfl | kernel_rfl) xR xT (st1111111111111111111110000 bb2 r2 J3 Ar2 cr2 es2 n3 e3 hap hw3 hput hfull b10 b11)
  have st1111111111111100000110000 : ∀ (bb2 : Nat) (r2 : Rd) (J3 : Jn) (Ar2 : Option Addr) (cr2 : Nat) (es2 : List Bs) (n3 : Int) (e3 : Int) (hap : AppO k J J3 (rs.map Bs.s) (es2.map Bs.s) (bytesM o.n o.b) n3 e3) (hw3 : r2.ws.length ≤ r.ws.length + 600) (hput : 1 + needs (rs.map Bs.s) + need (bytesM o.n o.b).length ≤ k / 2 → r2.Put r (J.fi + J.gen % 2 * (J.se / 2) + J.used) (sects 2 J.gen (((rs.map Bs.s).length : Int) + 1) (bytesM o.n o.b))) (hfull : k / 2 < 1 + needs (rs.map Bs.s) + need (bytesM o.n o.b).length → r2 = r) (b10 : Nat) (b11 : Nat), W 9 #[true, true, true, true, true, true, true, true, true, true, true, true, true, true, false, false, false, false, false, true, true, false, false, false, false] ⟨224, []⟩ [(0, .pointer (some ⟨bx, 0, none⟩)), (8, .int .i64 n2), (9, .int .i64 e2), (10, .pointer (some ⟨b10, 0, none⟩)), (11, .pointer (some ⟨b11, 0, none⟩)), (105, .tuple #[.agg r2.cells.toArray, .agg (rjc J3 Ar2 cr2 es2.length).toArray, .int .i64 n3, .int .i64 e3])] [blk b11 [.int .i64 0, .int .i64 0, .int .i64 0, .int .i64 0, .int .i64 0, .int .i64 0, .slice none 0 0, .int .i64 0, .int .i64 0] 41, blk b10 [.slice none 0 0, .slice none 0 0, .int .i64 0, .bool false, .int .i64 0] 39, own (.slice r2.A r2.ds.length r2.c) 30 1 r2.ds.length (r2.ds.map Bs.v), rowsC true r2.ds, own (.slice r2.Aw r2.ws.length r2.cw) 84 2 r2.ws.length (r2.ws.flatMap Wb.cells), rowsC true (r2.ws.map Wb.b), own (.slice Ar2 es2.length cr2) 30 1 es2.length (es2.map Bs.v), rowsC true es2, own (.slice (some ⟨bb2, 0, none⟩) (o.n % 1500) (o.n % 1500)) 5 1 (o.n % 1500) (bvs (bytesM o.n o.b)), blk bx (wcl bd (.pointer (some ⟨bj, 0, none⟩)) r (rjc J Ar cr es.length) k) 43, blk bd (dcells D2 bm A2 c2) 77, mapC bm (dmap D2.dur), own (.slice A2 D2.pend.length c2) 80 257 D2.pend.length (D2.pend.flatMap wcs), blk bj (jcells J2 bd Aj2 rs2.length cj2) 96, own (.slice Aj2 rs2.length cj2) 30 1 rs2.length (rs2.map Bs.v), rowsC true rs2, blk b1 o.cells 32, frameC w0 (MutF [blk bx (wcl bd (.pointer (some ⟨bj, 0, none⟩)) r (rjc J Ar cr es.length) k) 43, blk bd (dcells D bm A c) 77, mapC bm (dmap D.dur), own (.slice A D.pend.length c) 80 257 D.pend.length (D.pend.flatMap wcs), blk bj (jcells J bd Aj rs.length cj) 96, own (.slice Aj rs.length cj) 30 1 rs.length (rs.map Bs.v), rowsC true rs, own (.slice r.A r.ds.length r.c) 30 1 r.ds.length (r.ds.map Bs.v), rowsC true r.ds, own (.slice r.Aw r.ws.length r.cw) 84 2 r.ws.length (r.ws.flatMap Wb.cells), rowsC true (r.ws.map Wb.b), own (.slice Ar es.length cr) 30 1 es.length (es.map Bs.v), rowsC true es])] := by
   intro bb2 r2 J3 Ar2 cr2 es2 n3 e3 hap hw3 hput hfull b10 b11
   subst hW
   refine W123 ?_
   refine W104 ?_
   refine W213 ?_
   refine W214 ?_
   refine W215 ?_
   refine WA.stepo (i := 21) (by kernel_rfl) rfl rfl (op_storeAll sz39 rfl rfl xK xL xO xL) (fun _ => xT) ?_
   refine WA.stepo (i := 22) (by kernel_rfl) rfl rfl (op_storeAll sz41 rfl rfl xK xL xO xL) (fun _ => xT) ?_
   refine WA.take (i := 23) rfl (by kernel_rfl) (fun _ _ _ h => h) rfl (op_assign (lt_ rfl) rfl) xT ?_
   refine WA.take (i := 24) rfl (by kernel_rfl) (fun _ _ _ h => h) rfl (op_assign (lt_ rfl) rfl) xT ?_
   refine W19 ?_
   refine W303 ?_
   refine WX.regs (L' := [(0, _), (8, _), (9, _), (10, _), (11, _), (12, _), (13, _)]) ?_
   refine W327 ?_
   refine W211 ?_
   refine W344 ?_
   refine W156 ?_
   refine W157 ?_
   refine W131 ?_
   refine W158 ?_
   refine W159 ?_
   refine W160 ?_
   refine W161 ?_
   refine W162 ?_
   refine W19 ?_
   refine W212 ?_
   have hsm := p5.same hap
   obtain ⟨rfl, hes3, _, _⟩ := id hsm
   refine WX.regs (L' := [(8, _), (9, _), (12, _), (13, _)]) ?_
   refine W299 ?_
   refine W42 ?_
   rw [show decide (n2 = n3) = true from decide_eq_true hsm.2.2.1]
   refine W4 ?_
   refine W345 ?_
   refine W62 ?_
   rw [show decide (e2 = e3) = true from decide_eq_true hsm.2.2.2]
   refine W17 ?_
   refine W241 ?_
   refine W35 ?_
   refine W275 ?_
   exact Fin.ret1 xI (⟨⟨D2, A2, c2, J3, Aj2, cj2, rs2⟩, bj, r2, Ar2, cr2, es2⟩) (⟨⟨p4.imp fun _ ⟨k1, q⟩ => ⟨k1, q.up (by omega)⟩, p2, by show J3.fi = 3; rw [p5.fi, hfi], by show D2.n = 48; rw [p1, hn], by show D2.pend.length ≤ M + 600; omega, by show r2.ws.length ≤ M + 600; omega, p6.same hsame p1 hput hfull, hes3⟩, fun hk => by omega⟩) Tryz.results8 (.tmp rfl) xT (by simp)
  have st1111111111111000000110000 : ∀ (bb2 : Nat) (b10 : Nat) (b11 : Nat), W 10 #[true, true, true, true, true, true, true, true, true, true, true, true, true, false, false, false, false, false, false, true, true, false, false, false, false] ⟨224, []⟩ [(0, .pointer (some ⟨bx, 0, none⟩)), (8, .int .i64 n2), (9, .int .i64 e2), (10, .pointer (some ⟨b10, 0, none⟩)), (11, .pointer (some ⟨b11, 0, none⟩)), (95, .agg r.cells.toArray), (99, .agg (rjc J Ar cr es.length).toArray), (104, .slice (some ⟨bb2, 0, none⟩) (o.n % 1500) (o.n % 1500))] [blk b11 [.int .i64 0, .int .i64 0, .int .i64 0, .int .i64 0, .int .i64 0, .int .i64 0, .slice none 0 0, .int .i64 0, .int .i64 0] 41, blk b10 [.slice none 0 0, .slice none 0 0, .int .i64 0, .bool false, .int .i64 0] 39, own (.slice (some ⟨bb2, 0, none⟩) (o.n % 1500) (o.n % 1500)) 5 1 (o.n % 1500) (bvs (bytesM o.n o.b)), blk bx (wcl bd (.pointer (some ⟨bj, 0, none⟩)) r (rjc J Ar cr es.length) k) 43, blk bd (dcells D2 bm A2 c2) 77, mapC bm (dmap D2.dur), own (.slice A2 D2.pend.length c2) 80 257 D2.pend.length (D2.pend.flatMap wcs), blk bj (jcells J2 bd Aj2 rs2.length cj2) 96, own (.slice Aj2 rs2.length cj2) 30 1 rs2.length (rs2.map Bs.v), rowsC true rs2, own (.slice r.A r.ds.length r.c) 30 1 r.ds.length (r.ds.map Bs.v), rowsC true r.ds, own (.slice r.Aw r.ws.length r.cw) 84 2 r.ws.length (r.ws.flatMap Wb.cells), rowsC true (r.ws.map Wb.b), own (.slice Ar es.length cr) 30 1 es.length (es.map Bs.v), rowsC true es, blk b1 o.cells 32, frameC w0 (MutF [blk bx (wcl bd (.pointer (some ⟨bj, 0, none⟩)) r (rjc J Ar cr es.length) k) 43, blk bd (dcells D bm A c) 77, mapC bm (dmap D.dur), own (.slice A D.pend.length c) 80 257 D.pend.length (D.pend.flatMap wcs), blk bj (jcells J bd Aj rs.length cj) 96, own (.slice Aj rs.length cj) 30 1 rs.length (rs.map Bs.v), rowsC true rs, own (.slice r.A r.ds.length r.c) 30 1 r.ds.length (r.ds.map Bs.v), rowsC true r.ds, own (.slice r.Aw r.ws.length r.cw) 84 2 r.ws.length (r.ws.flatMap Wb.cells), rowsC true (r.ws.map Wb.b), own (.slice Ar es.length cr) 30 1 es.length (es.map Bs.v), rowsC true es])] := by
   intro bb2 b10 b11
   subst hW
   refine WA.pick (l := [13]) (by kernel_rfl) rfl (fun i hi => ?_)
   simp only [List.mem_cons, List.not_mem_nil, or_false] at hi
   subst hi
   ·
    refine W216 ?_
    rintro ⟨r2, J3, Ar2, cr2, es2, n3, e3⟩ ⟨hap, hw3, hput, hfull⟩
    dsimp only at hap hw3 hput hfull
    exact WA.conv (by first | rfl | kernel_rfl) xR xT (st1111111111111100000110000 bb2 r2 J3 Ar2 cr2 es2 n3 e3 hap hw3 hput hfull b10 b11)
  have st1111111111111000000100000 : ∀ (bb2 : Nat) (b10 : Nat), W 11 #[true, true, true, true, true, true, true, true, true, true, true, true, true, false, false, false, false, false, false, true, false, false, false, false, false] ⟨224, []⟩ [(0, .pointer (some ⟨bx, 0, none⟩)), (8, .int .i64 n2), (9, .int .i64 e2), (10, .pointer (some ⟨b10, 0, none⟩)), (95, .agg r.cells.toArray), (99, .agg (rjc J Ar cr es.length).toArray), (104, .slice (some ⟨bb2, 0, none⟩) (o.n % 1500) (o.n % 1500))] [blk b10 [.slice none 0 0, .slice none 0 0, .int .i64 0, .bool false, .int .i64 0] 39, own (.slice (some ⟨bb2, 0, none⟩) (o.n % 1500) (o.n % 1500)) 5 1 (o.n % 1500) (bvs (bytesM o.n o.b)), blk bx (wcl bd (.pointer (some ⟨bj, 0, none⟩)) r (rjc J Ar cr es.length) k) 43, blk bd (dcells D2 bm A2 c2) 77, mapC bm (dmap D2.dur), own (.slice A2 D2.pend.length c2) 80 257 D2.pend.length (D2.pend.flatMap wcs), blk bj (jcells J2 bd Aj2 rs2.length cj2) 96, own (.slice Aj2 rs2.length cj2) 30 1 rs2.length (rs2.map Bs.v), rowsC true rs2, own (.slice r.A r.ds.length r.c) 30 1 r.ds.length (r.ds.map Bs.v), rowsC true r.ds, own (.slice r.Aw r.ws.length r.cw) 84 2 r.ws.length (r.ws.flatMap Wb.cells), rowsC true (r.ws.map Wb.b), own (.slice Ar es.length cr) 30 1 es.length (es.map Bs.v), rowsC true es, blk b1 o.cells 32, frameC w0 (MutF [blk bx (wcl bd (.pointer (some ⟨bj, 0, none⟩)) r (rjc J Ar cr es.length) k) 43, blk bd (dcells D bm A c) 77, mapC bm (dmap D.dur), own (.slice A D.pend.length c) 80 257 D.pend.length (D.pend.flatMap wcs), blk bj (jcells J bd Aj rs.length cj) 96, own (.slice Aj rs.length cj) 30 1 rs.length (rs.map Bs.v), rowsC true rs, own (.slice r.A r.ds.length r.c) 30 1 r.ds.length (r.ds.map Bs.v), rowsC true r.ds, own (.slice r.Aw r.ws.length r.cw) 84 2 r.ws.length (r.ws.flatMap Wb.cells), rowsC true (r.ws.map Wb.b), own (.slice Ar es.length cr) 30 1 es.length (es.map Bs.v), rowsC true es])] := by
   intro bb2 b10
   subst hW
   refine WA.pick (l := [13, 20]) (by kernel_rfl) rfl (fun i hi => ?_)
   simp only [List.mem_cons, List.not_mem_nil, or_false] at hi
   rcases hi with rfl | rfl
   ·
    refine W216 ?_
    rintro ⟨r2, J3, Ar2, cr2, es2, n3, e3⟩ ⟨hap, hw3, hput, hfull⟩
    dsimp only at hap hw3 hput hfull
    exact WA.conv (by first | rfl | kernel_rfl) xR xT (st1111111111111100000100000 bb2 r2 J3 Ar2 cr2 es2 n3 e3 hap hw3 hput hfull b10)
   ·
    refine WA.one1 rfl rfl (op_alloc ti41 (lt_ rfl)) (fun _ b => xT) fun b11 => ?_
    exact WA.conv (by first | rfl | kernel_rfl) xR xT (st1111111111111000000110000 bb2 b10 b11)
  have st1111111111111100000010000 : ∀ (bb2 : Nat) (r2 : Rd) (J3 : Jn) (Ar2 : Option Addr) (cr2 : Nat) (es2 : List Bs) (n3 : Int) (e3 : Int) (hap : AppO k J J3 (rs.map Bs.s) (es2.map Bs.s) (bytesM o.n o.b) n3 e3) (hw3 : r2.ws.length ≤ r.ws.length + 600) (hput : 1 + needs (rs.map Bs.s) + need (bytesM o.n o.b).length ≤ k / 2 → r2.Put r (J.fi + J.gen % 2 * (J.se / 2) + J.used) (sects 2 J.gen (((rs.map Bs.s).length : Int) + 1) (bytesM o.n o.b))) (hfull : k / 2 < 1 + needs (rs.map Bs.s) + need (bytesM o.n o.b).length → r2 = r) (b11 : Nat), W 10 #[true, true, true, true, true, true, true, true, true, true, true, true, true, true, false, false, false, false, false, false, true, false, false, false, false] ⟨224, []⟩ [(0, .pointer (some ⟨bx, 0, none⟩)), (8, .int .i64 n2), (9, .int .i64 e2), (11, .pointer (some ⟨b11, 0, none⟩)), (105, .tuple #[.agg r2.cells.toArray, .agg (rjc J3 Ar2 cr2 es2.length).toArray, .int .i64 n3, .int .i64 e3])] [blk b11 [.int .i64 0, .int .i64 0, .int .i64 0, .int .i64 0, .int .i64 0, .int .i64 0, .slice none 0 0, .int .i64 0, .int .i64 0] 41, own (.slice r2.A r2.ds.length r2.c) 30 1 r2.ds.length (r2.ds.map Bs.v), rowsC true r2.ds, own (.slice r2.Aw r2.ws.length r2.cw) 84 2 r2.ws.length (r2.ws.flatMap Wb.cells), rowsC true (r2.ws.map Wb.b), own (.slice Ar2 es2.length cr2) 30 1 es2.length (es2.map Bs.v), rowsC true es2, own (.slice (some ⟨bb2, 0, none⟩) (o.n % 1500) (o.n % 1500)) 5 1 (o.n % 1500) (bvs (bytesM o.n o.b)), blk bx (wcl bd (.pointer (some ⟨bj, 0, none⟩)) r (rjc J Ar cr es.length) k) 43, blk bd (dcells D2 bm A2 c2) 77, mapC bm (dmap D2.dur), own (.slice A2 D2.pend.length c2) 80 257 D2.pend.length (D2.pend.flatMap wcs), blk bj (jcells J2 bd Aj2 rs2.length cj2) 96, own (.slice Aj2 rs2.length cj2) 30 1 rs2.length (rs2.map Bs.v), rowsC true rs2, blk b1 o.cells 32, frameC w0 (MutF [blk bx (wcl bd (.pointer (some ⟨bj, 0, none⟩)) r (rjc J Ar cr es.length) k) 43, blk bd (dcells D bm A c) 77, mapC bm (dmap D.dur), own (.slice A D.pend.length c) 80 257 D.pend.length (D.pend.flatMap wcs), blk bj (jcells J bd Aj rs.length cj) 96, own (.slice Aj rs.length cj) 30 1 rs.length (rs.map Bs.v), rowsC true rs, own (.slice r.A r.ds.length r.c) 30 1 r.ds.length (r.ds.map Bs.v), rowsC true r.ds, own (.slice r.Aw r.ws.length r.cw) 84 2 r.ws.length (r.ws.flatMap Wb.cells), rowsC true (r.ws.map Wb.b), own (.slice Ar es.length cr) 30 1 es.length (es.map Bs.v), rowsC true es])] := by
   intro bb2 r2 J3 Ar2 cr2 es2 n3 e3 hap hw3 hput hfull b11
   subst hW
   refine W123 ?_
   refine W104 ?_
   refine W213 ?_
   refine W214 ?_
   refine W215 ?_
   refine WA.pick (l := [19]) (by kernel_rfl) rfl (fun i hi => ?_)
   simp only [List.mem_cons, List.not_mem_nil, or_false] at hi
   subst hi
   ·
    refine WA.one1 rfl rfl (op_alloc ti39 (lt_ rfl)) (fun _ b => xT) fun b10 => ?_
    exact WA.conv (by first | rfl | kernel_rfl) xR xT (st1111111111111111111110000 bb2 r2 J3 Ar2 cr2 es2 n3 e3 hap hw3 hput hfull b10 b11)
  have st1111111111111000000010000 : ∀ (bb2 : Nat) (b11 : Nat), W 11 #[true, true, true, true, true, true, true, true, true, true, true, true, true, false, false, false, false, false, false, false, true, false, false, false, false] ⟨224, []⟩ [(0, .pointer (some ⟨bx, 0, none⟩)), (8, .int .i64 n2), (9, .int .i64 e2), (11, .pointer (some ⟨b11, 0, none⟩)), (95, .agg r.cells.toArray), (99, .agg (rjc J Ar cr es.length).toArray), (104, .slice (some ⟨bb2, 0, none⟩) (o.n % 1500) (o.n % 1500))] [blk b11 [.int .i64 0, .int .i64 0, .int .i64 0, .int .i64 0, .int .i64 0, .int .i64 0, .slice none 0 0, .int .i64 0, .int .i64 0] 41, own (.slice (some ⟨bb2, 0, none⟩) (o.n % 1500) (o.n % 1500)) 5 1 (o.n % 1500) (bvs (bytesM o.n o.b)), blk bx (wcl bd (.pointer (some ⟨bj, 0, none⟩)) r (rjc J Ar cr es.length) k) 43, blk bd (dcells D2 bm A2 c2) 77, mapC bm (dmap D2.dur), own (.slice A2 D2.pend.length c2) 80 257 D2.pend.length (D2.pend.flatMap wcs), blk bj (jcells J2 bd Aj2 rs2.length cj2) 96, own (.slice Aj2 rs2.length cj2) 30 1 rs2.length (rs2.map Bs.v), rowsC true rs2, own (.slice r.A r.ds.length r.c) 30 1 r.ds.length (r.ds.map Bs.v), rowsC true r.ds, own (.slice r.Aw r.ws.length r.cw) 84 2 r.ws.length (r.ws.flatMap Wb.cells), rowsC true (r.ws.map Wb.b), own (.slice Ar es.length cr) 30 1 es.length (es.map Bs.v), rowsC true es, blk b1 o.cells 32, frameC w0 (MutF [blk bx (wcl bd (.pointer (some ⟨bj, 0, none⟩)) r (rjc J Ar cr es.length) k) 43, blk bd (dcells D bm A c) 77, mapC bm (dmap D.dur), own (.slice A D.pend.length c) 80 257 D.pend.length (D.pend.flatMap wcs), blk bj (jcells J bd Aj rs.length cj) 96, own (.slice Aj rs.length cj) 30 1 rs.length (rs.map Bs.v), rowsC true rs, own (.slice r.A r.ds.length r.c) 30 1 r.ds.length (r.ds.map Bs.v), rowsC true r.ds, own (.slice r.Aw r.ws.length r.cw) 84 2 r.ws.length (r.ws.flatMap Wb.cells), rowsC true (r.ws.map Wb.b), own (.slice Ar es.length cr) 30 1 es.length (es.map Bs.v), rowsC true es])] := by
   intro bb2 b11
   subst hW
   refine WA.pick (l := [13, 19]) (by kernel_rfl) rfl (fun i hi => ?_)
   simp only [List.mem_cons, List.not_mem_nil, or_false] at hi
   rcases hi with rfl | rfl
   ·
    refine W216 ?_
    rintro ⟨r2, J3, Ar2, cr2, es2, n3, e3⟩ ⟨hap, hw3, hput, hfull⟩
    dsimp only at hap hw3 hput hfull
    exact WA.conv (by first | rfl | kernel_rfl) xR xT (st1111111111111100000010000 bb2 r2 J3 Ar2 cr2 es2 n3 e3 hap hw3 hput hfull b11)
   ·
    refine WA.one1 rfl rfl (op_alloc ti39 (lt_ rfl)) (fun _ b => xT) fun b10 => ?_
    exact WA.conv (by first | rfl | kernel_rfl) xR xT (st1111111111111000000110000 bb2 b10 b11)
  have st1111111111111000000000000 : ∀ (bb2 : Nat), W 12 #[true, true, true, true, true, true, true, true, true, true, true, true, true, false, false, false, false, false, false, false, false, false, false, false, false] ⟨224, []⟩ [(0, .pointer (some ⟨bx, 0, none⟩)), (8, .int .i64 n2), (9, .int .i64 e2), (95, .agg r.cells.toArray), (99, .agg (rjc J Ar cr es.length).toArray), (104, .slice (some ⟨bb2, 0, none⟩) (o.n % 1500) (o.n % 1500))] [own (.slice (some ⟨bb2, 0, none⟩) (o.n % 1500) (o.n % 1500)) 5 1 (o.n % 1500) (bvs (bytesM o.n o.b)), blk bx (wcl bd (.pointer (some ⟨bj, 0, none⟩)) r (rjc J Ar cr es.length) k) 43, blk bd (dcells D2 bm A2 c2) 77, mapC bm (dmap D2.dur), own (.slice A2 D2.pend.length c2) 80 257 D2.pend.length (D2.pend.flatMap wcs), blk bj (jcells J2 bd Aj2 rs2.length cj2) 96, own (.slice Aj2 rs2.length cj2) 30 1 rs2.length (rs2.map Bs.v), rowsC true rs2, own (.slice r.A r.ds.length r.c) 30 1 r.ds.length (r.ds.map Bs.v), rowsC true r.ds, own (.slice r.Aw r.ws.length r.cw) 84 2 r.ws.length (r.ws.flatMap Wb.cells), rowsC true (r.ws.map Wb.b), own (.slice Ar es.length cr) 30 1 es.length (es.map Bs.v), rowsC true es, blk b1 o.cells 32, frameC w0 (MutF [blk bx (wcl bd (.pointer (some ⟨bj, 0, none⟩)) r (rjc J Ar cr es.length) k) 43, blk bd (dcells D bm A c) 77, mapC bm (dmap D.dur), own (.slice A D.pend.length c) 80 257 D.pend.length (D.pend.flatMap wcs), blk bj (jcells J bd Aj rs.length cj) 96, own (.slice Aj rs.length cj) 30 1 rs.length (rs.map Bs.v), rowsC true rs, own (.slice r.A r.ds.length r.c) 30 1 r.ds.length (r.ds.map Bs.v), rowsC true r.ds, own (.slice r.Aw r.ws.length r.cw) 84 2 r.ws.length (r.ws.flatMap Wb.cells), rowsC true (r.ws.map Wb.b), own (.slice Ar es.length cr) 30 1 es.length (es.map Bs.v), rowsC true es])] := by
   intro bb2
   subst hW
   refine WA.pick (l := [13, 19, 20]) (by kernel_rfl) rfl (fun i hi => ?_)
   simp only [List.mem_cons, List.not_mem_nil, or_false] at hi
   rcases hi with rfl | rfl | rfl
   ·
    refine W216 ?_
    rintro ⟨r2, J3, Ar2, cr2, es2, n3, e3⟩ ⟨hap, hw3, hput, hfull⟩
    dsimp only at hap hw3 hput hfull
    exact WA.conv (by first | rfl | kernel_rfl) xR xT (st1111111111111100000000000 bb2 r2 J3 Ar2 cr2 es2 n3 e3 hap hw3 hput hfull)
   ·
    refine WA.one1 rfl rfl (op_alloc ti39 (lt_ rfl)) (fun _ b => xT) fun b10 => ?_
    exact WA.conv (by first | rfl | kernel_rfl) xR xT (st1111111111111000000100000 bb2 b10)
   ·
    refine WA.one1 rfl rfl (op_alloc ti41 (lt_ rfl)) (fun _ b => xT) fun b11 => ?_
    exact WA.conv (by first | rfl | kernel_rfl) xR xT (st1111111111111000000010000 bb2 b11)
  have st1111111111110000000110000 : ∀ (b10 : Nat) (b11 : Nat), W 11 #[true, true, true, true, true, true, true, true, true, true, true, true, false, false, false, false, false, false, false, true, true, false, false, false, false] ⟨224, []⟩ [(0, .pointer (some ⟨bx, 0, none⟩)), (8, .int .i64 n2), (9, .int .i64 e2), (10, .pointer (some ⟨b10, 0, none⟩)), (11, .pointer (some ⟨b11, 0, none⟩)), (95, .agg r.cells.toArray), (99, .agg (rjc J Ar cr es.length).toArray), (101, .int .u16 (o.n : Int)), (103, bv o.b)] [blk b11 [.int .i64 0, .int .i64 0, .int .i64 0, .int .i64 0, .int .i64 0, .int .i64 0, .slice none 0 0, .int .i64 0, .int .i64 0] 41, blk b10 [.slice none 0 0, .slice none 0 0, .int .i64 0, .bool false, .int .i64 0] 39, blk bx (wcl bd (.pointer (some ⟨bj, 0, none⟩)) r (rjc J Ar cr es.length) k) 43, blk bd (dcells D2 bm A2 c2) 77, mapC bm (dmap D2.dur), own (.slice A2 D2.pend.length c2) 80 257 D2.pend.length (D2.pend.flatMap wcs), blk bj (jcells J2 bd Aj2 rs2.length cj2) 96, own (.slice Aj2 rs2.length cj2) 30 1 rs2.length (rs2.map Bs.v), rowsC true rs2, own (.slice r.A r.ds.length r.c) 30 1 r.ds.length (r.ds.map Bs.v), rowsC true r.ds, own (.slice r.Aw r.ws.length r.cw) 84 2 r.ws.length (r.ws.flatMap Wb.cells), rowsC true (r.ws.map Wb.b), own (.slice Ar es.length cr) 30 1 es.length (es.map Bs.v), rowsC true es, blk b1 o.cells 32, frameC w0 (MutF [blk bx (wcl bd (.pointer (some ⟨bj, 0, none⟩)) r (rjc J Ar cr es.length) k) 43, blk bd (dcells D bm A c) 77, mapC bm (dmap D.dur), own (.slice A D.pend.length c) 80 257 D.pend.length (D.pend.flatMap wcs), blk bj (jcells J bd Aj rs.length cj) 96, own (.slice Aj rs.length cj) 30 1 rs.length (rs.map Bs.v), rowsC true rs, own (.slice r.A r.ds.length r.c) 30 1 r.ds.length (r.ds.map Bs.v), rowsC true r.ds, own (.slice r.Aw r.ws.length r.cw) 84 2 r.ws.length (r.ws.flatMap Wb.cells), rowsC true (r.ws.map Wb.b), own (.slice Ar es.length cr) 30 1 es.length (es.map Bs.v), rowsC true es])] := by
   intro b10 b11
   subst hW
   refine WA.pick (l := [12]) (by kernel_rfl) rfl (fun i hi => ?_)
   simp only [List.mem_cons, List.not_mem_nil, or_false] at hi
   subst hi
   ·
    refine W217 ?_
    rintro bb2 _
    exact WA.conv (by first | rfl | kernel_rfl) xR xT (st1111111111111000000110000 bb2 b10 b11)
  have st1111111111110000000100000 : ∀ (b10 : Nat), W 12 #[true, true, true, true, true, true, true, true, true, true, true, true, false, false, false, false, false, false, false, true, false, false, false, false, false] ⟨224, []⟩ [(0, .pointer (some ⟨bx, 0, none⟩)), (8, .int .i64 n2), (9, .int .i64 e2), (10, .pointer (some ⟨b10, 0, none⟩)), (95, .agg r.cells.toArray), (99, .agg (rjc J Ar cr es.length).toArray), (101, .int .u16 (o.n : Int)), (103, bv o.b)] [blk b10 [.slice none 0 0, .slice none 0 0, .int .i64 0, .bool false, .int .i64 0] 39, blk bx (wcl bd (.pointer (some ⟨bj, 0, none⟩)) r (rjc J Ar cr es.length) k) 43, blk bd (dcells D2 bm A2 c2) 77, mapC bm (dmap D2.dur), own (.slice A2 D2.pend.length c2) 80 257 D2.pend.length (D2.pend.flatMap wcs), blk bj (jcells J2 bd Aj2 rs2.length cj2) 96, own (.slice Aj2 rs2.length cj2) 30 1 rs2.length (rs2.map Bs.v), rowsC true rs2, own (.slice r.A r.ds.length r.c) 30 1 r.ds.length (r.ds.map Bs.v), rowsC true r.ds, own (.slice r.Aw r.ws.length r.cw) 84 2 r.ws.length (r.ws.flatMap Wb.cells), rowsC true (r.ws.map Wb.b), own (.slice Ar es.length cr) 30 1 es.length (es.map Bs.v), rowsC true es, blk b1 o.cells 32, frameC w0 (MutF [blk bx (wcl bd (.pointer (some ⟨bj, 0, none⟩)) r (rjc J Ar cr es.length) k) 43, blk bd (dcells D bm A c) 77, mapC bm (dmap D.dur), own (.slice A D.pend.length c) 80 257 D.pend.length (D.pend.flatMap wcs), blk bj (jcells J bd Aj rs.length cj) 96, own (.slice Aj rs.length cj) 30 1 rs.length (rs.map Bs.v), rowsC true rs, own (.slice r.A r.ds.length r.c) 30 1 r.ds.length (r.ds.map Bs.v), rowsC true r.ds, own (.slice r.Aw r.ws.length r.cw) 84 2 r.ws.length (r.ws.flatMap Wb.cells), rowsC true (r.ws.map Wb.b), own (.slice Ar es.length cr) 30 1 es.length (es.map Bs.v), rowsC true es])] := by
   intro b10
   subst hW
   refine WA.pick (l := [12, 20]) (by kernel_rfl) rfl (fun i hi => ?_)
   simp only [List.mem_cons, List.not_mem_nil, or_false] at hi
   rcases hi with rfl | rfl
   ·
    refine W217 ?_
    rintro bb2 _
    exact WA.conv (by first | rfl | kernel_rfl) xR xT (st1111111111111000000100000 bb2 b10)
   ·
    refine WA.one1 rfl rfl (op_alloc ti41 (lt_ rfl)) (fun _ b => xT) fun b11 => ?_
    exact WA.conv (by first | rfl | kernel_rfl) xR xT (st1111111111110000000110000 b10 b11)
  have st1111111111110000000010000 : ∀ (b11 : Nat), W 12 #[true, true, true, true, true, true, true, true, true, true, true, true, false, false, false, false, false, false, false, false, true, false, false, false, false] ⟨224, []⟩ [(0, .pointer (some ⟨bx, 0, none⟩)), (8, .int .i64 n2), (9, .int .i64 e2), (11, .pointer (some ⟨b11, 0, none⟩)), (95, .agg r.cells.toArray), (99, .agg (rjc J Ar cr es.length).toArray), (101, .int .u16 (o.n : Int)), (103, bv o.b)] [blk b11 [.int .i64 0, .int .i64 0, .int .i64 0, .int .i64 0, .int .i64 0, .int .i64 0, .slice none 0 0, .int .i64 0, .int .i64 0] 41, blk bx (wcl bd (.pointer (some ⟨bj, 0, none⟩)) r (rjc J Ar cr es.length) k) 43, blk bd (dcells D2 bm A2 c2) 77, mapC bm (dmap D2.dur), own (.slice A2 D2.pend.length c2) 80 257 D2.pend.length (D2.pend.flatMap wcs), blk bj (jcells J2 bd Aj2 rs2.length cj2) 96, own (.slice Aj2 rs2.length cj2) 30 1 rs2.length (rs2.map Bs.v), rowsC true rs2, own (.slice r.A r.ds.length r.c) 30 1 r.ds.length (r.ds.map Bs.v), rowsC true r.ds, own (.slice r.Aw r.ws.length r.cw) 84 2 r.ws.length (r.ws.flatMap Wb.cells), rowsC true (r.ws.map Wb.b), own (.slice Ar es.length cr) 30 1 es.length (es.map Bs.v), rowsC true es, blk b1 o.cells 32, frameC w0 (MutF [blk bx (wcl bd (.pointer (some ⟨bj, 0, none⟩)) r (rjc J Ar cr es.length) k) 43, blk bd (dcells D bm A c) 77, mapC bm (dmap D.dur), own (.slice A D.pend.length c) 80 257 D.pend.length (D.pend.flatMap wcs), blk bj (jcells J bd Aj rs.length cj) 96, own (.slice Aj rs.length cj) 30 1 rs.length (rs.map Bs.v), rowsC true rs, own (.slice r.A r.ds.length r.c) 30 1 r.ds.length (r.ds.map Bs.v), rowsC true r.ds, own (.slice r.Aw r.ws.length r.cw) 84 2 r.ws.length (r.ws.flatMap Wb.cells), rowsC true (r.ws.map Wb.b), own (.slice Ar es.length cr) 30 1 es.length (es.map Bs.v), rowsC true es])] := by
   intro b11
   subst hW
   refine WA.pick (l := [12, 19]) (by kernel_rfl) rfl (fun i hi => ?_)
   simp only [List.mem_cons, List.not_mem_nil, or_false] at hi
   rcases hi with rfl | rfl
   ·
    refine W217 ?_
    rintro bb2 _
    exact WA.conv (by first | rfl | kernel_rfl) xR xT (st1111111111111000000010000 bb2 b11)
   ·
    refine WA.one1 rfl rfl (op_alloc ti39 (lt_ rfl)) (fun _ b => xT) fun b10 => ?_
    exact WA.conv (by first | rfl | kernel_rfl) xR xT (st1111111111110000000110000 b10 b11)
  subst hW
  refine WA.pick (l := [12, 19, 20]) (by kernel_rfl) rfl (fun i hi => ?_)
  simp only [List.mem_cons, List.not_mem_nil, or_false] at hi
  rcases hi with rfl | rfl | rfl
  ·
   refine W217 ?_
   rintro bb2 _
   exact WA.conv (by first | rfl | kernel_rfl) xR xT (st1111111111111000000000000 bb2)
  ·
   refine WA.one1 rfl rfl (op_alloc ti39 (lt_ rfl)) (fun _ b => xT) fun b10 => ?_
   exact WA.conv (by first | rfl | kernel_rfl) xR xT (st1111111111110000000100000 b10)
  ·
   refine WA.one1 rfl rfl (op_alloc ti41 (lt_ rfl)) (fun _ b => xT) fun b11 => ?_
   exact WA.conv (by first | rfl | kernel_rfl) xR xT (st1111111111110000000010000 b11)
 ·
  refine W240 ?_
  refine W292 ?_
  refine W176 ?_
  refine W42 ?_
  refine W241 ?_
  refine WX.regs (L' := [(0, _), (3, _), (126, _)]) ?_
  refine W0 ?_
  refine WC.cond rfl (fun h3 => ?_) (fun h3 => ?_)
  ·
   refine W351 ?_
   refine W27 ?_
   refine wlv (op_fieldAddr fo43_1 (lt_ rfl) rfl) rfl ?_
   refine wlv (op_load1 fl35 (lt_ rfl) rfl xM rfl) rfl ?_
   refine wlx (op_call (f27_two bd bm bj A c D J Aj cj rs hS rfl ⟨hN.1, by omega⟩ (by omega) hl) ca27 (lt_ rfl) rfl) rfl ?_
   rintro ⟨D2, A2, c2⟩ ⟨p1, p2, p3, p4, p5⟩
   dsimp only at p1 p2 p3 p4 p5 ⊢
   refine W241 ?_
   refine WX.regs (L' := [(0, _), (14, _)]) ?_
   refine W327 ?_
   refine WC.drawn (Hs := [blk bx (wcl bd (.pointer (some ⟨bj, 0, none⟩)) r (rjc J Ar cr es.length) k) 43]) mo 999 ?_
   refine W29 ?_
   refine W69 ?_
   refine W174 ?_
   refine W175 ?_
   refine W51 ?_
   refine W102 ?_
   refine W277 ?_
   refine WA.abs (fun W hW => ?_)
   have st111111111111111000 : ∀ (r2 : Rd) (hfl : r2.Flushed r) (b10 : Nat) (b11 : Nat), W 3 #[true, true, true, true, true, true, true, true, true, true, true, true, true, true, true, false, false, false] ⟨224, []⟩ [(0, .pointer (some ⟨bx, 0, none⟩)), (14, .int .i64 0), (15, .pointer (some ⟨b10, 0, none⟩)), (16, .pointer (some ⟨b11, 0, none⟩)), (146, .agg r2.cells.toArray), (147, .agg (rjc { J with synced := J.first + es.length } Ar cr es.length).toArray), (148, .int .i64 0)] [blk b11 [.int .i64 0, .int .i64 0, .int .i64 0, .int .i64 0, .int .i64 0, .int .i64 0, .slice none 0 0, .int .i64 0, .int .i64 0] 41, blk b10 [.slice none 0 0, .slice none 0 0, .int .i64 0, .bool false, .int .i64 0] 39, own (.slice r2.A r2.ds.length r2.c) 30 1 r2.ds.length (r2.ds.map Bs.v), rowsC true r2.ds, own (.slice r2.Aw r2.ws.length r2.cw) 84 2 r2.ws.length (r2.ws.flatMap Wb.cells), rowsC true (r2.ws.map Wb.b), blk bx (wcl bd (.pointer (some ⟨bj, 0, none⟩)) r (rjc J Ar cr es.length) k) 43, blk bd (dcells D2 bm A2 c2) 77, mapC bm (dmap D2.dur), own (.slice A2 D2.pend.length c2) 80 257 D2.pend.length (D2.pend.flatMap wcs), blk bj (jcells { J with synced := J.first + rs.length } bd Aj rs.length cj) 96, own (.slice Aj rs.length cj) 30 1 rs.length (rs.map Bs.v), rowsC true rs, own (.slice Ar es.length cr) 30 1 es.length (es.map Bs.v), rowsC true es, blk b1 o.cells 32, frameC w0 (MutF [blk bx (wcl bd (.pointer (some ⟨bj, 0, none⟩)) r (rjc J Ar cr es.length) k) 43, blk bd (dcells D bm A c) 77, mapC bm (dmap D.dur), own (.slice A D.pend.length c) 80 257 D.pend.length (D.pend.flatMap wcs), blk bj (jcells J bd Aj rs.length cj) 96, own (.slice Aj rs.length cj) 30 1 rs.length (rs.map Bs.v), rowsC true rs, own (.slice r.A r.ds.length r.c) 30 1 r.ds.length (r.ds.map Bs.v), rowsC true r.ds, own (.slice r.Aw r.ws.length r.cw) 84 2 r.ws.length (r.ws.flatMap Wb.cells), rowsC true (r.ws.map Wb.b), own (.slice Ar es.length cr) 30 1 es.length (es.map Bs.v), rowsC true es])] := by
    intro r2 hfl b10 b11
    subst hW
    refine W153 ?_
    refine W154 ?_
    refine W155 ?_
    refine W19 ?_
    refine WX.blkEq (b := b10) r2.cells xK (by rfl) ?_
    refine WX.blkEq (b := b11) (rjc { J with synced := J.first + es.length } Ar cr es.length) xK (by rfl) ?_
    refine WX.regs (L' := [(0, _), (14, _), (15, _), (16, _), (17, _)]) ?_
    refine W327 ?_
    refine WC.drawn (Hs := [blk b10 r2.cells 39, blk b11 (rjc { J with synced := J.first + es.length } Ar cr es.length) 41]) mo 999 ?_
    refine W344 ?_
    refine W156 ?_
    refine W157 ?_
    refine W131 ?_
    refine W158 ?_
    refine W159 ?_
    refine W160 ?_
    refine W161 ?_
    refine W162 ?_
    refine W19 ?_
    refine WX.blkEq (b := bx) (wcl bd (.pointer (some ⟨bj, 0, none⟩)) r2 (rjc { J with synced := J.first + es.length } Ar cr es.length) k) xK (by rfl) ?_
    refine WX.regs (L' := [(14, _), (17, _)]) ?_
    refine W299 ?_
    refine W42 ?_
    refine W241 ?_
    refine W35 ?_
    refine W275 ?_
    refine W239 ?_
    exact Fin.ret1 xI (⟨⟨D2, A2, c2, { J with synced := J.first + rs.length }, Aj, cj, rs⟩, bj, r2, Ar, cr, es⟩) (⟨⟨p5.imp fun _ ⟨k1, q⟩ => ⟨k1, q.up (by omega)⟩, p2, hfi, by show D2.n = 48; rw [p1, hn], by show D2.pend.length ≤ M + 600; rw [p3]; exact Nat.zero_le _, by show r2.ws.length ≤ M + 600; rw [hfl.m]; exact Nat.zero_le _, hsame.flush hfl p1 p4, hes⟩, fun _ => ⟨p3, hfl.m⟩⟩) Tryz.results8 (.tmp rfl) xT (by simp)
   have st111111111111110000 : ∀ (r2 : Rd) (hfl : r2.Flushed r) (b10 : Nat), W 4 #[true, true, true, true, true, true, true, true, true, true, true, true, true, true, false, false, false, false] ⟨224, []⟩ [(0, .pointer (some ⟨bx, 0, none⟩)), (14, .int .i64 0), (15, .pointer (some ⟨b10, 0, none⟩)), (146, .agg r2.cells.toArray), (147, .agg (rjc { J with synced := J.first + es.length } Ar cr es.length).toArray), (148, .int .i64 0)] [blk b10 [.slice none 0 0, .slice none 0 0, .int .i64 0, .bool false, .int .i64 0] 39, own (.slice r2.A r2.ds.length r2.c) 30 1 r2.ds.length (r2.ds.map Bs.v), rowsC true r2.ds, own (.slice r2.Aw r2.ws.length r2.cw) 84 2 r2.ws.length (r2.ws.flatMap Wb.cells), rowsC true (r2.ws.map Wb.b), blk bx (wcl bd (.pointer (some ⟨bj, 0, none⟩)) r (rjc J Ar cr es.length) k) 43, blk bd (dcells D2 bm A2 c2) 77, mapC bm (dmap D2.dur), own (.slice A2 D2.pend.length c2) 80 257 D2.pend.length (D2.pend.flatMap wcs), blk bj (jcells { J with synced := J.first + rs.length } bd Aj rs.length cj) 96, own (.slice Aj rs.length cj) 30 1 rs.length (rs.map Bs.v), rowsC true rs, own (.slice Ar es.length cr) 30 1 es.length (es.map Bs.v), rowsC true es, blk b1 o.cells 32, frameC w0 (MutF [blk bx (wcl bd (.pointer (some ⟨bj, 0, none⟩)) r (rjc J Ar cr es.length) k) 43, blk bd (dcells D bm A c) 77, mapC bm (dmap D.dur), own (.slice A D.pend.length c) 80 257 D.pend.length (D.pend.flatMap wcs), blk bj (jcells J bd Aj rs.length cj) 96, own (.slice Aj rs.length cj) 30 1 rs.length (rs.map Bs.v), rowsC true rs, own (.slice r.A r.ds.length r.c) 30 1 r.ds.length (r.ds.map Bs.v), rowsC true r.ds, own (.slice r.Aw r.ws.length r.cw) 84 2 r.ws.length (r.ws.flatMap Wb.cells), rowsC true (r.ws.map Wb.b), own (.slice Ar es.length cr) 30 1 es.length (es.map Bs.v), rowsC true es])] := by
    intro r2 hfl b10
    subst hW
    refine WA.pick (l := [14]) (by kernel_rfl) rfl (fun i hi => ?_)
    simp only [List.mem_cons, List.not_mem_nil, or_false] at hi
    subst hi
    ·
     refine WA.one1 rfl rfl (op_alloc ti41 (lt_ rfl)) (fun _ b => xT) fun b11 => ?_
     exact WA.conv (by first | rfl | kernel_rfl) xR xT (st111111111111111000 r2 hfl b10 b11)
   have st111111111111101000 : ∀ (r2 : Rd) (hfl : r2.Flushed r) (b11 : Nat), W 4 #[true, true, true, true, true, true, true, true, true, true, true, true, true, false, true, false, false, false] ⟨224, []⟩ [(0, .pointer (some ⟨bx, 0, none⟩)), (14, .int .i64 0), (16, .pointer (some ⟨b11, 0, none⟩)), (146, .agg r2.cells.toArray), (147, .agg (rjc { J with synced := J.first + es.length } Ar cr es.length).toArray), (148, .int .i64 0)] [blk b11 [.int .i64 0, .int .i64 0, .int .i64 0, .int .i64 0, .int .i64 0, .int .i64 0, .slice none 0 0, .int .i64 0, .int .i64 0] 41, own (.slice r2.A r2.ds.length r2.c) 30 1 r2.ds.length (r2.ds.map Bs.v), rowsC true r2.ds, own (.slice r2.Aw r2.ws.length r2.cw) 84 2 r2.ws.length (r2.ws.flatMap Wb.cells), rowsC true (r2.ws.map Wb.b), blk bx (wcl bd (.pointer (some ⟨bj, 0, none⟩)) r (rjc J Ar cr es.length) k) 43, blk bd (dcells D2 bm A2 c2) 77, mapC bm (dmap D2.dur), own (.slice A2 D2.pend.length c2) 80 257 D2.pend.length (D2.pend.flatMap wcs), blk bj (jcells { J with synced := J.first + rs.length } bd Aj rs.length cj) 96, own (.slice Aj rs.length cj) 30 1 rs.length (rs.map Bs.v), rowsC true rs, own (.slice Ar es.length cr) 30 1 es.length (es.map Bs.v), rowsC true es, blk b1 o.cells 32, frameC w0 (MutF [blk bx (wcl bd (.pointer (some ⟨bj, 0, none⟩)) r (rjc J Ar cr es.length) k) 43, blk bd (dcells D bm A c) 77, mapC bm (dmap D.dur), own (.slice A D.pend.length c) 80 257 D.pend.length (D.pend.flatMap wcs), blk bj (jcells J bd Aj rs.length cj) 96, own (.slice Aj rs.length cj) 30 1 rs.length (rs.map Bs.v), rowsC true rs, own (.slice r.A r.ds.length r.c) 30 1 r.ds.length (r.ds.map Bs.v), rowsC true r.ds, own (.slice r.Aw r.ws.length r.cw) 84 2 r.ws.length (r.ws.flatMap Wb.cells), rowsC true (r.ws.map Wb.b), own (.slice Ar es.length cr) 30 1 es.length (es.map Bs.v), rowsC true es])] := by
    intro r2 hfl b11
    subst hW
    refine WA.pick (l := [13]) (by kernel_rfl) rfl (fun i hi => ?_)
    simp only [List.mem_cons, List.not_mem_nil, or_false] at hi
    subst hi
    ·
     refine WA.one1 rfl rfl (op_alloc ti39 (lt_ rfl)) (fun _ b => xT) fun b10 => ?_
     exact WA.conv (by first | rfl | kernel_rfl) xR xT (st111111111111111000 r2 hfl b10 b11)
   have st111111111000000000 : ∀ (r2 : Rd) (hfl : r2.Flushed r), W 9 #[true, true, true, true, true, true, true, true, true, false, false, false, false, false, false, false, false, false] ⟨224, []⟩ [(0, .pointer (some ⟨bx, 0, none⟩)), (14, .int .i64 0), (145, .tuple #[.agg r2.cells.toArray, .agg (rjc { J with synced := J.first + es.length } Ar cr es.length).toArray, .int .i64 0])] [own (.slice r2.A r2.ds.length r2.c) 30 1 r2.ds.length (r2.ds.map Bs.v), rowsC true r2.ds, own (.slice r2.Aw r2.ws.length r2.cw) 84 2 r2.ws.length (r2.ws.flatMap Wb.cells), rowsC true (r2.ws.map Wb.b), blk bx (wcl bd (.pointer (some ⟨bj, 0, none⟩)) r (rjc J Ar cr es.length) k) 43, blk bd (dcells D2 bm A2 c2) 77, mapC bm (dmap D2.dur), own (.slice A2 D2.pend.length c2) 80 257 D2.pend.length (D2.pend.flatMap wcs), blk bj (jcells { J with synced := J.first + rs.length } bd Aj rs.length cj) 96, own (.slice Aj rs.length cj) 30 1 rs.length (rs.map Bs.v), rowsC true rs, own (.slice Ar es.length cr) 30 1 es.length (es.map Bs.v), rowsC true es, blk b1 o.cells 32, frameC w0 (MutF [blk bx (wcl bd (.pointer (some ⟨bj, 0, none⟩)) r (rjc J Ar cr es.length) k) 43, blk bd (dcells D bm A c) 77, mapC bm (dmap D.dur), own (.slice A D.pend.length c) 80 257 D.pend.length (D.pend.flatMap wcs), blk bj (jcells J bd Aj rs.length cj) 96, own (.slice Aj rs.length cj) 30 1 rs.length (rs.map Bs.v), rowsC true rs, own (.slice r.A r.ds.length r.c) 30 1 r.ds.length (r.ds.map Bs.v), rowsC true r.ds, own (.slice r.Aw r.ws.length r.cw) 84 2 r.ws.length (r.ws.flatMap Wb.cells), rowsC true (r.ws.map Wb.b), own (.slice Ar es.length cr) 30 1 es.length (es.map Bs.v), rowsC true es])] := by
    intro r2 hfl
    subst hW
    refine W55 ?_
    refine W64 ?_
    refine W343 ?_
    refine WA.pick (l := [13, 14]) (by kernel_rfl) rfl (fun i hi => ?_)
    simp only [List.mem_cons, List.not_mem_nil, or_false] at hi
    rcases hi with rfl | rfl
    ·
     refine WA.one1 rfl rfl (op_alloc ti39 (lt_ rfl)) (fun _ b => xT) fun b10 => ?_
     exact WA.conv (by first | rfl | kernel_rfl) xR xT (st111111111111110000 r2 hfl b10)
    ·
     refine WA.one1 rfl rfl (op_alloc ti41 (lt_ rfl)) (fun _ b => xT) fun b11 => ?_
     exact WA.conv (by first | rfl | kernel_rfl) xR xT (st111111111111101000 r2 hfl b11)
   have st111111111000010000 : ∀ (r2 : Rd) (hfl : r2.Flushed r) (b10 : Nat), W 8 #[true, true, true, true, true, true, true, true, true, false, false, false, false, true, false, false, false, false] ⟨224, []⟩ [(0, .pointer (some ⟨bx, 0, none⟩)), (14, .int .i64 0), (15, .pointer (some ⟨b10, 0, none⟩)), (145, .tuple #[.agg r2.cells.toArray, .agg (rjc { J with synced := J.first + es.length } Ar cr es.length).toArray, .int .i64 0])] [blk b10 [.slice none 0 0, .slice none 0 0, .int .i64 0, .bool false, .int .i64 0] 39, own (.slice r2.A r2.ds.length r2.c) 30 1 r2.ds.length (r2.ds.map Bs.v), rowsC true r2.ds, own (.slice r2.Aw r2.ws.length r2.cw) 84 2 r2.ws.length (r2.ws.flatMap Wb.cells), rowsC true (r2.ws.map Wb.b), blk bx (wcl bd (.pointer (some ⟨bj, 0, none⟩)) r (rjc J Ar cr es.length) k) 43, blk bd (dcells D2 bm A2 c2) 77, mapC bm (dmap D2.dur), own (.slice A2 D2.pend.length c2) 80 257 D2.pend.length (D2.pend.flatMap wcs), blk bj (jcells { J with synced := J.first + rs.length } bd Aj rs.length cj) 96, own (.slice Aj rs.length cj) 30 1 rs.length (rs.map Bs.v), rowsC true rs, own (.slice Ar es.length cr) 30 1 es.length (es.map Bs.v), rowsC true es, blk b1 o.cells 32, frameC w0 (MutF [blk bx (wcl bd (.pointer (some ⟨bj, 0, none⟩)) r (rjc J Ar cr es.length) k) 43, blk bd (dcells D bm A c) 77, mapC bm (dmap D.dur), own (.slice A D.pend.length c) 80 257 D.pend.length (D.pend.flatMap wcs), blk bj (jcells J bd Aj rs.length cj) 96, own (.slice Aj rs.length cj) 30 1 rs.length (rs.map Bs.v), rowsC true rs, own (.slice r.A r.ds.length r.c) 30 1 r.ds.length (r.ds.map Bs.v), rowsC true r.ds, own (.slice r.Aw r.ws.length r.cw) 84 2 r.ws.length (r.ws.flatMap Wb.cells), rowsC true (r.ws.map Wb.b), own (.slice Ar es.length cr) 30 1 es.length (es.map Bs.v), rowsC true es])] := by
    intro r2 hfl b10
    subst hW
    refine W55 ?_
    refine W64 ?_
    refine W343 ?_
    refine WA.pick (l := [14]) (by kernel_rfl) rfl (fun i hi => ?_)
    simp only [List.mem_cons, List.not_mem_nil, or_false] at hi
    subst hi
    ·
     refine WA.one1 rfl rfl (op_alloc ti41 (lt_ rfl)) (fun _ b => xT) fun b11 => ?_
     exact WA.conv (by first | rfl | kernel_rfl) xR xT (st111111111111111000 r2 hfl b10 b11)
   have st111111111000011000 : ∀ (r2 : Rd) (hfl : r2.Flushed r) (b10 : Nat) (b11 : Nat), W 7 #[true, true, true, true, true, true, true, true, true, false, false, false, false, true, true, false, false, false] ⟨224, []⟩ [(0, .pointer (some ⟨bx, 0, none⟩)), (14, .int .i64 0), (15, .pointer (some ⟨b10, 0, none⟩)), (16, .pointer (some ⟨b11, 0, none⟩)), (145, .tuple #[.agg r2.cells.toArray, .agg (rjc { J with synced := J.first + es.length } Ar cr es.length).toArray, .int .i64 0])] [blk b11 [.int .i64 0, .int .i64 0, .int .i64 0, .int .i64 0, .int .i64 0, .int .i64 0, .slice none 0 0, .int .i64 0, .int .i64 0] 41, blk b10 [.slice none 0 0, .slice none 0 0, .int .i64 0, .bool false, .int .i64 0] 39, own (.slice r2.A r2.ds.length r2.c) 30 1 r2.ds.length (r2.ds.map Bs.v), rowsC true r2.ds, own (.slice r2.Aw r2.ws.length r2.cw) 84 2 r2.ws.length (r2.ws.flatMap Wb.cells), rowsC true (r2.ws.map Wb.b), blk bx (wcl bd (.pointer (some ⟨bj, 0, none⟩)) r (rjc J Ar cr es.length) k) 43, blk bd (dcells D2 bm A2 c2) 77, mapC bm (dmap D2.dur), own (.slice A2 D2.pend.length c2) 80 257 D2.pend.length (D2.pend.flatMap wcs), blk bj (jcells { J with synced := J.first + rs.length } bd Aj rs.length cj) 96, own (.slice Aj rs.length cj) 30 1 rs.length (rs.map Bs.v), rowsC true rs, own (.slice Ar es.length cr) 30 1 es.length (es.map Bs.v), rowsC true es, blk b1 o.cells 32, frameC w0 (MutF [blk bx (wcl bd (.pointer (some ⟨bj, 0, none⟩)) r (rjc J Ar cr es.length) k) 43, blk bd (dcells D bm A c) 77, mapC bm (dmap D.dur), own (.slice A D.pend.length c) 80 257 D.pend.length (D.pend.flatMap wcs), blk bj (jcells J bd Aj rs.length cj) 96, own (.slice Aj rs.length cj) 30 1 rs.length (rs.map Bs.v), rowsC true rs, own (.slice r.A r.ds.length r.c) 30 1 r.ds.length (r.ds.map Bs.v), rowsC true r.ds, own (.slice r.Aw r.ws.length r.cw) 84 2 r.ws.length (r.ws.flatMap Wb.cells), rowsC true (r.ws.map Wb.b), own (.slice Ar es.length cr) 30 1 es.length (es.map Bs.v), rowsC true es])] := by
    intro r2 hfl b10 b11
    subst hW
    refine W55 ?_
    refine W64 ?_
    refine W343 ?_
    refine W153 ?_
    refine W154 ?_
    refine W155 ?_
    refine W19 ?_
    refine WX.blkEq (b := b10) r2.cells xK (by rfl) ?_
    refine WX.blkEq (b := b11) (rjc { J with synced := J.first + es.length } Ar cr es.length) xK (by rfl) ?_
    refine WX.regs (L' := [(0, _), (14, _), (15, _), (16, _), (17, _)]) ?_
    refine W327 ?_
    refine WC.drawn (Hs := [blk b10 r2.cells 39, blk b11 (rjc { J with synced := J.first + es.length } Ar cr es.length) 41]) mo 999 ?_
    refine W344 ?_
    refine W156 ?_
    refine W157 ?_
    refine W131 ?_
    refine W158 ?_
    refine W159 ?_
    refine W160 ?_
    refine W161 ?_
    refine W162 ?_
    refine W19 ?_
    refine WX.blkEq (b := bx) (wcl bd (.pointer (some ⟨bj, 0, none⟩)) r2 (rjc { J with synced := J.first + es.length } Ar cr es.length) k) xK (by rfl) ?_
    refine WX.regs (L' := [(14, _), (17, _)]) ?_
    refine W299 ?_
    refine W42 ?_
    refine W241 ?_
    refine W35 ?_
    refine W275 ?_
    refine W239 ?_
    exact Fin.ret1 xI (⟨⟨D2, A2, c2, { J with synced := J.first + rs.length }, Aj, cj, rs⟩, bj, r2, Ar, cr, es⟩) (⟨⟨p5.imp fun _ ⟨k1, q⟩ => ⟨k1, q.up (by omega)⟩, p2, hfi, by show D2.n = 48; rw [p1, hn], by show D2.pend.length ≤ M + 600; rw [p3]; exact Nat.zero_le _, by show r2.ws.length ≤ M + 600; rw [hfl.m]; exact Nat.zero_le _, hsame.flush hfl p1 p4, hes⟩, fun _ => ⟨p3, hfl.m⟩⟩) Tryz.results8 (.tmp rfl) xT (by simp)
   have st111111110000011000 : ∀ (b10 : Nat) (b11 : Nat), W 8 #[true, true, true, true, true, true, true, true, false, false, false, false, false, true, true, false, false, false] ⟨224, []⟩ [(0, .pointer (some ⟨bx, 0, none⟩)), (14, .int .i64 0), (15, .pointer (some ⟨b10, 0, none⟩)), (16, .pointer (some ⟨b11, 0, none⟩)), (140, .agg r.cells.toArray), (144, .agg (rjc J Ar cr es.length).toArray)] [blk b11 [.int .i64 0, .int .i64 0, .int .i64 0, .int .i64 0, .int .i64 0, .int .i64 0, .slice none 0 0, .int .i64 0, .int .i64 0] 41, blk b10 [.slice none 0 0, .slice none 0 0, .int .i64 0, .bool false, .int .i64 0] 39, blk bx (wcl bd (.pointer (some ⟨bj, 0, none⟩)) r (rjc J Ar cr es.length) k) 43, blk bd (dcells D2 bm A2 c2) 77, mapC bm (dmap D2.dur), own (.slice A2 D2.pend.length c2) 80 257 D2.pend.length (D2.pend.flatMap wcs), blk bj (jcells { J with synced := J.first + rs.length } bd Aj rs.length cj) 96, own (.slice Aj rs.length cj) 30 1 rs.length (rs.map Bs.v), rowsC true rs, own (.slice r.A r.ds.length r.c) 30 1 r.ds.length (r.ds.map Bs.v), rowsC true r.ds, own (.slice r.Aw r.ws.length r.cw) 84 2 r.ws.length (r.ws.flatMap Wb.cells), rowsC true (r.ws.map Wb.b), own (.slice Ar es.length cr) 30 1 es.length (es.map Bs.v), rowsC true es, blk b1 o.cells 32, frameC w0 (MutF [blk bx (wcl bd (.pointer (some ⟨bj, 0, none⟩)) r (rjc J Ar cr es.length) k) 43, blk bd (dcells D bm A c) 77, mapC bm (dmap D.dur), own (.slice A D.pend.length c) 80 257 D.pend.length (D.pend.flatMap wcs), blk bj (jcells J bd Aj rs.length cj) 96, own (.slice Aj rs.length cj) 30 1 rs.length (rs.map Bs.v), rowsC true rs, own (.slice r.A r.ds.length r.c) 30 1 r.ds.length (r.ds.map Bs.v), rowsC true r.ds, own (.slice r.Aw r.ws.length r.cw) 84 2 r.ws.length (r.ws.flatMap Wb.cells), rowsC true (r.ws.map Wb.b), own (.slice Ar es.length cr) 30 1 es.length (es.map Bs.v), rowsC true es])] := by
    intro b10 b11
    subst hW
    refine WA.pick (l := [8]) (by kernel_rfl) rfl (fun i hi => ?_)
    simp only [List.mem_cons, List.not_mem_nil, or_false] at hi
    subst hi
    ·
     refine W218 ?_
     rintro r2 hfl
     exact WA.conv (by first | rfl | kernel_rfl) xR xT (st111111111000011000 r2 hfl b10 b11)
   have st111111110000010000 : ∀ (b10 : Nat), W 9 #[true, true, true, true, true, true, true, true, false, false, false, false, false, true, false, false, false, false] ⟨224, []⟩ [(0, .pointer (some ⟨bx, 0, none⟩)), (14, .int .i64 0), (15, .pointer (some ⟨b10, 0, none⟩)), (140, .agg r.cells.toArray), (144, .agg (rjc J Ar cr es.length).toArray)] [blk b10 [.slice none 0 0, .slice none 0 0, .int .i64 0, .bool false, .int .i64 0] 39, blk bx (wcl bd (.pointer (some ⟨bj, 0, none⟩)) r (rjc J Ar cr es.length) k) 43, blk bd (dcells D2 bm A2 c2) 77, mapC bm (dmap D2.dur), own (.slice A2 D2.pend.length c2) 80 257 D2.pend.length (D2.pend.flatMap wcs), blk bj (jcells { J with synced := J.first + rs.length } bd Aj rs.length cj) 96, own (.slice Aj rs.length cj) 30 1 rs.length (rs.map Bs.v), rowsC true rs, own (.slice r.A r.ds.length r.c) 30 1 r.ds.length (r.ds.map Bs.v), rowsC true r.ds, own (.slice r.Aw r.ws.length r.cw) 84 2 r.ws.length (r.ws.flatMap Wb.cells), rowsC true (r.ws.map Wb.b), own (.slice Ar es.length cr) 30 1 es.length (es.map Bs.v), rowsC true es, blk b1 o.cells 32, frameC w0 (MutF [blk bx (wcl bd (.pointer (some ⟨bj, 0, none⟩)) r (rjc J Ar cr es.length) k) 43, blk bd (dcells D bm A c) 77, mapC bm (dmap D.dur), own (.slice A D.pend.length c) 80 257 D.pend.length (D.pend.flatMap wcs), blk bj (jcells J bd Aj rs.length cj) 96, own (.slice Aj rs.length cj) 30 1 rs.length (rs.map Bs.v), rowsC true rs, own (.slice r.A r.ds.length r.c) 30 1 r.ds.length (r.ds.map Bs.v), rowsC true r.ds, own (.slice r.Aw r.ws.length r.cw) 84 2 r.ws.length (r.ws.flatMap Wb.cells), rowsC true (r.ws.map Wb.b), own (.slice Ar es.length cr) 30 1 es.length (es.map Bs.v), rowsC true es])] := by
    intro b10
    subst hW
    refine WA.pick (l := [8, 14]) (by kernel_rfl) rfl (fun i hi => ?_)
    simp only [List.mem_cons, List.not_mem_nil, or_false] at hi
    rcases hi with rfl | rfl
    ·
     refine W218 ?_
     rintro r2 hfl
     exact WA.conv (by first | rfl | kernel_rfl) xR xT (st111111111000010000 r2 hfl b10)
    ·
     refine WA.one1 rfl rfl (op_alloc ti41 (lt_ rfl)) (fun _ b => xT) fun b11 => ?_
     exact WA.conv (by first | rfl | kernel_rfl) xR xT (st111111110000011000 b10 b11)
   have st111111111000001000 : ∀ (r2 : Rd) (hfl : r2.Flushed r) (b11 : Nat), W 8 #[true, true, true, true, true, true, true, true, true, false, false, false, false, false, true, false, false, false] ⟨224, []⟩ [(0, .pointer (some ⟨bx, 0, none⟩)), (14, .int .i64 0), (16, .pointer (some ⟨b11, 0, none⟩)), (145, .tuple #[.agg r2.cells.toArray, .agg (rjc { J with synced := J.first + es.length } Ar cr es.length).toArray, .int .i64 0])] [blk b11 [.int .i64 0, .int .i64 0, .int .i64 0, .int .i64 0, .int .i64 0, .int .i64 0, .slice none 0 0, .int .i64 0, .int .i64 0] 41, own (.slice r2.A r2.ds.length r2.c) 30 1 r2.ds.length (r2.ds.map Bs.v), rowsC true r2.ds, own (.slice r2.Aw r2.ws.length r2.cw) 84 2 r2.ws.length (r2.ws.flatMap Wb.cells), rowsC true (r2.ws.map Wb.b), blk bx (wcl bd (.pointer (some ⟨bj, 0, none⟩)) r (rjc J Ar cr es.length) k) 43, blk bd (dcells D2 bm A2 c2) 77, mapC bm (dmap D2.dur), own (.slice A2 D2.pend.length c2) 80 257 D2.pend.length (D2.pend.flatMap wcs), blk bj (jcells { J with synced := J.first + rs.length } bd Aj rs.length cj) 96, own (.slice Aj rs.length cj) 30 1 rs.length (rs.map Bs.v), rowsC true rs, own (.slice Ar es.length cr) 30 1 es.length (es.map Bs.v), rowsC true es, blk b1 o.cells 32, frameC w0 (MutF [blk bx (wcl bd (.pointer (some ⟨bj, 0, none⟩)) r (rjc J Ar cr es.length) k) 43, blk bd (dcells D bm A c) 77, mapC bm (dmap D.dur), own (.slice A D.pend.length c) 80 257 D.pend.length (D.pend.flatMap wcs), blk bj (jcells J bd Aj rs.length cj) 96, own (.slice Aj rs.length cj) 30 1 rs.length (rs.map Bs.v), rowsC true rs, own (.slice r.A r.ds.length r.c) 30 1 r.ds.length (r.ds.map Bs.v), rowsC true r.ds, own (.slice r.Aw r.ws.length r.cw) 84 2 r.ws.length (r.ws.flatMap Wb.cells), rowsC true (r.ws.map Wb.b), own (.slice Ar es.length cr) 30 1 es.length (es.map Bs.v), rowsC true es])] := by
    intro r2 hfl b11
    subst hW
    refine W55 ?_
    refine W64 ?_
    refine W343 ?_
    refine WA.pick (l := [13]) (by kernel_rfl) rfl (fun i hi => ?_)
    simp only [List.mem_cons, List.not_mem_nil, or_false] at hi
    subst hi
    ·
     refine WA.one1 rfl rfl (op_alloc ti39 (lt_ rfl)) (fun _ b => xT) fun b10 => ?_
     exact WA.conv (by first | rfl | kernel_rfl) xR xT (st111111111111111000 r2 hfl b10 b11)
   have st111111110000001000 : ∀ (b11 : Nat), W 9 #[true, true, true, true, true, true, true, true, false, false, false, false, false, false, true, false, false, false] ⟨224, []⟩ [(0, .pointer (some ⟨bx, 0, none⟩)), (14, .int .i64 0), (16, .pointer (some ⟨b11, 0, none⟩)), (140, .agg r.cells.toArray), (144, .agg (rjc J Ar cr es.length).toArray)] [blk b11 [.int .i64 0, .int .i64 0, .int .i64 0, .int .i64 0, .int .i64 0, .int .i64 0, .slice none 0 0, .int .i64 0, .int .i64 0] 41, blk bx (wcl bd (.pointer (some ⟨bj, 0, none⟩)) r (rjc J Ar cr es.length) k) 43, blk bd (dcells D2 bm A2 c2) 77, mapC bm (dmap D2.dur), own (.slice A2 D2.pend.length c2) 80 257 D2.pend.length (D2.pend.flatMap wcs), blk bj (jcells { J with synced := J.first + rs.length } bd Aj rs.length cj) 96, own (.slice Aj rs.length cj) 30 1 rs.length (rs.map Bs.v), rowsC true rs, own (.slice r.A r.ds.length r.c) 30 1 r.ds.length (r.ds.map Bs.v), rowsC true r.ds, own (.slice r.Aw r.ws.length r.cw) 84 2 r.ws.length (r.ws.flatMap Wb.cells), rowsC true (r.ws.map Wb.b), own (.slice Ar es.length cr) 30 1 es.length (es.map Bs.v), rowsC true es, blk b1 o.cells 32, frameC w0 (MutF [blk bx (wcl bd (.pointer (some ⟨bj, 0, none⟩)) r (rjc J Ar cr es.length) k) 43, blk bd (dcells D bm A c) 77, mapC bm (dmap D.dur), own (.slice A D.pend.length c) 80 257 D.pend.length (D.pend.flatMap wcs), blk bj (jcells J bd Aj rs.length cj) 96, own (.slice Aj rs.length cj) 30 1 rs.length (rs.map Bs.v), rowsC true rs, own (.slice r.A r.ds.length r.c) 30 1 r.ds.length (r.ds.map Bs.v), rowsC true r.ds, own (.slice r.Aw r.ws.length r.cw) 84 2 r.ws.length (r.ws.flatMap Wb.cells), rowsC true (r.ws.map Wb.b), own (.slice Ar es.length cr) 30 1 es.length (es.map Bs.v), rowsC true es])] := by
    intro b11
    subst hW
    refine WA.pick (l := [8, 13]) (by kernel_rfl) rfl (fun i hi => ?_)
    simp only [List.mem_cons, List.not_mem_nil, or_false] at hi
    rcases hi with rfl | rfl
    ·
     refine W218 ?_
     rintro r2 hfl
     exact WA.conv (by first | rfl | kernel_rfl) xR xT (st111111111000001000 r2 hfl b11)
    ·
     refine WA.one1 rfl rfl (op_alloc ti39 (lt_ rfl)) (fun _ b => xT) fun b10 => ?_
     exact WA.conv (by first | rfl | kernel_rfl) xR xT (st111111110000011000 b10 b11)
   subst hW
   refine WA.pick (l := [8, 13, 14]) (by kernel_rfl) rfl (fun i hi => ?_)
   simp only [List.mem_cons, List.not_mem_nil, or_false] at hi
   rcases hi with rfl | rfl | rfl
   ·
    refine W218 ?_
    rintro r2 hfl
    exact WA.conv (by first | rfl | kernel_rfl) xR xT (st111111111000000000 r2 hfl)
   ·
    refine WA.one1 rfl rfl (op_alloc ti39 (lt_ rfl)) (fun _ b => xT) fun b10 => ?_
    exact WA.conv (by first | rfl | kernel_rfl) xR xT (st111111110000010000 b10)
   ·
    refine WA.one1 rfl rfl (op_alloc ti41 (lt_ rfl)) (fun _ b => xT) fun b11 => ?_
    exact WA.conv (by first | rfl | kernel_rfl) xR xT (st111111110000001000 b11)
  ·
   refine W240 ?_
   refine W292 ?_
   refine W176 ?_
   refine W42 ?_
   refine W241 ?_
   refine WX.regs (L' := [(0, _), (3, _), (160, _)]) ?_
   refine W0 ?_
   refine WC.cond rfl (fun h4 => ?_) (fun h4 => ?_)
   ·
    refine W1 ?_
    refine W226 ?_
    refine W29 ?_
    refine W69 ?_
    refine WA.take (i := 2) rfl (by kernel_rfl) (fun _ _ _ h => h) rfl (op_fieldAddr fo43_3 (lt_ rfl) rfl) xT ?_
    refine WA.take (i := 3) rfl (by kernel_rfl) (fun _ _ _ h => h) rfl (op_fieldAddr fo41_5 (lt_ rfl) rfl) xT ?_
    refine W129 ?_
    refine WA.take (i := 5) rfl (by kernel_rfl) (fun _ _ _ h => h) rfl (op_fieldAddr fo32_1 (lt_ rfl) rfl) xT ?_
    refine WA.take (i := 6) rfl (by kernel_rfl) (fun _ _ _ h => h) rfl (op_load1 fl29 (lt_ rfl) rfl xM rfl) xT ?_
    refine WA.take (i := 7) rfl (by kernel_rfl) (fun _ _ _ h => h) rfl (op_rem (k := .u16) (lt_ rfl) rfl rfl (by omega) (by omega)) xT ?_
    refine WA.take (i := 8) rfl (by kernel_rfl) (fun _ _ _ h => h) rfl (op_conv16i (by kernel_rfl) Tryz.underlying3 (lt_ rfl) rfl (by omega)) xT ?_
    rw [show ((o.n : Int)) % 12 = ((o.n % 12 : Nat) : Int) by omega]
    refine WA.take (i := 9) rfl (by kernel_rfl) (fun _ _ _ h => h) rfl (op_add (lt_ rfl) rfl rfl (by omega)) xT ?_
    refine WA.take (i := 10) rfl (by kernel_rfl) (fun _ _ _ h => h) rfl (op_sub (lt_ rfl) rfl rfl (by omega)) xT ?_
    refine W183 ?_
    refine W19 ?_
    refine WX.regs (L' := [(0, _), (18, _)]) ?_
    refine W323 ?_
    refine wlv (op_fieldAddr fo43_1 (lt_ rfl) rfl) rfl ?_
    refine wlv (op_load1 fl35 (lt_ rfl) rfl xM rfl) rfl ?_
    refine W4 ?_
    refine wlx (op_call (f18_two bd bm bj A c D J Aj cj rs hS rfl ⟨hN.1, by omega⟩ (by omega) hl (J.first + ((o.n % 12 : Nat) : Int) - 2)) ca18 (lt_ rfl) rfl) rfl ?_
    rintro ⟨⟨D2, A2, c2, J2, Aj2, cj2, rs2⟩, e2⟩ ⟨p1, p2, p3, p4, p5, p6⟩
    dsimp only at p1 p2 p3 p4 p5 p6 ⊢
    refine W241 ?_
    refine WX.regs (L' := [(0, _), (18, _), (19, _)]) ?_
    refine W327 ?_
    refine WC.drawn (Hs := [blk bx (wcl bd (.pointer (some ⟨bj, 0, none⟩)) r (rjc J Ar cr es.length) k) 43]) mo 999 ?_
    refine W29 ?_
    refine W69 ?_
    refine W174 ?_
    refine W175 ?_
    refine W51 ?_
    refine W102 ?_
    refine W277 ?_
    refine W71 ?_
    refine WA.abs (fun W hW => ?_)
    have st1111111111111111000 : ∀ (r2 : Rd) (J3 : Jn) (Ar2 : Option Addr) (cr2 : Nat) (es2 : List Bs) (e3 : Int) (htr : TrO k J J3 (rs.map Bs.s) (es2.map Bs.s) (J.first + ((o.n % 12 : Nat) : Int) - 2) (nextF (1 - J.gen % 2) (D.seen J.fi k)) e3) (hw3 : r2.ws.length ≤ r.ws.length) (hq1 : (J.first + ((o.n % 12 : Nat) : Int) - 2) ≤ J.first ∨ J.first + (rs.map Bs.s).length < (J.first + ((o.n % 12 : Nat) : Int) - 2) → r2 = r) (hq2 : ∀ m : Nat, 1 ≤ m → m ≤ (rs.map Bs.s).length → (J.first + ((o.n % 12 : Nat) : Int) - 2) = J.first + m → r2.Area r (J.fi + (nextF (1 - J.gen % 2) (D.seen J.fi k)) % 2 * ((k / 2 : Nat) : Int)) (areaS (nextF (1 - J.gen % 2) (D.seen J.fi k)) (J.first + ((o.n % 12 : Nat) : Int) - 2) ((rs.map Bs.s).drop m))) (b10 : Nat) (b11 : Nat), W 3 #[true, true, true, true, true, true, true, true, true, true, true, true, true, true, true, true, false, false, false] ⟨224, []⟩ [(0, .pointer (some ⟨bx, 0, none⟩)), (19, .int .i64 e2), (20, .pointer (some ⟨b10, 0, none⟩)), (21, .pointer (some ⟨b11, 0, none⟩)), (193, .agg r2.cells.toArray), (194, .agg (rjc J3 Ar2 cr2 es2.length).toArray), (195, .int .i64 e3)] [blk b11 [.int .i64 0, .int .i64 0, .int .i64 0, .int .i64 0, .int .i64 0, .int .i64 0, .slice none 0 0, .int .i64 0, .int .i64 0] 41, blk b10 [.slice none 0 0, .slice none 0 0, .int .i64 0, .bool false, .int .i64 0] 39, own (.slice r2.A r2.ds.length r2.c) 30 1 r2.ds.length (r2.ds.map Bs.v), rowsC true r2.ds, own (.slice r2.Aw r2.ws.length r2.cw) 84 2 r2.ws.length (r2.ws.flatMap Wb.cells), rowsC true (r2.ws.map Wb.b), own (.slice Ar2 es2.length cr2) 30 1 es2.length (es2.map Bs.v), rowsC true es2, blk bx (wcl bd (.pointer (some ⟨bj, 0, none⟩)) r (rjc J Ar cr es.length) k) 43, blk bd (dcells D2 bm A2 c2) 77, mapC bm (dmap D2.dur), own (.slice A2 D2.pend.length c2) 80 257 D2.pend.length (D2.pend.flatMap wcs), blk bj (jcells J2 bd Aj2 rs2.length cj2) 96, own (.slice Aj2 rs2.length cj2) 30 1 rs2.length (rs2.map Bs.v), rowsC true rs2, blk b1 o.cells 32, frameC w0 (MutF [blk bx (wcl bd (.pointer (some ⟨bj, 0, none⟩)) r (rjc J Ar cr es.length) k) 43, blk bd (dcells D bm A c) 77, mapC bm (dmap D.dur), own (.slice A D.pend.length c) 80 257 D.pend.length (D.pend.flatMap wcs), blk bj (jcells J bd Aj rs.length cj) 96, own (.slice Aj rs.length cj) 30 1 rs.length (rs.map Bs.v), rowsC true rs, own (.slice r.A r.ds.length r.c) 30 1 r.ds.length (r.ds.map Bs.v), rowsC true r.ds, own (.slice r.Aw r.ws.length r.cw) 84 2 r.ws.length (r.ws.flatMap Wb.cells), rowsC true (r.ws.map Wb.b), own (.slice Ar es.length cr) 30 1 es.length (es.map Bs.v), rowsC true es])] := by
     intro r2 J3 Ar2 cr2 es2 e3 htr hw3 hq1 hq2 b10 b11
     subst hW
     refine W151 ?_
     refine W152 ?_
     refine W100 ?_
     refine W19 ?_
     refine W303 ?_
     refine WX.regs (L' := [(0, _), (19, _), (20, _), (21, _), (22, _)]) ?_
     refine W327 ?_
     refine W211 ?_
     refine W344 ?_
     refine W156 ?_
     refine W157 ?_
     refine W131 ?_
     refine W158 ?_
     refine W159 ?_
     refine W160 ?_
     refine W161 ?_
     refine W162 ?_
     refine W19 ?_
     refine W212 ?_
     have hsm := p5.same htr
     obtain ⟨rfl, hes3, _⟩ := id hsm
     refine WX.regs (L' := [(19, _), (22, _)]) ?_
     refine W299 ?_
     refine W42 ?_
     rw [show decide (e2 = e3) = true from decide_eq_true hsm.2.2]
     refine W241 ?_
     refine W35 ?_
     refine W275 ?_
     exact Fin.ret1 xI (⟨⟨D2, A2, c2, J3, Aj2, cj2, rs2⟩, bj, r2, Ar2, cr2, es2⟩) (⟨⟨p4, p2, by show J3.fi = 3; rw [p5.fi, hfi], by show D2.n = 48; rw [p1, hn], by show D2.pend.length ≤ M + 600; omega, by show r2.ws.length ≤ M + 600; omega, p6.same hsame p1 hq1 hq2, hes3⟩, fun hk => by omega⟩) Tryz.results8 (.tmp rfl) xT (by simp)
    have st1111111111111110000 : ∀ (r2 : Rd) (J3 : Jn) (Ar2 : Option Addr) (cr2 : Nat) (es2 : List Bs) (e3 : Int) (htr : TrO k J J3 (rs.map Bs.s) (es2.map Bs.s) (J.first + ((o.n % 12 : Nat) : Int) - 2) (nextF (1 - J.gen % 2) (D.seen J.fi k)) e3) (hw3 : r2.ws.length ≤ r.ws.length) (hq1 : (J.first + ((o.n % 12 : Nat) : Int) - 2) ≤ J.first ∨ J.first + (rs.map Bs.s).length < (J.first + ((o.n % 12 : Nat) : Int) - 2) → r2 = r) (hq2 : ∀ m : Nat, 1 ≤ m → m ≤ (rs.map Bs.s).length → (J.first + ((o.n % 12 : Nat) : Int) - 2) = J.first + m → r2.Area r (J.fi + (nextF (1 - J.gen % 2) (D.seen J.fi k)) % 2 * ((k / 2 : Nat) : Int)) (areaS (nextF (1 - J.gen % 2) (D.seen J.fi k)) (J.first + ((o.n % 12 : Nat) : Int) - 2) ((rs.map Bs.s).drop m))) (b10 : Nat), W 4 #[true, true, true, true, true, true, true, true, true, true, true, true, true, true, true, false, false, false, false] ⟨224, []⟩ [(0, .pointer (some ⟨bx, 0, none⟩)), (19, .int .i64 e2), (20, .pointer (some ⟨b10, 0, none⟩)), (193, .agg r2.cells.toArray), (194, .agg (rjc J3 Ar2 cr2 es2.length).toArray), (195, .int .i64 e3)] [blk b10 [.slice none 0 0, .slice none 0 0, .int .i64 0, .bool false, .int .i64 0] 39, own (.slice r2.A r2.ds.length r2.c) 30 1 r2.ds.length (r2.ds.map Bs.v), rowsC true r2.ds, own (.slice r2.Aw r2.ws.length r2.cw) 84 2 r2.ws.length (r2.ws.flatMap Wb.cells), rowsC true (r2.ws.map Wb.b), own (.slice Ar2 es2.length cr2) 30 1 es2.length (es2.map Bs.v), rowsC true es2, blk bx (wcl bd (.pointer (some ⟨bj, 0, none⟩)) r (rjc J Ar cr es.length) k) 43, blk bd (dcells D2 bm A2 c2) 77, mapC bm (dmap D2.dur), own (.slice A2 D2.pend.length c2) 80 257 D2.pend.length (D2.pend.flatMap wcs), blk bj (jcells J2 bd Aj2 rs2.length cj2) 96, own (.slice Aj2 rs2.length cj2) 30 1 rs2.length (rs2.map Bs.v), rowsC true rs2, blk b1 o.cells 32, frameC w0 (MutF [blk bx (wcl bd (.pointer (some ⟨bj, 0, none⟩)) r (rjc J Ar cr es.length) k) 43, blk bd (dcells D bm A c) 77, mapC bm (dmap D.dur), own (.slice A D.pend.length c) 80 257 D.pend.length (D.pend.flatMap wcs), blk bj (jcells J bd Aj rs.length cj) 96, own (.slice Aj rs.length cj) 30 1 rs.length (rs.map Bs.v), rowsC true rs, own (.slice r.A r.ds.length r.c) 30 1 r.ds.length (r.ds.map Bs.v), rowsC true r.ds, own (.slice r.Aw r.ws.length r.cw) 84 2 r.ws.length (r.ws.flatMap Wb.cells), rowsC true (r.ws.map Wb.b), own (.slice Ar es.length cr) 30 1 es.length (es.map Bs.v), rowsC true es])] := by
     intro r2 J3 Ar2 cr2 es2 e3 htr hw3 hq1 hq2 b10
     subst hW
     refine WA.pick (l := [15]) (by kernel_rfl) rfl (fun i hi => ?_)
     simp only [List.mem_cons, List.not_mem_nil, or_false] at hi
     subst hi
     ·
      refine WA.one1 rfl rfl (op_alloc ti41 (lt_ rfl)) (fun _ b => xT) fun b11 => ?_
      exact WA.conv (by first | rfl | kernel_rfl) xR xT (st1111111111111111000 r2 J3 Ar2 cr2 es2 e3 htr hw3 hq1 hq2 b10 b11)
    have st1111111111111101000 : ∀ (r2 : Rd) (J3 : Jn) (Ar2 : Option Addr) (cr2 : Nat) (es2 : List Bs) (e3 : Int) (htr : TrO k J J3 (rs.map Bs.s) (es2.map Bs.s) (J.first + ((o.n % 12 : Nat) : Int) - 2) (nextF (1 - J.gen % 2) (D.seen J.fi k)) e3) (hw3 : r2.ws.length ≤ r.ws.length) (hq1 : (J.first + ((o.n % 12 : Nat) : Int) - 2) ≤ J.first ∨ J.first + (rs.map Bs.s).length < (J.first + ((o.n % 12 : Nat) : Int) - 2) → r2 = r) (hq2 : ∀ m : Nat, 1 ≤ m → m ≤ (rs.map Bs.s).length → (J.first + ((o.n % 12 : Nat) : Int) - 2) = J.first + m → r2.Area r (J.fi + (nextF (1 - J.gen % 2) (D.seen J.fi k)) % 2 * ((k / 2 : Nat) : Int)) (areaS (nextF (1 - J.gen % 2) (D.seen J.fi k)) (J.first + ((o.n % 12 : Nat) : Int) - 2) ((rs.map Bs.s).drop m))) (b11 : Nat), W 4 #[true, true, true, true, true, true, true, true, true, true, true, true, true, true, false, true, false, false, false] ⟨224, []⟩ [(0, .pointer (some ⟨bx, 0, none⟩)), (19, .int .i64 e2), (21, .pointer (some ⟨b11, 0, none⟩)), (193, .agg r2.cells.toArray), (194, .agg (rjc J3 Ar2 cr2 es2.length).toArray), (195, .int .i64 e3)] [blk b11 [.int .i64 0, .int .i64 0, .int .i64 0, .int .i64 0, .int .i64 0, .int .i64 0, .slice none 0 0, .int .i64 0, .int .i64 0] 41, own (.slice r2.A r2.ds.length r2.c) 30 1 r2.ds.length (r2.ds.map Bs.v), rowsC true r2.ds, own (.slice r2.Aw r2.ws.length r2.cw) 84 2 r2.ws.length (r2.ws.flatMap Wb.cells), rowsC true (r2.ws.map Wb.b), own (.slice Ar2 es2.length cr2) 30 1 es2.length (es2.map Bs.v), rowsC true es2, blk bx (wcl bd (.pointer (some ⟨bj, 0, none⟩)) r (rjc J Ar cr es.length) k) 43, blk bd (dcells D2 bm A2 c2) 77, mapC bm (dmap D2.dur), own (.slice A2 D2.pend.length c2) 80 257 D2.pend.length (D2.pend.flatMap wcs), blk bj (jcells J2 bd Aj2 rs2.length cj2) 96, own (.slice Aj2 rs2.length cj2) 30 1 rs2.length (rs2.map Bs.v), rowsC true rs2, blk b1 o.cells 32, frameC w0 (MutF [blk bx (wcl bd (.pointer (some ⟨bj, 0, none⟩)) r (rjc J Ar cr es.length) k) 43, blk bd (dcells D bm A c) 77, mapC bm (dmap D.dur), own (.slice A D.pend.length c) 80 257 D.pend.length (D.pend.flatMap wcs), blk bj (jcells J bd Aj rs.length cj) 96, own (.slice Aj rs.length cj) 30 1 rs.length (rs.map Bs.v), rowsC true rs, own (.slice r.A r.ds.length r.c) 30 1 r.ds.length (r.ds.map Bs.v), rowsC true r.ds, own (.slice r.Aw r.ws.length r.cw) 84 2 r.ws.length (r.ws.flatMap Wb.cells), rowsC true (r.ws.map Wb.b), own (.slice Ar es.length cr) 30 1 es.length (es.map Bs.v), rowsC true es])] := by
     intro r2 J3 Ar2 cr2 es2 e3 htr hw3 hq1 hq2 b11
     subst hW
     refine WA.pick (l := [14]) (by kernel_rfl) rfl (fun i hi => ?_)
     simp only [List.mem_cons, List.not_mem_nil, or_false] at hi
     subst hi
     ·
      refine WA.one1 rfl rfl (op_alloc ti39 (lt_ rfl)) (fun _ b => xT) fun b10 => ?_
      exact WA.conv (by first | rfl | kernel_rfl) xR xT (st1111111111111111000 r2 J3 Ar2 cr2 es2 e3 htr hw3 hq1 hq2 b10 b11)
    have st1111111111000000000 : ∀ (r2 : Rd) (J3 : Jn) (Ar2 : Option Addr) (cr2 : Nat) (es2 : List Bs) (e3 : Int) (htr : TrO k J J3 (rs.map Bs.s) (es2.map Bs.s) (J.first + ((o.n % 12 : Nat) : Int) - 2) (nextF (1 - J.gen % 2) (D.seen J.fi k)) e3) (hw3 : r2.ws.length ≤ r.ws.length) (hq1 : (J.first + ((o.n % 12 : Nat) : Int) - 2) ≤ J.first ∨ J.first + (rs.map Bs.s).length < (J.first + ((o.n % 12 : Nat) : Int) - 2) → r2 = r) (hq2 : ∀ m : Nat, 1 ≤ m → m ≤ (rs.map Bs.s).length → (J.first + ((o.n % 12 : Nat) : Int) - 2) = J.first + m → r2.Area r (J.fi + (nextF (1 - J.gen % 2) (D.seen J.fi k)) % 2 * ((k / 2 : Nat) : Int)) (areaS (nextF (1 - J.gen % 2) (D.seen J.fi k)) (J.first + ((o.n % 12 : Nat) : Int) - 2) ((rs.map Bs.s).drop m))), W 9 #[true, true, true, true, true, true, true, true, true, true, false, false, false, false, false, false, false, false, false] ⟨224, []⟩ [(0, .pointer (some ⟨bx, 0, none⟩)), (19, .int .i64 e2), (192, .tuple #[.agg r2.cells.toArray, .agg (rjc J3 Ar2 cr2 es2.length).toArray, .int .i64 e3])] [own (.slice r2.A r2.ds.length r2.c) 30 1 r2.ds.length (r2.ds.map Bs.v), rowsC true r2.ds, own (.slice r2.Aw r2.ws.length r2.cw) 84 2 r2.ws.length (r2.ws.flatMap Wb.cells), rowsC true (r2.ws.map Wb.b), own (.slice Ar2 es2.length cr2) 30 1 es2.length (es2.map Bs.v), rowsC true es2, blk bx (wcl bd (.pointer (some ⟨bj, 0, none⟩)) r (rjc J Ar cr es.length) k) 43, blk bd (dcells D2 bm A2 c2) 77, mapC bm (dmap D2.dur), own (.slice A2 D2.pend.length c2) 80 257 D2.pend.length (D2.pend.flatMap wcs), blk bj (jcells J2 bd Aj2 rs2.length cj2) 96, own (.slice Aj2 rs2.length cj2) 30 1 rs2.length (rs2.map Bs.v), rowsC true rs2, blk b1 o.cells 32, frameC w0 (MutF [blk bx (wcl bd (.pointer (some ⟨bj, 0, none⟩)) r (rjc J Ar cr es.length) k) 43, blk bd (dcells D bm A c) 77, mapC bm (dmap D.dur), own (.slice A D.pend.length c) 80 257 D.pend.length (D.pend.flatMap wcs), blk bj (jcells J bd Aj rs.length cj) 96, own (.slice Aj rs.length cj) 30 1 rs.length (rs.map Bs.v), rowsC true rs, own (.slice r.A r.ds.length r.c) 30 1 r.ds.length (r.ds.map Bs.v), rowsC true r.ds, own (.slice r.Aw r.ws.length r.cw) 84 2 r.ws.length (r.ws.flatMap Wb.cells), rowsC true (r.ws.map Wb.b), own (.slice Ar es.length cr) 30 1 es.length (es.map Bs.v), rowsC true es])] := by
     intro r2 J3 Ar2 cr2 es2 e3 htr hw3 hq1 hq2
     subst hW
     refine W90 ?_
     refine W343 ?_
     refine W120 ?_
     refine WA.pick (l := [14, 15]) (by kernel_rfl) rfl (fun i hi => ?_)
     simp only [List.mem_cons, List.not_mem_nil, or_false] at hi
     rcases hi with rfl | rfl
     ·
      refine WA.one1 rfl rfl (op_alloc ti39 (lt_ rfl)) (fun _ b => xT) fun b10 => ?_
      exact WA.conv (by first | rfl | kernel_rfl) xR xT (st1111111111111110000 r2 J3 Ar2 cr2 es2 e3 htr hw3 hq1 hq2 b10)
     ·
      refine WA.one1 rfl rfl (op_alloc ti41 (lt_ rfl)) (fun _ b => xT) fun b11 => ?_
      exact WA.conv (by first | rfl | kernel_rfl) xR xT (st1111111111111101000 r2 J3 Ar2 cr2 es2 e3 htr hw3 hq1 hq2 b11)
    have st1111111111000010000 : ∀ (r2 : Rd) (J3 : Jn) (Ar2 : Option Addr) (cr2 : Nat) (es2 : List Bs) (e3 : Int) (htr : TrO k J J3 (rs.map Bs.s) (es2.map Bs.s) (J.first + ((o.n % 12 : Nat) : Int) - 2) (nextF (1 - J.gen % 2) (D.seen J.fi k)) e3) (hw3 : r2.ws.length ≤ r.ws.length) (hq1 : (J.first + ((o.n % 12 : Nat) : Int) - 2) ≤ J.first ∨ J.first + (rs.map Bs.s).length < (J.first + ((o.n % 12 : Nat) : Int) - 2) → r2 = r) (hq2 : ∀ m : Nat, 1 ≤ m → m ≤ (rs.map Bs.s).length → (J.first + ((o.n % 12 : Nat) : Int) - 2) = J.first + m → r2.Area r (J.fi + (nextF (1 - J.gen % 2) (D.seen J.fi k)) % 2 * ((k / 2 : Nat) : Int)) (areaS (nextF (1 - J.gen % 2) (D.seen J.fi k)) (J.first + ((o.n % 12 : Nat) : Int) - 2) ((rs.map Bs.s).drop m))) (b10 : Nat), W 8 #[true, true, true, true, true, true, true, true, true, true, false, false, false, false, true, false, false, false, false] ⟨224, []⟩ [(0, .pointer (some ⟨bx, 0, none⟩)), (19, .int .i64 e2), (20, .pointer (some ⟨b10, 0, none⟩)), (192, .tuple #[.agg r2.cells.toArray, .agg (rjc J3 Ar2 cr2 es2.length).toArray, .int .i64 e3])] [blk b10 [.slice none 0 0, .slice none 0 0, .int .i64 0, .bool false, .int .i64 0] 39, own (.slice r2.A r2.ds.length r2.c) 30 1 r2.ds.length (r2.ds.map Bs.v), rowsC true r2.ds, own (.slice r2.Aw r2.ws.length r2.cw) 84 2 r2.ws.length (r2.ws.flatMap Wb.cells), rowsC true (r2.ws.map Wb.b), own (.slice Ar2 es2.length cr2) 30 1 es2.length (es2.map Bs.v), rowsC true es2, blk bx (wcl bd (.pointer (some ⟨bj, 0, none⟩)) r (rjc J Ar cr es.length) k) 43, blk bd (dcells D2 bm A2 c2) 77, mapC bm (dmap D2.dur), own (.slice A2 D2.pend.length c2) 80 257 D2.pend.length (D2.pend.flatMap wcs), blk bj (jcells J2 bd Aj2 rs2.length cj2) 96, own (.slice Aj2 rs2.length cj2) 30 1 rs2.length (rs2.map Bs.v), rowsC true rs2, blk b1 o.cells 32, frameC w0 (MutF [blk bx (wcl bd (.pointer (some ⟨bj, 0, none⟩)) r (rjc J Ar cr es.length) k) 43, blk bd (dcells D bm A c) 77, mapC bm (dmap D.dur), own (.slice A D.pend.length c) 80 257 D.pend.length (D.pend.flatMap wcs), blk bj (jcells J bd Aj rs.length cj) 96, own (.slice Aj rs.length cj) 30 1 rs.length (rs.map Bs.v), rowsC true rs, own (.slice r.A r.ds.length r.c) 30 1 r.ds.length (r.ds.map Bs.v), rowsC true r.ds, own (.slice r.Aw r.ws.length r.cw) 84 2 r.ws.length (r.ws.flatMap Wb.cells), rowsC true (r.ws.map Wb.b), own (.slice Ar es.length cr) 30 1 es.length (es.map Bs.v), rowsC true es])] := by
     intro r2 J3 Ar2 cr2 es2 e3 htr hw3 hq1 hq2 b10
     subst hW
     refine W90 ?_
     refine W343 ?_
     refine W120 ?_
     refine WA.pick (l := [15]) (by kernel_rfl) rfl (fun i hi => ?_)
     simp only [List.mem_cons, List.not_mem_nil, or_false] at hi
     subst hi
     ·
      refine WA.one1 rfl rfl (op_alloc ti41 (lt_ rfl)) (fun _ b => xT) fun b11 => ?_
      exact WA.conv (by first | rfl | kernel_rfl) xR xT (st1111111111111111000 r2 J3 Ar2 cr2 es2 e3 htr hw3 hq1 hq2 b10 b11)
    have st1111111111000011000 : ∀ (r2 : Rd) (J3 : Jn) (Ar2 : Option Addr) (cr2 : Nat) (es2 : List Bs) (e3 : Int) (htr : TrO k J J3 (rs.map Bs.s) (es2.map Bs.s) (J.first + ((o.n % 12 : Nat) : Int) - 2) (nextF (1 - J.gen % 2) (D.seen J.fi k)) e3) (hw3 : r2.ws.length ≤ r.ws.length) (hq1 : (J.first + ((o.n % 12 : Nat) : Int) - 2) ≤ J.first ∨ J.first + (rs.map Bs.s).length < (J.first + ((o.n % 12 : Nat) : Int) - 2) → r2 = r) (hq2 : ∀ m : Nat, 1 ≤ m → m ≤ (rs.map Bs.s).length → (J.first + ((o.n % 12 : Nat) : Int) - 2) = J.first + m → r2.Area r (J.fi + (nextF (1 - J.gen % 2) (D.seen J.fi k)) % 2 * ((k / 2 : Nat) : Int)) (areaS (nextF (1 - J.gen % 2) (D.seen J.fi k)) (J.first + ((o.n % 12 : Nat) : Int) - 2) ((rs.map Bs.s).drop m))) (b10 : Nat) (b11 : Nat), W 7 #[true, true, true, true, true, true, true, true, true, true, false, false, false, false, true, true, false, false, false] ⟨224, []⟩ [(0, .pointer (some ⟨bx, 0, none⟩)), (19, .int .i64 e2), (20, .pointer (some ⟨b10, 0, none⟩)), (21, .pointer (some ⟨b11, 0, none⟩)), (192, .tuple #[.agg r2.cells.toArray, .agg (rjc J3 Ar2 cr2 es2.length).toArray, .int .i64 e3])] [blk b11 [.int .i64 0, .int .i64 0, .int .i64 0, .int .i64 0, .int .i64 0, .int .i64 0, .slice none 0 0, .int .i64 0, .int .i64 0] 41, blk b10 [.slice none 0 0, .slice none 0 0, .int .i64 0, .bool false, .int .i64 0] 39, own (.slice r2.A r2.ds.length r2.c) 30 1 r2.ds.length (r2.ds.map Bs.v), rowsC true r2.ds, own (.slice r2.Aw r2.ws.length r2.cw) 84 2 r2.ws.length (r2.ws.flatMap Wb.cells), rowsC true (r2.ws.map Wb.b), own (.slice Ar2 es2.length cr2) 30 1 es2.length (es2.map Bs.v), rowsC true es2, blk bx (wcl bd (.pointer (some ⟨bj, 0, none⟩)) r (rjc J Ar cr es.length) k) 43, blk bd (dcells D2 bm A2 c2) 77, mapC bm (dmap D2.dur), own (.slice A2 D2.pend.length c2) 80 257 D2.pend.length (D2.pend.flatMap wcs), blk bj (jcells J2 bd Aj2 rs2.length cj2) 96, own (.slice Aj2 rs2.length cj2) 30 1 rs2.length (rs2.map Bs.v), rowsC true rs2, blk b1 o.cells 32, frameC w0 (MutF [blk bx (wcl bd (.pointer (some ⟨bj, 0, none⟩)) r (rjc J Ar cr es.length) k) 43, blk bd (dcells D bm A c) 77, mapC bm (dmap D.dur), own (.slice A D.pend.length c) 80 257 D.pend.length (D.pend.flatMap wcs), blk bj (jcells J bd Aj rs.length cj) 96, own (.slice Aj rs.length cj) 30 1 rs.length (rs.map Bs.v), rowsC true rs, own (.slice r.A r.ds.length r.c) 30 1 r.ds.length (r.ds.map Bs.v), rowsC true r.ds, own (.slice r.Aw r.ws.length r.cw) 84 2 r.ws.length (r.ws.flatMap Wb.cells), rowsC true (r.ws.map Wb.b), own (.slice Ar es.length cr) 30 1 es.length (es.map Bs.v), rowsC true es])] := by
     intro r2 J3 Ar2 cr2 es2 e3 htr hw3 hq1 hq2 b10 b11
     subst hW
     refine W90 ?_
     refine W343 ?_
     refine W120 ?_
     refine W151 ?_
     refine W152 ?_
     refine W100 ?_
     refine W19 ?_
     refine W303 ?_
     refine WX.regs (L' := [(0, _), (19, _), (20, _), (21, _), (22, _)]) ?_
     refine W327 ?_
     refine W211 ?_
     refine W344 ?_
     refine W156 ?_
     refine W157 ?_
     refine W131 ?_
     refine W158 ?_
     refine W159 ?_
     refine W160 ?_
     refine W161 ?_
     refine W162 ?_
     refine W19 ?_
     refine W212 ?_
     have hsm := p5.same htr
     obtain ⟨rfl, hes3, _⟩ := id hsm
     refine WX.regs (L' := [(19, _), (22, _)]) ?_
     refine W299 ?_
     refine W42 ?_
     rw [show decide (e2 = e3) = true from decide_eq_true hsm.2.2]
     refine W241 ?_
     refine W35 ?_
     refine W275 ?_
     exact Fin.ret1 xI (⟨⟨D2, A2, c2, J3, Aj2, cj2, rs2⟩, bj, r2, Ar2, cr2, es2⟩) (⟨⟨p4, p2, by show J3.fi = 3; rw [p5.fi, hfi], by show D2.n = 48; rw [p1, hn], by show D2.pend.length ≤ M + 600; omega, by show r2.ws.length ≤ M + 600; omega, p6.same hsame p1 hq1 hq2, hes3⟩, fun hk => by omega⟩) Tryz.results8 (.tmp rfl) xT (by simp)
    have st1111111110000011000 : ∀ (b10 : Nat) (b11 : Nat), W 8 #[true, true, true, true, true, true, true, true, true, false, false, false, false, false, true, true, false, false, false] ⟨224, []⟩ [(0, .pointer (some ⟨bx, 0, none⟩)), (19, .int .i64 e2), (20, .pointer (some ⟨b10, 0, none⟩)), (21, .pointer (some ⟨b11, 0, none⟩)), (186, .agg r.cells.toArray), (190, .agg (rjc J Ar cr es.length).toArray), (191, .int .i64 (J.first + ((o.n % 12 : Nat) : Int) - 2))] [blk b11 [.int .i64 0, .int .i64 0, .int .i64 0, .int .i64 0, .int .i64 0, .int .i64 0, .slice none 0 0, .int .i64 0, .int .i64 0] 41, blk b10 [.slice none 0 0, .slice none 0 0, .int .i64 0, .bool false, .int .i64 0] 39, blk bx (wcl bd (.pointer (some ⟨bj, 0, none⟩)) r (rjc J Ar cr es.length) k) 43, blk bd (dcells D2 bm A2 c2) 77, mapC bm (dmap D2.dur), own (.slice A2 D2.pend.length c2) 80 257 D2.pend.length (D2.pend.flatMap wcs), blk bj (jcells J2 bd Aj2 rs2.length cj2) 96, own (.slice Aj2 rs2.length cj2) 30 1 rs2.length (rs2.map Bs.v), rowsC true rs2, own (.slice r.A r.ds.length r.c) 30 1 r.ds.length (r.ds.map Bs.v), rowsC true r.ds, own (.slice r.Aw r.ws.length r.cw) 84 2 r.ws.length (r.ws.flatMap Wb.cells), rowsC true (r.ws.map Wb.b), own (.slice Ar es.length cr) 30 1 es.length (es.map Bs.v), rowsC true es, blk b1 o.cells 32, frameC w0 (MutF [blk bx (wcl bd (.pointer (some ⟨bj, 0, none⟩)) r (rjc J Ar cr es.length) k) 43, blk bd (dcells D bm A c) 77, mapC bm (dmap D.dur), own (.slice A D.pend.length c) 80 257 D.pend.length (D.pend.flatMap wcs), blk bj (jcells J bd Aj rs.length cj) 96, own (.slice Aj rs.length cj) 30 1 rs.length (rs.map Bs.v), rowsC true rs, own (.slice r.A r.ds.length r.c) 30 1 r.ds.length (r.ds.map Bs.v), rowsC true r.ds, own (.slice r.Aw r.ws.length r.cw) 84 2 r.ws.length (r.ws.flatMap Wb.cells), rowsC true (r.ws.map Wb.b), own (.slice Ar es.length cr) 30 1 es.length (es.map Bs.v), rowsC true es])] := by
     intro b10 b11
     subst hW
     refine WA.pick (l := [9]) (by kernel_rfl) rfl (fun i hi => ?_)
     simp only [List.mem_cons, List.not_mem_nil, or_false] at hi
     subst hi
     ·
      refine W219 ?_
      rintro ⟨r2, J3, Ar2, cr2, es2, e3⟩ ⟨htr, hw3, hq1, hq2⟩
      dsimp only at htr hw3 hq1 hq2
      exact WA.conv (by first | rfl | kernel_rfl) xR xT (st1111111111000011000 r2 J3 Ar2 cr2 es2 e3 htr hw3 hq1 hq2 b10 b11)
    have st1111111110000010000 : ∀ (b10 : Nat), W 9 #[true, true, true, true, true, true, true, true, true, false, false, false, false, false, true, false, false, false, false] ⟨224, []⟩ [(0, .pointer (some ⟨bx, 0, none⟩)), (19, .int .i64 e2), (20, .pointer (some ⟨b10, 0, none⟩)), (186, .agg r.cells.toArray), (190, .agg (rjc J Ar cr es.length).toArray), (191, .int .i64 (J.first + ((o.n % 12 : Nat) : Int) - 2))] [blk b10 [.slice none 0 0, .slice none 0 0, .int .i64 0, .bool false, .int .i64 0] 39, blk bx (wcl bd (.pointer (some ⟨bj, 0, none⟩)) r (rjc J Ar cr es.length) k) 43, blk bd (dcells D2 bm A2 c2) 77, mapC bm (dmap D2.dur), own (.slice A2 D2.pend.length c2) 80 257 D2.pend.length (D2.pend.flatMap wcs), blk bj (jcells J2 bd Aj2 rs2.length cj2) 96, own (.slice Aj2 rs2.length cj2) 30 1 rs2.length (rs2.map Bs.v), rowsC true rs2, own (.slice r.A r.ds.length r.c) 30 1 r.ds.length (r.ds.map Bs.v), rowsC true r.ds, own (.slice r.Aw r.ws.length r.cw) 84 2 r.ws.length (r.ws.flatMap Wb.cells), rowsC true (r.ws.map Wb.b), own (.slice Ar es.length cr) 30 1 es.length (es.map Bs.v), rowsC true es, blk b1 o.cells 32, frameC w0 (MutF [blk bx (wcl bd (.pointer (some ⟨bj, 0, none⟩)) r (rjc J Ar cr es.length) k) 43, blk bd (dcells D bm A c) 77, mapC bm (dmap D.dur), own (.slice A D.pend.length c) 80 257 D.pend.length (D.pend.flatMap wcs), blk bj (jcells J bd Aj rs.length cj) 96, own (.slice Aj rs.length cj) 30 1 rs.length (rs.map Bs.v), rowsC true rs, own (.slice r.A r.ds.length r.c) 30 1 r.ds.length (r.ds.map Bs.v), rowsC true r.ds, own (.slice r.Aw r.ws.length r.cw) 84 2 r.ws.length (r.ws.flatMap Wb.cells), rowsC true (r.ws.map Wb.b), own (.slice Ar es.length cr) 30 1 es.length (es.map Bs.v), rowsC true es])] := by
     intro b10
     subst hW
     refine WA.pick (l := [9, 15]) (by kernel_rfl) rfl (fun i hi => ?_)
     simp only [List.mem_cons, List.not_mem_nil, or_false] at hi
     rcases hi with rfl | rfl
     ·
      refine W219 ?_
      rintro ⟨r2, J3, Ar2, cr2, es2, e3⟩ ⟨htr, hw3, hq1, hq2⟩
      dsimp only at htr hw3 hq1 hq2
      exact WA.conv (by first | rfl | kernel_rfl) xR xT (st1111111111000010000 r2 J3 Ar2 cr2 es2 e3 htr hw3 hq1 hq2 b10)
     ·
      refine WA.one1 rfl rfl (op_alloc ti41 (lt_ rfl)) (fun _ b => xT) fun b11 => ?_
      exact WA.conv (by first | rfl | kernel_rfl) xR xT (st1111111110000011000 b10 b11)
    have st1111111111000001000 : ∀ (r2 : Rd) (J3 : Jn) (Ar2 : Option Addr) (cr2 : Nat) (es2 : List Bs) (e3 : Int) (htr : TrO k J J3 (rs.map Bs.s) (es2.map Bs.s) (J.first + ((o.n % 12 : Nat) : Int) - 2) (nextF (1 - J.gen % 2) (D.seen J.fi k)) e3) (hw3 : r2.ws.length ≤ r.ws.length) (hq1 : (J.first + ((o.n % 12 : Nat) : Int) - 2) ≤ J.first ∨ J.first + (rs.map Bs.s).length < (J.first + ((o.n % 12 : Nat) : Int) - 2) → r2 = r) (hq2 : ∀ m : Nat, 1 ≤ m → m ≤ (rs.map Bs.s).length → (J.first + ((o.n % 12 : Nat) : Int) - 2) = J.first + m → r2.Area r (J.fi + (nextF (1 - J.gen % 2) (D.seen J.fi k)) % 2 * ((k / 2 : Nat) : Int)) (areaS (nextF (1 - J.gen % 2) (D.seen J.fi k)) (J.first + ((o.n % 12 : Nat) : Int) - 2) ((rs.map Bs.s).drop m))) (b11 : Nat), W 8 #[true, true, true, true, true, true, true, true, true, true, false, false, false, false, false, true, false, false, false] ⟨224, []⟩ [(0, .pointer (some ⟨bx, 0, none⟩)), (19, .int .i64 e2), (21, .pointer (some ⟨b11, 0, none⟩)), (192, .tuple #[.agg r2.cells.toArray, .agg (rjc J3 Ar2 cr2 es2.length).toArray, .int .i64 e3])] [blk b11 [.int .i64 0, .int .i64 0, .int .i64 0, .int .i64 0, .int .i64 0, .int .i64 0, .slice none 0 0, .int .i64 0, .int .i64 0] 41, own (.slice r2.A r2.ds.length r2.c) 30 1 r2.ds.length (r2.ds.map Bs.v), rowsC true r2.ds, own (.slice r2.Aw r2.ws.length r2.cw) 84 2 r2.ws.length (r2.ws.flatMap Wb.cells), rowsC true (r2.ws.map Wb.b), own (.slice Ar2 es2.length cr2) 30 1 es2.length (es2.map Bs.v), rowsC true es2, blk bx (wcl bd (.pointer (some ⟨bj, 0, none⟩)) r (rjc J Ar cr es.length) k) 43, blk bd (dcells D2 bm A2 c2) 77, mapC bm (dmap D2.dur), own (.slice A2 D2.pend.length c2) 80 257 D2.pend.length (D2.pend.flatMap wcs), blk bj (jcells J2 bd Aj2 rs2.length cj2) 96, own (.slice Aj2 rs2.length cj2) 30 1 rs2.length (rs2.map Bs.v), rowsC true rs2, blk b1 o.cells 32, frameC w0 (MutF [blk bx (wcl bd (.pointer (some ⟨bj, 0, none⟩)) r (rjc J Ar cr es.length) k) 43, blk bd (dcells D bm A c) 77, mapC bm (dmap D.dur), own (.slice A D.pend.length c) 80 257 D.pend.length (D.pend.flatMap wcs), blk bj (jcells J bd Aj rs.length cj) 96, own (.slice Aj rs.length cj) 30 1 rs.length (rs.map Bs.v), rowsC true rs, own (.slice r.A r.ds.length r.c) 30 1 r.ds.length (r.ds.map Bs.v), rowsC true r.ds, own (.slice r.Aw r.ws.length r.cw) 84 2 r.ws.length (r.ws.flatMap Wb.cells), rowsC true (r.ws.map Wb.b), own (.slice Ar es.length cr) 30 1 es.length (es.map Bs.v), rowsC true es])] := by
     intro r2 J3 Ar2 cr2 es2 e3 htr hw3 hq1 hq2 b11
     subst hW
     refine W90 ?_
     refine W343 ?_
     refine W120 ?_
     refine WA.pick (l := [14]) (by kernel_rfl) rfl (fun i hi => ?_)
     simp only [List.mem_cons, List.not_mem_nil, or_false] at hi
     subst hi
     ·
      refine WA.one1 rfl rfl (op_alloc ti39 (lt_ rfl)) (fun _ b => xT) fun b10 => ?_
      exact WA.conv (by first | rfl | kernel_rfl) xR xT (st1111111111111111000 r2 J3 Ar2 cr2 es2 e3 htr hw3 hq1 hq2 b10 b11)
    have st1111111110000001000 : ∀ (b11 : Nat), W 9 #[true, true, true, true, true, true, true, true, true, false, false, false, false, false, false, true, false, false, false] ⟨224, []⟩ [(0, .pointer (some ⟨bx, 0, none⟩)), (19, .int .i64 e2), (21, .pointer (some ⟨b11, 0, none⟩)), (186, .agg r.cells.toArray), (190, .agg (rjc J Ar cr es.length).toArray), (191, .int .i64 (J.first + ((o.n % 12 : Nat) : Int) - 2))] [blk b11 [.int .i64 0, .int .i64 0, .int .i64 0, .int .i64 0, .int .i64 0, .int .i64 0, .slice none 0 0, .int .i64 0, .int .i64 0] 41, blk bx (wcl bd (.pointer (some ⟨bj, 0, none⟩)) r (rjc J Ar cr es.length) k) 43, blk bd (dcells D2 bm A2 c2) 77, mapC bm (dmap D2.dur), own (.slice A2 D2.pend.length c2) 80 257 D2.pend.length (D2.pend.flatMap wcs), blk bj (jcells J2 bd Aj2 rs2.length cj2) 96, own (.slice Aj2 rs2.length cj2) 30 1 rs2.length (rs2.map Bs.v), rowsC true rs2, own (.slice r.A r.ds.length r.c) 30 1 r.ds.length (r.ds.map Bs.v), rowsC true r.ds, own (.slice r.Aw r.ws.length r.cw) 84 2 r.ws.length (r.ws.flatMap Wb.cells), rowsC true (r.ws.map Wb.b), own (.slice Ar es.length cr) 30 1 es.length (es.map Bs.v), rowsC true es, blk b1 o.cells 32, frameC w0 (MutF [blk bx (wcl bd (.pointer (some ⟨bj, 0, none⟩)) r (rjc J Ar cr es.length) k) 43, blk bd (dcells D bm A c) 77, mapC bm (dmap D.dur), own (.slice A D.pend.length c) 80 257 D.pend.length (D.pend.flatMap wcs), blk bj (jcells J bd Aj rs.length cj) 96, own (.slice Aj rs.length cj) 30 1 rs.length (rs.map Bs.v), rowsC true rs, own (.slice r.A r.ds.length r.c) 30 1 r.ds.length (r.ds.map Bs.v), rowsC true r.ds, own (.slice r.Aw r.ws.length r.cw) 84 2 r.ws.length (r.ws.flatMap Wb.cells), rowsC true (r.ws.map Wb.b), own (.slice Ar es.length cr) 30 1 es.length (es.map Bs.v), rowsC true es])] := by
     intro b11
     subst hW
     refine WA.pick (l := [9, 14]) (by kernel_rfl) rfl (fun i hi => ?_)
     simp only [List.mem_cons, List.not_mem_nil, or_false] at hi
     rcases hi with rfl | rfl
     ·
      refine W219 ?_
      rintro ⟨r2, J3, Ar2, cr2, es2, e3⟩ ⟨htr, hw3, hq1, hq2⟩
      dsimp only at htr hw3 hq1 hq2
      exact WA.conv (by first | rfl | kernel_rfl) xR xT (st1111111111000001000 r2 J3 Ar2 cr2 es2 e3 htr hw3 hq1 hq2 b11)
     ·
      refine WA.one1 rfl rfl (op_alloc ti39 (lt_ rfl)) (fun _ b => xT) fun b10 => ?_
      exact WA.conv (by first | rfl | kernel_rfl) xR xT (st1111111110000011000 b10 b11)
    subst hW
    refine WA.pick (l := [9, 14, 15]) (by kernel_rfl) rfl (fun i hi => ?_)
    simp only [List.mem_cons, List.not_mem_nil, or_false] at hi
    rcases hi with rfl | rfl | rfl
    ·
     refine W219 ?_
     rintro ⟨r2, J3, Ar2, cr2, es2, e3⟩ ⟨htr, hw3, hq1, hq2⟩
     dsimp only at htr hw3 hq1 hq2
     exact WA.conv (by first | rfl | kernel_rfl) xR xT (st1111111111000000000 r2 J3 Ar2 cr2 es2 e3 htr hw3 hq1 hq2)
    ·
     refine WA.one1 rfl rfl (op_alloc ti39 (lt_ rfl)) (fun _ b => xT) fun b10 => ?_
     exact WA.conv (by first | rfl | kernel_rfl) xR xT (st1111111110000010000 b10)
    ·
     refine WA.one1 rfl rfl (op_alloc ti41 (lt_ rfl)) (fun _ b => xT) fun b11 => ?_
     exact WA.conv (by first | rfl | kernel_rfl) xR xT (st1111111110000001000 b11)
   ·
    exfalso; omega
end Go.Proofs.YtkjlbedebmffgaaGreat.Sx
