import Derived.Test.YthephcghglldaaaS28
import Derived.Test.YthephcghglldaaaS34
set_option linter.unusedVariables false
set_option linter.unusedSimpArgs false
namespace Go.Proofs.Ythephcghglldaaa.Sx
open Go.RowKit Go.Proofs.Ythephcghglldaaa.Ty
attribute [local irreducible] blk own rd rx frameC

section
variable {P : Program} {n : Nat} {L : List (Nat × Value)} {H : List Ch} {d : Nat} {ty : TypeId} {pos : String} {af : Array Edge} {g : Option (Nat × Bool)} {x : Operand} {src dst : TypeId}
theorem op_conv16i {a : Int} (hs : (P.underlying src).isSome = true) (hd : P.underlying dst = some (.int .i64)) (hn : d < n) (hx : evr L x = some (.int .u16 a)) (h0 : 0 ≤ a ∧ a < 65536) :
    Val P ⟨some d, .convert src dst x, ty, pos, af, g⟩ n L H d (.int .i64 a) := by
  have h := op_conv (P := P) (H := H) (ty := ty) (pos := pos) (af := af) (g := g) (k := .u16) hs hd hn hx
  have e : IntKind.i64.wrap a = a := by rw [IntKind.wrap_i64]; omega
  rw [e] at h
  exact h
end
theorem bvs_rep0 (k : Nat) : (List.replicate k (Value.int .u8 0)) = bvs (List.replicate k 0) := by simp [bvs, bv]
set_option maxHeartbeats 400000 in
set_option maxRecDepth 10000 in
theorem f8_spec (less : Nat) (hls : less < 65536) (c : UInt8) :
    Spec Try.prog 8 [.int .u16 (less : Int), bv c] [] [] (R := Bool) (fun b => b = true) (fun b => .bool b) (fun _ => []) := by
  refine Spec.intro Try.func8 Try.ntmps8 rfl (by simp) (by simp) fun w0 => ?_
  refine WC.seq ?_
  refine WC.region ?_
  refine wlv (op_assign (by decide) rfl) rfl ?_
  refine WL.nil ?_
  refine WX.regs (L' := [(0, _), (1, _)]) (by repeat (first | exact RS.nil | refine RS.cons rfl ?_)) ?_
  refine WX.next ?_
  refine WC.seq ?_
  refine WC.region ?_
  refine wlv (op_move (by decide) rfl) rfl ?_
  refine wlv (op_conv16i (by kernel_rfl) Try.underlying3 (by decide) rfl (by omega)) rfl ?_
  refine wlv (op_rem (by decide) rfl rfl (by omega) (by omega)) rfl ?_
  refine wlv (op_sub (by decide) rfl rfl (by omega)) rfl ?_
  obtain ⟨N, hN⟩ : ∃ N : Nat, (131372 : Int) - ((less : Nat) : Int) % 900 = (N : Int) := ⟨((131372 : Int) - ((less : Nat) : Int) % 900).toNat, by omega⟩
  have hN2 : 130000 ≤ N ∧ N ≤ 131372 := by omega
  rw [hN]
  refine wlv (op_assign (by decide) rfl) rfl ?_
  refine WL.nil ?_
  refine WX.regs (L' := [(1, _), (5, _)]) (by repeat (first | exact RS.nil | refine RS.cons rfl ?_)) ?_
  refine WX.next ?_
  refine WC.seq ?_
  refine WC.region ?_
  refine wlv (op_move (by decide) rfl) rfl ?_
  refine wl1 (op_make (z1 := (.int .u8 0)) (sz := 1) (zero := []) Try.underlying22 ti5 (by decide) rfl rfl (by omega) (by omega) (by omega) (by omega)) rfl fun b1 => ?_
  rw [Int.toNat_natCast]
  refine WL.blkEq (b := b1) (bvs (List.replicate N 0)) (by repeat (first | exact Take.here | apply Take.there)) (bvs_rep0 N) ?_
  refine WL.turn (c := blk b1 (bvs (List.replicate N 0)) 5) (d := own (.slice (some ⟨b1, 0, none⟩) N N) 5 1 N (bvs (List.replicate N 0))) (by repeat (first | exact Take.here | apply Take.there)) (own_le_blk (by rw [bvs_length, List.length_replicate]) (small_len (by omega))) ?_
  refine wlv (op_assign (by decide) rfl) rfl ?_
  refine WL.nil ?_
  refine WX.regs (L' := [(1, _), (5, _), (6, _)]) (by repeat (first | exact RS.nil | refine RS.cons rfl ?_)) ?_
  refine WX.next ?_
  refine WC.seq ?_
  refine WC.seq ?_
  refine WC.region ?_
  refine wlv (op_assign (by decide) rfl) rfl ?_
  refine WL.nil ?_
  refine WX.regs (L' := [(1, _), (5, _), (6, _), (7, _)]) (by repeat (first | exact RS.nil | refine RS.cons rfl ?_)) ?_
  refine WX.next ?_
  refine WC.block ?_
  refine WC.loop (X := Nat × List UInt8) (fun q => N - q.1) (fun q => q.1 ≤ N ∧ q.2.length = N) (fun q => [(1, bv c), (5, .int .i64 (N : Int)), (6, .slice (some ⟨b1, 0, none⟩) N N), (7, .int .i64 (q.1 : Int))]) (fun q => [own (.slice (some ⟨b1, 0, none⟩) N N) 5 1 N (bvs q.2), frameC w0 (MutF [])]) ((0, List.replicate N 0)) (⟨Nat.zero_le _, List.length_replicate ..⟩) (fun a w hs => hs.sub (by repeat (first | exact RS.nil | refine RS.cons (by first | rfl | exact congrArg (fun z : Int => some (Value.int .i64 z)) (by omega)) ?_)) (by repeat (first | exact Takes.nil | exact Take.here | apply Takes.cons | apply Take.there))) ?_
  rintro ⟨i, l⟩ ⟨hi, hl⟩
  try dsimp only at hi hl ⊢
  refine WC.seq ?_
  refine WC.seq ?_
  refine WC.region ?_
  refine wlv (op_move (by decide) rfl) rfl ?_
  refine wlv (op_move (by decide) rfl) rfl ?_
  refine wlv (op_lss (by decide) rfl rfl) rfl ?_
  refine WL.nil ?_
  refine WX.regs (L' := [(1, _), (5, _), (6, _), (7, _), (21, _)]) (by repeat (first | exact RS.nil | refine RS.cons rfl ?_)) ?_
  refine WX.next ?_
  refine WC.cond rfl (fun h1 => ?_) (fun h1 => ?_)
  ·
    refine WC.skip ?_
    refine WX.next ?_
    refine WC.seq ?_
    refine WC.block ?_
    refine WC.region ?_
    refine wlv (op_move (by decide) rfl) rfl ?_
    refine wlv (op_move (by decide) rfl) rfl ?_
    refine wlv (op_move (by decide) rfl) rfl ?_
    refine wlv (op_move (by decide) rfl) rfl ?_
    refine wlv (op_rem (by decide) rfl rfl (by omega) (by omega)) rfl ?_
    refine wlv (op_convByte (by kernel_rfl) Try.underlying5 (by decide) rfl (by omega)) rfl ?_
    refine wlv (op_add8 (by decide) rfl rfl) rfl ?_
    refine wlv (op_index Try.underlying22 sz5 (by decide) rfl rfl (by omega) (by omega) (by decide) (by first | (apply Src.rd; (repeat (first | exact List.Mem.head _ | apply List.Mem.tail)); done) | (apply Src.own; (repeat (first | exact List.Mem.head _ | apply List.Mem.tail)); done) | (apply Src.rx; (repeat (first | exact List.Mem.head _ | apply List.Mem.tail)); done))) rfl ?_
    refine wl (op_storeS sz5 rfl rfl (by repeat (first | exact Take.here | apply Take.there)) rfl rfl (by rw [bvs_length]; omega) (by decide)) rfl ?_
    change WL _ _ _ _ _ _ _
    refine WL.nil ?_
    refine WX.ownEq (v := .slice (some ⟨b1, 0, none⟩) N N) (bvs (l.set i (c + UInt8.ofNat (((i : Nat) : Int) % 7).toNat))) (by repeat (first | exact Take.here | apply Take.there)) (bvs_put (k := i) (by omega) (by omega)) ?_
    refine WX.regs (L' := [(1, _), (5, _), (6, _), (7, _)]) (by repeat (first | exact RS.nil | refine RS.cons rfl ?_)) ?_
    refine WX.in_normal ?_
    refine WX.next ?_
    refine WC.region ?_
    refine wlv (op_move (by decide) rfl) rfl ?_
    refine wlv (op_add (by decide) rfl rfl (by omega)) rfl ?_
    refine wlv (op_assign (by decide) rfl) rfl ?_
    refine WL.nil ?_
    refine WX.regs (L' := [(1, _), (5, _), (6, _), (7, _)]) (by repeat (first | exact RS.nil | refine RS.cons rfl ?_)) ?_
    refine WX.meet ((i + 1, l.set i (c + UInt8.ofNat (((i : Nat) : Int) % 7).toNat))) ⟨⟨by simp only []; omega, by simp only [List.length_set]; exact hl⟩, by simp only []; omega⟩ (fun a w hs => hs.sub (by repeat (first | exact RS.nil | refine RS.cons (by first | rfl | exact congrArg (fun z : Int => some (Value.int .i64 z)) (by omega)) ?_)) (by repeat (first | exact Takes.nil | exact Take.here | apply Takes.cons | apply Take.there)))
  ·
    refine WC.exit ?_
    refine WX.then_exit ?_
    refine WX.then_exit ?_
    refine WX.in_hit ?_
    refine WX.next ?_
    refine WC.seq ?_
    refine WC.region ?_
    refine wlv (op_move (by decide) rfl) rfl ?_
    refine wlv (op_build (cs := [.int .i64 0, .int .i64 0, .int .i64 0, .slice (some ⟨b1, 0, none⟩) N N]) (pv := [(3, _)]) (by decide) rfl (by kernel_rfl)) rfl ?_
    refine wlx (op_call (f28_spec 0 0 0 (some ⟨b1, 0, none⟩) N N l hl) ca28 (by decide) rfl (by apply Give.mk; (repeat (first | exact Takes.nil | exact Take.here | apply Takes.cons | apply Take.there)); repeat (first | exact Reads.nil | (apply Reads.rd; (focus (repeat (first | exact List.Mem.head _ | apply List.Mem.tail)); done)) | (apply Reads.own; (focus (repeat (first | exact List.Mem.head _ | apply List.Mem.tail)); done)) | (apply Reads.rx; (focus (repeat (first | exact List.Mem.head _ | apply List.Mem.tail)); done)) | (apply Reads.rows (e := false); (focus (repeat (first | exact List.Mem.head _ | apply List.Mem.tail)); done)) | (apply Reads.rows (e := true); (focus (repeat (first | exact List.Mem.head _ | apply List.Mem.tail)); done))))) rfl ?_
    rintro ⟨Al, cl, rs, el⟩ hrs
    dsimp only at hrs
    have hf0 : fineP 0 0 0 := by decide
    dsimp only
    refine wlv (op_move (by decide) rfl) rfl ?_
    refine wlv (op_extract (by decide) rfl rfl) rfl ?_
    refine wlv (op_extract (by decide) rfl rfl) rfl ?_
    refine wlv (op_assign (by decide) rfl) rfl ?_
    refine wlv (op_assign (by decide) rfl) rfl ?_
    refine WL.nil ?_
    refine WX.regs (L' := [(5, _), (6, _), (8, _), (9, _)]) (by repeat (first | exact RS.nil | refine RS.cons rfl ?_)) ?_
    refine WX.next ?_
    refine WC.seq ?_
    refine WC.seq ?_
    refine WC.region ?_
    refine wlx (op_call (f18_spec) ca18 (by decide) rfl (by apply Give.mk; (repeat (first | exact Takes.nil | exact Take.here | apply Takes.cons | apply Take.there)); repeat (first | exact Reads.nil | (apply Reads.rd; (focus (repeat (first | exact List.Mem.head _ | apply List.Mem.tail)); done)) | (apply Reads.own; (focus (repeat (first | exact List.Mem.head _ | apply List.Mem.tail)); done)) | (apply Reads.rx; (focus (repeat (first | exact List.Mem.head _ | apply List.Mem.tail)); done)) | (apply Reads.rows (e := false); (focus (repeat (first | exact List.Mem.head _ | apply List.Mem.tail)); done)) | (apply Reads.rows (e := true); (focus (repeat (first | exact List.Mem.head _ | apply List.Mem.tail)); done))))) rfl ?_
    rintro _ _
    refine wlv (op_not (by decide) rfl) rfl ?_
    refine wlv (op_move (by decide) rfl) rfl ?_
    refine wlgv (op_move (by decide) rfl) rfl rfl rfl ?_
    refine wlgv (op_gtr (by decide) rfl rfl) rfl rfl rfl ?_
    refine wlv (op_pickF (by decide) rfl rfl) rfl ?_
    refine WL.nil ?_
    refine WX.regs (L' := [(5, _), (6, _), (8, _), (9, _), (43, _)]) (by repeat (first | exact RS.nil | refine RS.cons rfl ?_)) ?_
    refine WX.next ?_
    refine WC.cond rfl (fun h2 => ?_) (fun h2 => ?_)
    ·
      have hsp : split 0 0 0 l = ([], 5) := by unfold split; rw [if_neg (fun k => k hf0), if_pos (by omega)]
      rw [hsp, Prod.mk.injEq] at hrs
      obtain ⟨hr0, rfl⟩ := hrs
      obtain rfl : rs = [] := List.map_eq_nil_iff.1 hr0
      refine WC.seq ?_
      refine WC.region ?_
      refine wlx (op_call (f18_spec) ca18 (by decide) rfl (by apply Give.mk; (repeat (first | exact Takes.nil | exact Take.here | apply Takes.cons | apply Take.there)); repeat (first | exact Reads.nil | (apply Reads.rd; (focus (repeat (first | exact List.Mem.head _ | apply List.Mem.tail)); done)) | (apply Reads.own; (focus (repeat (first | exact List.Mem.head _ | apply List.Mem.tail)); done)) | (apply Reads.rx; (focus (repeat (first | exact List.Mem.head _ | apply List.Mem.tail)); done)) | (apply Reads.rows (e := false); (focus (repeat (first | exact List.Mem.head _ | apply List.Mem.tail)); done)) | (apply Reads.rows (e := true); (focus (repeat (first | exact List.Mem.head _ | apply List.Mem.tail)); done))))) rfl ?_
      rintro _ _
      refine wlv (op_move (by decide) rfl) rfl ?_
      refine wlgv (op_move (by decide) rfl) rfl rfl rfl ?_
      refine wlgv (op_eql (by decide) rfl rfl) rfl rfl rfl ?_
      refine wlv (op_pickT (by decide) rfl rfl) rfl ?_
      refine wlv (op_move (by decide) rfl) rfl ?_
      refine WL.split (t := 49) rfl (fun g49 => ?_) (fun g49 => ?_)
      ·
        refine wlgv (op_move (by decide) rfl) rfl rfl rfl ?_
        refine wlgv (op_len Try.underlying52 (by decide) rfl) rfl rfl rfl ?_
        refine wlgv (op_eql (by decide) rfl rfl) rfl rfl rfl ?_
        refine wlv (op_pickT (by decide) rfl rfl) rfl ?_
        refine wlv (op_assign (by decide) rfl) rfl ?_
        refine WL.nil ?_
        refine WX.regs (L' := [(4, _)]) (by repeat (first | exact RS.nil | refine RS.cons rfl ?_)) ?_
        refine WX.next ?_
        refine WC.ret ?_
        refine WX.then_ret ?_
        exact Fin.ret1 (by first | exact .inl rfl | exact .inr rfl) (_) (rfl) Try.results8 (.tmp rfl) (by repeat (first | exact Takes.nil | exact Take.here | apply Takes.cons | apply Take.there)) (by simp)
      ·
        exact absurd rfl g49
    ·
      have hsp : split 0 0 0 l = (sects 0 0 0 l, 0) := by unfold split; rw [if_neg (fun k => k hf0), if_neg (by omega)]
      rw [hsp, Prod.mk.injEq] at hrs
      obtain ⟨hsr, rfl⟩ := hrs
      have hrl : rs.length = need l.length := by rw [← sects_length 0 0 0 l, ← hsr, List.length_map]
      have hneed : need l.length = need N := by rw [hl]
      refine WC.skip ?_
      refine WX.next ?_
      refine WC.seq ?_
      refine WC.region ?_
      refine wlv (op_move (by decide) rfl) rfl ?_
      refine wlx (op_call (f34_spec Al rs.length cl rs rfl) ca34 (by decide) rfl (by apply Give.mk; (repeat (first | exact Takes.nil | exact Take.here | apply Takes.cons | apply Take.there)); repeat (first | exact Reads.nil | (apply Reads.rd; (focus (repeat (first | exact List.Mem.head _ | apply List.Mem.tail)); done)) | (apply Reads.own; (focus (repeat (first | exact List.Mem.head _ | apply List.Mem.tail)); done)) | (apply Reads.rx; (focus (repeat (first | exact List.Mem.head _ | apply List.Mem.tail)); done)) | (apply Reads.rows (e := false); (focus (repeat (first | exact List.Mem.head _ | apply List.Mem.tail)); done)) | (apply Reads.rows (e := true); (focus (repeat (first | exact List.Mem.head _ | apply List.Mem.tail)); done))))) rfl ?_
      rintro ⟨Ao, co, qo, no, eo⟩ hjo
      dsimp only at hjo
      rw [hsr, join_sects hf0 (by omega) (fun j hj => sects_at hj)] at hjo
      simp only [Prod.mk.injEq] at hjo
      obtain ⟨rfl, rfl, rfl⟩ := hjo
      dsimp only
      refine wlv (op_move (by decide) rfl) rfl ?_
      refine wlv (op_extract (by decide) rfl rfl) rfl ?_
      refine wlv (op_extract (by decide) rfl rfl) rfl ?_
      refine wlv (op_extract (by decide) rfl rfl) rfl ?_
      refine wl1 (op_alloc ti50 (by decide)) rfl fun b2 => ?_
      refine wl (op_storeAll sz50 rfl rfl (by repeat (first | exact Take.here | apply Take.there)) (by first | rfl | (simp [Value.cells]; done) | (simp [Value.cells]; omega)) (by first | rfl | exact wvs_one _ | exact bvs_one _) (by first | rfl | (simp [Value.cells]; done) | (simp [Value.cells]; omega))) rfl ?_
      change WL _ _ _ _ _ _ _
      refine wlv (op_assign (by decide) rfl) rfl ?_
      refine wlv (op_assign (by decide) rfl) rfl ?_
      refine WL.nil ?_
      refine WX.regs (L' := [(5, _), (6, _), (8, _), (9, _), (10, _), (11, _), (12, _)]) (by repeat (first | exact RS.nil | refine RS.cons rfl ?_)) ?_
      refine WX.next ?_
      refine WC.seq ?_
      refine WC.region ?_
      refine wlv (op_move (by decide) rfl) rfl ?_
      refine wlv (op_eql (by decide) rfl rfl) rfl ?_
      refine wlv (op_move (by decide) rfl) rfl ?_
      refine WL.split (t := 62) rfl (fun g62 => ?_) (fun g62 => ?_)
      ·
        refine wlgv (op_move (by decide) rfl) rfl rfl rfl ?_
        refine wlgv (op_len Try.underlying52 (by decide) rfl) rfl rfl rfl ?_
        refine wlgv (op_move (by decide) rfl) rfl rfl rfl ?_
        refine wlgx (op_call (f33_spec N (by omega)) ca33 (by decide) rfl (by apply Give.mk; (repeat (first | exact Takes.nil | exact Take.here | apply Takes.cons | apply Take.there)); repeat (first | exact Reads.nil | (apply Reads.rd; (focus (repeat (first | exact List.Mem.head _ | apply List.Mem.tail)); done)) | (apply Reads.own; (focus (repeat (first | exact List.Mem.head _ | apply List.Mem.tail)); done)) | (apply Reads.rx; (focus (repeat (first | exact List.Mem.head _ | apply List.Mem.tail)); done)) | (apply Reads.rows (e := false); (focus (repeat (first | exact List.Mem.head _ | apply List.Mem.tail)); done)) | (apply Reads.rows (e := true); (focus (repeat (first | exact List.Mem.head _ | apply List.Mem.tail)); done))))) rfl rfl rfl ?_
        rintro _ _
        refine wlgv (op_eql (by decide) rfl rfl) rfl rfl rfl ?_
        refine wlv (op_pickT (by decide) rfl rfl) rfl ?_
        refine wlv (op_move (by decide) rfl) rfl ?_
        refine WL.split (t := 69) rfl (fun g69 => ?_) (fun g69 => ?_)
        ·
          refine wlgv (op_move (by decide) rfl) rfl rfl rfl ?_
          refine wlgv (op_eql (by decide) rfl rfl) rfl rfl rfl ?_
          refine wlv (op_pickT (by decide) rfl rfl) rfl ?_
          refine wlv (op_move (by decide) rfl) rfl ?_
          refine WL.split (t := 73) rfl (fun g73 => ?_) (fun g73 => ?_)
          ·
            refine wlgv (op_move (by decide) rfl) rfl rfl rfl ?_
            refine wlgv (op_move (by decide) rfl) rfl rfl rfl ?_
            refine wlgv (op_len Try.underlying52 (by decide) rfl) rfl rfl rfl ?_
            refine wlgv (op_eql (by decide) rfl rfl) rfl rfl rfl ?_
            refine wlv (op_pickT (by decide) rfl rfl) rfl ?_
            refine wlv (op_move (by decide) rfl) rfl ?_
            refine WL.split (t := 79) rfl (fun g79 => ?_) (fun g79 => ?_)
            ·
              refine wlgv (op_fieldAddr fo50_3 (by decide) rfl) rfl rfl rfl ?_
              refine wlgv (op_load1 fl22 (by decide) rfl (by repeat (first | exact List.Mem.head _ | apply List.Mem.tail)) rfl) rfl rfl rfl ?_
              refine wlgv (op_bytesStr Try.underlying22 Try.underlying5 Try.underlying9 (by decide) rfl (by first | (apply Src.rd; (repeat (first | exact List.Mem.head _ | apply List.Mem.tail)); done) | (apply Src.own; (repeat (first | exact List.Mem.head _ | apply List.Mem.tail)); done) | (apply Src.rx; (repeat (first | exact List.Mem.head _ | apply List.Mem.tail)); done))) rfl rfl rfl ?_
              refine wlgv (op_move (by decide) rfl) rfl rfl rfl ?_
              refine wlgv (op_bytesStr Try.underlying22 Try.underlying5 Try.underlying9 (by decide) rfl (by first | (apply Src.rd; (repeat (first | exact List.Mem.head _ | apply List.Mem.tail)); done) | (apply Src.own; (repeat (first | exact List.Mem.head _ | apply List.Mem.tail)); done) | (apply Src.rx; (repeat (first | exact List.Mem.head _ | apply List.Mem.tail)); done))) rfl rfl rfl ?_
              refine wlgv (op_eqls (by decide) rfl rfl) rfl rfl rfl ?_
              refine wlv (op_pickT (by decide) rfl rfl) rfl ?_
              refine wlv (op_assign (by decide) rfl) rfl ?_
              refine WL.nil ?_
              refine WX.regs (L' := [(4, _)]) (by repeat (first | exact RS.nil | refine RS.cons rfl ?_)) ?_
              refine WX.next ?_
              refine WC.ret ?_
              exact Fin.ret1 (by first | exact .inl rfl | exact .inr rfl) (_) (decide_eq_true rfl) Try.results8 (.tmp rfl) (by repeat (first | exact Takes.nil | exact Take.here | apply Takes.cons | apply Take.there)) (by simp)
            ·
              omega
          ·
            exact absurd rfl g73
        ·
          omega
      ·
        exact absurd rfl g62
end Go.Proofs.Ythephcghglldaaa.Sx
