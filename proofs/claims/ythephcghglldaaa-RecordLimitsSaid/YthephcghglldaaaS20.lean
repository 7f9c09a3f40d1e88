import Derived.Test.YthephcghglldaaaS19
set_option linter.unusedVariables false
set_option linter.unusedSimpArgs false
namespace Go.Proofs.Ythephcghglldaaa.Sx
open Go.RowKit Go.Proofs.Ythephcghglldaaa.Ty
attribute [local irreducible] blk own rd rx frameC

def z256 : List UInt8 := List.replicate 256 0
def z300 : List UInt8 := List.replicate 300 0
theorem sha_zeros : ¬ (sha (z256.drop 16)).take 16 = z256.take 16 := by decide +kernel
set_option maxRecDepth 20000 in
theorem known_scan : scan 0 0 [z256] = ([], 0, 22) := by
  have hd : dec z256 = (pt0, 22) := dec_sum (by rfl) sha_zeros
  have hj : join [z256] = (rc0, 0, 22) := join_first (p := pt0) (by simp) rfl hd.symm (by decide)
  unfold scan
  rw [if_neg (by decide)]
  exact scanF_err (fuel := 0) (by decide) (show (rc0, 0, 22) = join [z256] from hj.symm) (by decide)
set_option maxRecDepth 20000 in
theorem known_split : split 1 2 3 z300 = ([sect 1 2 3 z300 0, sect 1 2 3 z300 1], 0) := by
  unfold split
  rw [if_neg (by decide), if_neg (by rw [show z300.length = 300 from rfl]; omega)]
  unfold sects
  rw [show need z300.length = 2 from rfl]
  rfl
theorem sect_at (x : List UInt8) (j : Nat) (h : j < 240) : (sealB x).getD (16 + j) 0 = (sealR x).getD j 0 := by
  unfold sealB
  have h16 : ((sha (sealR x)).take 16).length = 16 := by simp [sha_length]
  simp [List.getD_eq_getElem?_getD, List.getElem?_append, h16]
  rw [if_neg (by omega)]
set_option maxRecDepth 20000 in
theorem known_bytes : (sect 1 2 3 z300 1).getD 27 0 = 1 ∧ (sect 1 2 3 z300 1).getD 31 0 = 76 := by
  constructor
  · exact (sect_at _ 11 (by decide)).trans (by decide +kernel)
  · exact (sect_at _ 15 (by decide)).trans (by decide +kernel)
theorem rows_two {rs : List Bs} {x y : List UInt8} (h : rs.map Bs.s = [x, y]) : ∃ a b, rs = [a, b] ∧ a.s = x ∧ b.s = y := by
  match rs, h with
  | [a, b], h =>
    simp only [List.map_cons, List.map_nil, List.cons.injEq, and_true] at h
    exact ⟨a, b, rfl, h.1, h.2⟩
set_option maxHeartbeats 400000 in
set_option maxRecDepth 10000 in
theorem f18_spec :
    Spec Try.prog 18 [] [] [] (R := Unit) (fun _ => True) (fun _ => .bool true) (fun _ => []) := by
  refine Spec.intro Try.func18 Try.ntmps18 rfl (by simp) (by simp) fun w0 => ?_
  refine WC.seq ?_
  refine WC.region ?_
  refine wlv (op_assign (by decide) rfl) rfl ?_
  refine WL.nil ?_
  refine WX.regs (L' := []) (by repeat (first | exact RS.nil | refine RS.cons rfl ?_)) ?_
  refine WX.next ?_
  refine WC.seq ?_
  refine WC.region ?_
  refine wl1 (op_make (z1 := (.int .u8 0)) (sz := 1) (zero := []) Try.underlying22 ti5 (by decide) rfl rfl (by omega) (by omega) (by omega) (by omega)) rfl fun b1 => ?_
  refine WL.turn (c := blk b1 (List.replicate 300 (.int .u8 0)) 5) (d := rd (.slice (some ⟨b1, 0, none⟩) 300 300) 1 300 (bvs z300)) (by repeat (first | exact Take.here | apply Take.there)) (blk_whole_rd (by rfl) (by decide)) ?_
  refine wlv (op_build (cs := [.int .i64 1, .int .i64 2, .int .i64 3, .slice (some ⟨b1, 0, none⟩) 300 300]) (pv := [(0, _), (1, _), (2, _), (3, _)]) (by decide) rfl (by kernel_rfl)) rfl ?_
  refine wlx (op_call (f28_spec 1 2 3 (some ⟨b1, 0, none⟩) 300 300 z300 (by rfl)) ca28 (by decide) rfl (by apply Give.mk; (repeat (first | exact Takes.nil | exact Take.here | apply Takes.cons | apply Take.there)); repeat (first | exact Reads.nil | (apply Reads.rd; (focus (repeat (first | exact List.Mem.head _ | apply List.Mem.tail)); done)) | (apply Reads.own; (focus (repeat (first | exact List.Mem.head _ | apply List.Mem.tail)); done)) | (apply Reads.rx; (focus (repeat (first | exact List.Mem.head _ | apply List.Mem.tail)); done)) | (apply Reads.rows (e := false); (focus (repeat (first | exact List.Mem.head _ | apply List.Mem.tail)); done)) | (apply Reads.rows (e := true); (focus (repeat (first | exact List.Mem.head _ | apply List.Mem.tail)); done))))) rfl ?_
  rintro ⟨Al, cl, rs, el⟩ hl
  dsimp only at hl
  rw [known_split, Prod.mk.injEq] at hl
  obtain ⟨r0, r1, hr01, hr0, hr1⟩ := rows_two hl.1
  obtain rfl := hr01
  obtain rfl : el = 0 := hl.2
  have hl0 : r0.s.length = 256 := by rw [hr0]; exact enc_length _ _ _ _ _ _
  have hl1 : r1.s.length = 256 := by rw [hr1]; exact enc_length _ _ _ _ _ _
  have hb1 : r1.s.getD 27 0 = 1 := by rw [hr1]; exact known_bytes.1
  have hb2 : r1.s.getD 31 0 = 76 := by rw [hr1]; exact known_bytes.2
  refine WL.turn (c := rowsC true [r0, r1]) (d := rd (.slice r1.A r1.s.length r1.c) 1 r1.s.length (bvs r1.s)) (by repeat (first | exact Take.here | apply Take.there)) (rowsC_get (r := r1) (by simp)) ?_
  dsimp only
  refine wlv (op_move (by decide) rfl) rfl ?_
  refine wlv (op_extract (by decide) rfl rfl) rfl ?_
  refine wlv (op_extract (by decide) rfl rfl) rfl ?_
  refine wlv (op_assign (by decide) rfl) rfl ?_
  refine wlv (op_assign (by decide) rfl) rfl ?_
  refine WL.nil ?_
  refine WX.regs (L' := [(1, _), (2, _)]) (by repeat (first | exact RS.nil | refine RS.cons rfl ?_)) ?_
  refine WX.next ?_
  refine WC.seq ?_
  refine WC.region ?_
  refine wlx (op_call (f31_spec 225) ca31 (by decide) rfl (by apply Give.mk; (repeat (first | exact Takes.nil | exact Take.here | apply Takes.cons | apply Take.there)); repeat (first | exact Reads.nil | (apply Reads.rd; (focus (repeat (first | exact List.Mem.head _ | apply List.Mem.tail)); done)) | (apply Reads.own; (focus (repeat (first | exact List.Mem.head _ | apply List.Mem.tail)); done)) | (apply Reads.rx; (focus (repeat (first | exact List.Mem.head _ | apply List.Mem.tail)); done)) | (apply Reads.rows (e := false); (focus (repeat (first | exact List.Mem.head _ | apply List.Mem.tail)); done)) | (apply Reads.rows (e := true); (focus (repeat (first | exact List.Mem.head _ | apply List.Mem.tail)); done))))) rfl ?_
  rintro ⟨n1, f1⟩ hnf
  obtain ⟨rfl, rfl⟩ : n1 = 2 ∧ f1 = 0 := by have h : (n1, f1) = ((2 : Int), (0 : Int)) := hnf.trans (by decide); exact Prod.mk.inj h
  refine wlv (op_move (by decide) rfl) rfl ?_
  refine wlv (op_extract (by decide) rfl rfl) rfl ?_
  refine wlv (op_extract (by decide) rfl rfl) rfl ?_
  refine wlv (op_assign (by decide) rfl) rfl ?_
  refine wlv (op_assign (by decide) rfl) rfl ?_
  refine WL.nil ?_
  refine WX.regs (L' := [(1, _), (2, _), (3, _), (4, _)]) (by repeat (first | exact RS.nil | refine RS.cons rfl ?_)) ?_
  refine WX.next ?_
  refine WC.seq ?_
  refine WC.region ?_
  refine wl1 (op_make (z1 := (.int .u8 0)) (sz := 1) (zero := []) Try.underlying22 ti5 (by decide) rfl rfl (by omega) (by omega) (by omega) (by omega)) rfl fun b2 => ?_
  refine WL.turn (c := blk b2 (List.replicate 256 (.int .u8 0)) 5) (d := rd (.slice (some ⟨b2, 0, none⟩) 256 256) 1 256 (bvs z256)) (by repeat (first | exact Take.here | apply Take.there)) (blk_whole_rd (by rfl) (by decide)) ?_
  refine WL.nilrows false ?_
  refine WL.merge2 (c1 := rowsC false []) (c2 := rd (.slice (some ⟨b2, 0, none⟩) 256 256) 1 256 (bvs z256)) (d := rowsC false [(⟨some ⟨b2, 0, none⟩, 256, z256⟩ : Bs)]) (by repeat (first | exact Take.here | apply Take.there)) (by repeat (first | exact Take.here | apply Take.there)) (rowsC_snoc (rs := []) (rd_le_bs (by rfl)) (fun h => by cases h)) ?_
  refine wl1 (op_lit1 Try.underlying52 ti22 rfl (by decide) (by decide) rfl rfl) rfl fun b3 => ?_
  refine wlx (op_call (f39_spec 0 0 (some ⟨b3, 0, none⟩) 1 1 [(⟨some ⟨b2, 0, none⟩, 256, z256⟩ : Bs)] rfl (by decide)) ca39 (by decide) rfl (by apply Give.mk; (repeat (first | exact Takes.nil | exact Take.here | apply Takes.cons | apply Take.there)); repeat (first | exact Reads.nil | (apply Reads.rd; (focus (repeat (first | exact List.Mem.head _ | apply List.Mem.tail)); done)) | (apply Reads.own; (focus (repeat (first | exact List.Mem.head _ | apply List.Mem.tail)); done)) | (apply Reads.rx; (focus (repeat (first | exact List.Mem.head _ | apply List.Mem.tail)); done)) | (apply Reads.rows (e := false); (focus (repeat (first | exact List.Mem.head _ | apply List.Mem.tail)); done)) | (apply Reads.rows (e := true); (focus (repeat (first | exact List.Mem.head _ | apply List.Mem.tail)); done))))) rfl ?_
  rintro ⟨As, cs, ls, cnt, es⟩ hs
  dsimp only at hs
  rw [show ([(⟨some ⟨b2, 0, none⟩, 256, z256⟩ : Bs)]).map Bs.s = [z256] from rfl, known_scan, Prod.mk.injEq, Prod.mk.injEq] at hs
  obtain ⟨_, rfl, rfl⟩ := hs
  dsimp only
  refine wlv (op_move (by decide) rfl) rfl ?_
  refine wlv (op_extract (by decide) rfl rfl) rfl ?_
  refine wlv (op_extract (by decide) rfl rfl) rfl ?_
  refine wlv (op_extract (by decide) rfl rfl) rfl ?_
  refine wlv (op_assign (by decide) rfl) rfl ?_
  refine wlv (op_assign (by decide) rfl) rfl ?_
  refine wlv (op_assign (by decide) rfl) rfl ?_
  refine WL.nil ?_
  refine WX.regs (L' := [(1, _), (2, _), (3, _), (4, _), (6, _), (7, _)]) (by repeat (first | exact RS.nil | refine RS.cons rfl ?_)) ?_
  refine WX.next ?_
  refine WC.seq ?_
  refine WC.region ?_
  refine wlv (op_move (by decide) rfl) rfl ?_
  refine wlv (op_eql (by decide) rfl rfl) rfl ?_
  refine wlv (op_move (by decide) rfl) rfl ?_
  refine WL.split (t := 27) rfl (fun g27 => ?_) (fun g27 => ?_)
  ·
    refine wlgv (op_move (by decide) rfl) rfl rfl rfl ?_
    refine wlgv (op_len Try.underlying52 (by decide) rfl) rfl rfl rfl ?_
    refine wlgv (op_eql (by decide) rfl rfl) rfl rfl rfl ?_
    refine wlv (op_pickT (by decide) rfl rfl) rfl ?_
    refine wlv (op_move (by decide) rfl) rfl ?_
    refine WL.split (t := 32) rfl (fun g32 => ?_) (fun g32 => ?_)
    ·
      refine wlgv (op_move (by decide) rfl) rfl rfl rfl ?_
      refine wlgv (op_index Try.underlying52 sz22 (by decide) rfl rfl (by omega) (by simp) (by decide) (Src.own (by repeat (first | exact List.Mem.head _ | apply List.Mem.tail)))) rfl rfl rfl ?_
      refine wlgv (op_loadS fl22 (by decide) rfl (Src.own (by repeat (first | exact List.Mem.head _ | apply List.Mem.tail))) rfl) rfl rfl rfl ?_
      refine wlgv (op_len Try.underlying22 (by decide) rfl) rfl rfl rfl ?_
      refine wlgv (op_eql (by decide) rfl rfl) rfl rfl rfl ?_
      refine wlv (op_pickT (by decide) rfl rfl) rfl ?_
      refine wlv (op_move (by decide) rfl) rfl ?_
      refine WL.split (t := 39) rfl (fun g39 => ?_) (fun g39 => ?_)
      ·
        refine wlgv (op_move (by decide) rfl) rfl rfl rfl ?_
        refine wlgv (op_index Try.underlying52 sz22 (by decide) rfl rfl (by omega) (by simp) (by decide) (Src.own (by repeat (first | exact List.Mem.head _ | apply List.Mem.tail)))) rfl rfl rfl ?_
        refine wlgv (op_loadS fl22 (by decide) rfl (Src.own (by repeat (first | exact List.Mem.head _ | apply List.Mem.tail))) rfl) rfl rfl rfl ?_
        refine wlgv (op_index Try.underlying22 sz5 (by decide) rfl rfl (by omega) (by omega) (by decide) (by first | (apply Src.rd; (repeat (first | exact List.Mem.head _ | apply List.Mem.tail)); done) | (apply Src.own; (repeat (first | exact List.Mem.head _ | apply List.Mem.tail)); done) | (apply Src.rx; (repeat (first | exact List.Mem.head _ | apply List.Mem.tail)); done))) rfl rfl rfl ?_
        refine wlgv (op_loadS fl5 (by decide) rfl (by first | (apply Src.rd; (repeat (first | exact List.Mem.head _ | apply List.Mem.tail)); done) | (apply Src.own; (repeat (first | exact List.Mem.head _ | apply List.Mem.tail)); done) | (apply Src.rx; (repeat (first | exact List.Mem.head _ | apply List.Mem.tail)); done)) (bvs_at (k := 27) (by omega) (by omega))) rfl rfl rfl ?_
        refine wlgv (op_eql8 (b := 1) (by decide) rfl rfl) rfl rfl rfl ?_
        refine wlv (op_pickT (by decide) rfl rfl) rfl ?_
        refine wlv (op_move (by decide) rfl) rfl ?_
        refine WL.split (t := 47) rfl (fun g47 => ?_) (fun g47 => ?_)
        ·
          refine wlgv (op_move (by decide) rfl) rfl rfl rfl ?_
          refine wlgv (op_index Try.underlying52 sz22 (by decide) rfl rfl (by omega) (by simp) (by decide) (Src.own (by repeat (first | exact List.Mem.head _ | apply List.Mem.tail)))) rfl rfl rfl ?_
          refine wlgv (op_loadS fl22 (by decide) rfl (Src.own (by repeat (first | exact List.Mem.head _ | apply List.Mem.tail))) rfl) rfl rfl rfl ?_
          refine wlgv (op_index Try.underlying22 sz5 (by decide) rfl rfl (by omega) (by omega) (by decide) (by first | (apply Src.rd; (repeat (first | exact List.Mem.head _ | apply List.Mem.tail)); done) | (apply Src.own; (repeat (first | exact List.Mem.head _ | apply List.Mem.tail)); done) | (apply Src.rx; (repeat (first | exact List.Mem.head _ | apply List.Mem.tail)); done))) rfl rfl rfl ?_
          refine wlgv (op_loadS fl5 (by decide) rfl (by first | (apply Src.rd; (repeat (first | exact List.Mem.head _ | apply List.Mem.tail)); done) | (apply Src.own; (repeat (first | exact List.Mem.head _ | apply List.Mem.tail)); done) | (apply Src.rx; (repeat (first | exact List.Mem.head _ | apply List.Mem.tail)); done)) (bvs_at (k := 31) (by omega) (by omega))) rfl rfl rfl ?_
          refine wlgv (op_eql8 (b := 76) (by decide) rfl rfl) rfl rfl rfl ?_
          refine wlv (op_pickT (by decide) rfl rfl) rfl ?_
          refine wlv (op_move (by decide) rfl) rfl ?_
          refine WL.split (t := 55) rfl (fun g55 => ?_) (fun g55 => ?_)
          ·
            refine wlgv (op_move (by decide) rfl) rfl rfl rfl ?_
            refine wlgv (op_eql (by decide) rfl rfl) rfl rfl rfl ?_
            refine wlv (op_pickT (by decide) rfl rfl) rfl ?_
            refine wlv (op_move (by decide) rfl) rfl ?_
            refine WL.split (t := 59) rfl (fun g59 => ?_) (fun g59 => ?_)
            ·
              refine wlgv (op_move (by decide) rfl) rfl rfl rfl ?_
              refine wlgv (op_eql (by decide) rfl rfl) rfl rfl rfl ?_
              refine wlv (op_pickT (by decide) rfl rfl) rfl ?_
              refine wlv (op_move (by decide) rfl) rfl ?_
              refine WL.split (t := 63) rfl (fun g63 => ?_) (fun g63 => ?_)
              ·
                refine wlgv (op_move (by decide) rfl) rfl rfl rfl ?_
                refine wlgv (op_eql (by decide) rfl rfl) rfl rfl rfl ?_
                refine wlv (op_pickT (by decide) rfl rfl) rfl ?_
                refine wlv (op_move (by decide) rfl) rfl ?_
                refine WL.split (t := 67) rfl (fun g67 => ?_) (fun g67 => ?_)
                ·
                  refine wlgv (op_move (by decide) rfl) rfl rfl rfl ?_
                  refine wlgv (op_eql (by decide) rfl rfl) rfl rfl rfl ?_
                  refine wlv (op_pickT (by decide) rfl rfl) rfl ?_
                  refine wlv (op_move (by decide) rfl) rfl ?_
                  refine WL.split (t := 71) rfl (fun g71 => ?_) (fun g71 => ?_)
                  ·
                    refine wlg1 (op_make (z1 := (.int .u8 0)) (sz := 1) (zero := []) Try.underlying22 ti5 (by decide) rfl rfl (by omega) (by omega) (by omega) (by omega)) rfl rfl rfl fun b4 => ?_
                    refine WL.turn (c := blk b4 (List.replicate 5 (.int .u8 0)) 5) (d := rd (.slice (some ⟨b4, 0, none⟩) 5 5) 1 5 (bvs (List.replicate 5 0))) (by repeat (first | exact Take.here | apply Take.there)) (blk_whole_rd (by rfl) (by decide)) ?_
                    refine wlgx (op_call (f42_spec (some ⟨b4, 0, none⟩) 5 5 (List.replicate 5 0) rfl) ca42 (by decide) rfl (by apply Give.mk; (repeat (first | exact Takes.nil | exact Take.here | apply Takes.cons | apply Take.there)); repeat (first | exact Reads.nil | (apply Reads.rd; (focus (repeat (first | exact List.Mem.head _ | apply List.Mem.tail)); done)) | (apply Reads.own; (focus (repeat (first | exact List.Mem.head _ | apply List.Mem.tail)); done)) | (apply Reads.rx; (focus (repeat (first | exact List.Mem.head _ | apply List.Mem.tail)); done)) | (apply Reads.rows (e := false); (focus (repeat (first | exact List.Mem.head _ | apply List.Mem.tail)); done)) | (apply Reads.rows (e := true); (focus (repeat (first | exact List.Mem.head _ | apply List.Mem.tail)); done))))) rfl rfl rfl ?_
                    rintro _ rfl
                    refine wlv (op_pickT (by decide) rfl rfl) rfl ?_
                    refine wlv (op_move (by decide) rfl) rfl ?_
                    refine WL.splitb (t := 75) rfl (fun g75 => ?_) (fun g75 => ?_)
                    ·
                      refine wlg1 (op_buildSlice (cs := (bvs [0, 1])) Try.underlying22 ti5 (by decide) (pv := [(0, .int .u8 0), (1, .int .u8 1)]) (fun a h => by simp [Act.eval]) (by decide) (by decide) (by kernel_rfl) rfl) rfl rfl rfl fun b5 => ?_
                      refine wlgx (op_call (f42_spec (some ⟨b5, 0, none⟩) 2 2 [0, 1] rfl) ca42 (by decide) rfl (by apply Give.mk; (repeat (first | exact Takes.nil | exact Take.here | apply Takes.cons | apply Take.there)); repeat (first | exact Reads.nil | (apply Reads.rd; (focus (repeat (first | exact List.Mem.head _ | apply List.Mem.tail)); done)) | (apply Reads.own; (focus (repeat (first | exact List.Mem.head _ | apply List.Mem.tail)); done)) | (apply Reads.rx; (focus (repeat (first | exact List.Mem.head _ | apply List.Mem.tail)); done)) | (apply Reads.rows (e := false); (focus (repeat (first | exact List.Mem.head _ | apply List.Mem.tail)); done)) | (apply Reads.rows (e := true); (focus (repeat (first | exact List.Mem.head _ | apply List.Mem.tail)); done))))) rfl rfl rfl ?_
                      rintro _ rfl
                      refine wlgv (op_not (by decide) rfl) rfl rfl rfl ?_
                      refine wlv (op_pickT (by decide) rfl rfl) rfl ?_
                      refine wlv (op_assign (by decide) rfl) rfl ?_
                      refine WL.nil ?_
                      refine WX.regs (L' := [(0, _)]) (by repeat (first | exact RS.nil | refine RS.cons rfl ?_)) ?_
                      refine WX.next ?_
                      refine WC.ret ?_
                      exact Fin.ret1 (by first | exact .inl rfl | exact .inr rfl) (()) (trivial) Try.results18 (.tmp rfl) (by repeat (first | exact Takes.nil | exact Take.here | apply Takes.cons | apply Take.there)) (by simp)
                    ·
                      exact absurd g75 (by decide)
                  ·
                    first | omega | exact absurd rfl g71 | (exfalso; simp_all; done)
                ·
                  first | omega | exact absurd rfl g67 | (exfalso; simp_all; done)
              ·
                first | omega | exact absurd rfl g63 | (exfalso; simp_all; done)
            ·
              first | omega | exact absurd rfl g59 | (exfalso; simp_all; done)
          ·
            first | omega | exact absurd rfl g55 | (exfalso; simp_all; done)
        ·
          first | omega | exact absurd rfl g47 | (exfalso; simp_all; done)
      ·
        first | omega | exact absurd rfl g39 | (exfalso; simp_all; done)
    ·
      first | omega | exact absurd rfl g32 | (exfalso; simp_all; done)
  ·
    first | omega | exact absurd rfl g27 | (exfalso; simp_all; done)
end Go.Proofs.Ythephcghglldaaa.Sx
