import Derived.Test.YtkjlbedebmffgaaGreatNe
import Derived.Test.YtkjlbedebmffgaaGreatNc
set_option linter.unusedVariables false
set_option linter.unusedSimpArgs false
namespace Go.Proofs.YtkjlbedebmffgaaGreat.Sx
open Go.RowKit Go.Proofs.YtkjlbedebmffgaaGreat.Ty
attribute [local irreducible] blk own rd rx frameC
structure Pt where
 (k g n i c : Int)
 b : List UInt8
def pt0 : Pt := ⟨0, 0, 0, 0, 0, []⟩
def fld (bs : List UInt8) (o l : Nat) : Nat := vl ((bs.drop o).take l)
def decP (bs : List UInt8) : Pt := ⟨fld bs 24 2, fld bs 16 4, fld bs 20 4, fld bs 26 2, fld bs 28 2, (bs.drop 32).take (fld bs 30 2)⟩
def Pt.chk (p : Pt) : Int := Sx.chk p.k p.g p.n p.i p.c p.b.length
def dec (bs : List UInt8) : Pt × Int :=
 if bs.length < 256 then (pt0, 4)
 else if bs.length > 256 then (pt0, 5)
 else if ¬ (sha (bs.drop 16)).take 16 = bs.take 16 then (pt0, 22)
 else if fld bs 30 2 > 224 then (pt0, 3)
 else if ¬ (decP bs).chk = 0 ∨ blank (bs.drop (32 + fld bs 30 2)) = false then (pt0, 3)
 else (decP bs, 0)
section
variable {bs : List UInt8}
theorem dec_short (h : bs.length < 256) : dec bs = (pt0, 4) := by unfold dec; rw [if_pos h]
theorem dec_long (h : bs.length > 256) : dec bs = (pt0, 5) := by unfold dec; rw [if_neg (by omega), if_pos h]
theorem dec_sum (h : bs.length = 256) (h1 : ¬ (sha (bs.drop 16)).take 16 = bs.take 16) : dec bs = (pt0, 22) := by unfold dec; rw [if_neg (by omega), if_neg (by omega), if_pos h1]
theorem dec_len (h : bs.length = 256) (h1 : (sha (bs.drop 16)).take 16 = bs.take 16) (h2 : fld bs 30 2 > 224) : dec bs = (pt0, 3) := by unfold dec; rw [if_neg (by omega), if_neg (by omega), if_neg (fun k => k h1), if_pos h2]
theorem dec_bad (h : bs.length = 256) (h1 : (sha (bs.drop 16)).take 16 = bs.take 16) (h2 : ¬ fld bs 30 2 > 224) (h3 : ¬ (decP bs).chk = 0 ∨ blank (bs.drop (32 + fld bs 30 2)) = false) : dec bs = (pt0, 3) := by
 unfold dec; rw [if_neg (by omega), if_neg (by omega), if_neg (fun k => k h1), if_neg h2, if_pos h3]
theorem dec_ok (h : bs.length = 256) (h1 : (sha (bs.drop 16)).take 16 = bs.take 16) (h2 : ¬ fld bs 30 2 > 224) (h3 : (decP bs).chk = 0) (h4 : blank (bs.drop (32 + fld bs 30 2)) = true) : dec bs = (decP bs, 0) := by
 unfold dec; rw [if_neg (by omega), if_neg (by omega), if_neg (fun k => k h1), if_neg h2, if_neg (by rw [h4]; simp [h3])]
theorem decP_len (h : bs.length = 256) (h2 : ¬ fld bs 30 2 > 224) : (decP bs).b.length = fld bs 30 2 := by
 simp only [decP, List.length_take, List.length_drop]; omega
theorem getD_drop (a j : Nat) : (bs.drop a).getD j 0 = bs.getD (a + j) 0 := by simp [List.getD_eq_getElem?_getD]
theorem take_eq_step {xs ys : List UInt8} {i : Nat} (h : xs.take i = ys.take i) (hx : i < xs.length) (hy : i < ys.length) (he : xs.getD i 0 = ys.getD i 0) : xs.take (i + 1) = ys.take (i + 1) := by
 have he' : xs[i] = ys[i] := by simpa [hx, hy] using he
 rw [List.take_succ_eq_append_getElem hx, List.take_succ_eq_append_getElem hy, h, he']
theorem take_ne {xs ys : List UInt8} {i j : Nat} (hij : i < j) (hx : i < xs.length) (hy : i < ys.length) (he : ¬ xs.getD i 0 = ys.getD i 0) : ¬ xs.take j = ys.take j := by
 intro h
 apply he
 have := congrArg (fun l => l.getD i 0) h
 simpa [List.getD_eq_getElem?_getD, List.getElem?_take, hij] using this
end
set_option maxHeartbeats 400000 in
set_option maxRecDepth 10000 in
theorem f75_spec (A : Option Addr) (m c : Nat) (bs : List UInt8) (hm : bs.length = m) :
  Spec Tryz.prog 75 [.slice A m c] [] [rd (.slice A m c) 1 m (bvs bs)] (R := Option Addr × Nat × Nat × Pt × Int)
   (fun q => (q.2.2.2.1, q.2.2.2.2) = dec bs ∧ q.2.2.1 = q.2.2.2.1.b.length)
   (fun q => .tuple #[.agg (pcells q.2.2.2.1.k q.2.2.2.1.g q.2.2.2.1.n q.2.2.2.1.i q.2.2.2.1.c (.slice q.1 q.2.2.1 q.2.1)).toArray, .int .i64 q.2.2.2.2])
   (fun q => [own (.slice q.1 q.2.2.1 q.2.1) 5 1 q.2.2.1 (bvs q.2.2.2.1.b)]) := by
 refine Spec.intro Tryz.func75 Tryz.ntmps75 rfl (by simp) (by simp) fun w0 => ?_
 refine W240 ?_
 refine wl1 (op_alloc ti139 (lt_ rfl)) rfl fun b1 => ?_
 refine W241 ?_
 refine W63 ?_
 refine W282 ?_
 refine W38 ?_
 refine W265 ?_
 refine WX.regs (L' := [(0, _), (2, _), (11, _)]) ?_
 refine W0 ?_
 refine WC.cond rfl (fun h1 => ?_) (fun h1 => ?_)
 ·
  refine W240 ?_
  refine W74 ?_
  refine W75 ?_
  refine W271 ?_
  refine W34 ?_
  refine W33 ?_
  refine W263 ?_
  exact Fin.ret2 xI ((none, 0, 0, pt0, 4)) (⟨(dec_short (by omega)).symm, rfl⟩) Tryz.results75 rfl (.cellN rfl ag139 xM xL) (.tmp rfl) xT (by simp)
 ·
  refine W262 ?_
  refine W328 ?_
  refine W38 ?_
  refine W56 ?_
  refine W2 ?_
  refine WX.regs (L' := [(0, _), (2, _), (15, _)]) ?_
  refine W0 ?_
  refine WC.cond rfl (fun h2 => ?_) (fun h2 => ?_)
  ·
   refine W240 ?_
   refine W74 ?_
   refine W75 ?_
   refine W271 ?_
   refine W34 ?_
   refine W33 ?_
   refine W263 ?_
   exact Fin.ret2 xI ((none, 0, 0, pt0, 5)) (⟨(dec_long (by omega)).symm, rfl⟩) Tryz.results75 rfl (.cellN rfl ag139 xM xL) (.tmp rfl) xT (by simp)
  ·
   obtain rfl : m = 256 := by omega
   refine WC.capx xS (fun hcap => ?_)
   refine W274 ?_
   refine WL.dupr (v := .slice A 256 c) (sz := 1) (m := 256) (xs := bvs bs) xM (rd_dropB (l := 16) hm (by decide)) ?_
   refine W4 ?_
   refine W184 ?_
   refine wlx (op_call (f95_spec _ (256 - 16) _ (bs.drop 16) (by simp; omega) (by decide)) ca95 (lt_ rfl) rfl) rfl ?_
   rintro _ _
   refine wl1 (op_alloc ti169 (lt_ rfl)) rfl fun b2 => ?_
   refine wl (op_storeAll sz169 rfl rfl xK xL xO xL) rfl ?_
   refine W252 ?_
   refine WX.regs (L' := [(0, _), (2, _), (4, _)]) ?_
   refine W310 ?_
   refine WX.regs (L' := [(0, _), (2, _), (4, _), (5, _)]) ?_
   refine W294 ?_
   refine WC.loop (X := Nat) (fun i => 16 - i) (fun i => i ≤ 16 ∧ (sha (bs.drop 16)).take i = bs.take i) (fun i => [(0, .slice A 256 c), (2, .pointer (some ⟨b1, 0, none⟩)), (4, .pointer (some ⟨b2, 0, none⟩)), (5, .int .i64 (i : Int))]) (fun i => [blk b2 (bvs (sha (bs.drop 16))) 169, blk b1 (pcells 0 0 0 0 0 (.slice none 0 0)) 139, rd (.slice A 256 c) 1 256 (bvs bs), frameC w0 (MutF [])]) (0) (⟨by omega, rfl⟩) (fun a w hs => hs.sub xY xT) ?_
   rintro i ⟨hi, heq⟩
   try dsimp only
   refine W328 ?_
   refine W265 ?_
   refine WX.regs (L' := [(0, _), (2, _), (4, _), (5, _), (21, _)]) ?_
   refine W0 ?_
   refine WC.cond rfl (fun h3 => ?_) (fun h3 => ?_)
   ·
    refine W270 ?_
    refine W301 ?_
    refine W29 ?_
    refine WA.take (i := 1) rfl (by kernel_rfl) (fun _ _ _ h => h) rfl (op_indexArr Tryz.underlying169 sz5 (lt_ rfl) rfl rfl (by omega) (by omega)) xT ?_
    refine WA.take (i := 2) rfl (by kernel_rfl) (fun _ _ _ h => h) rfl (op_load1 fl5 (lt_ rfl) rfl xM (bvs_at (k := i) (by omega) (by simp [sha_length]; omega))) xT ?_
    refine W77 ?_
    refine W51 ?_
    refine WA.take (i := 5) rfl (by kernel_rfl) (fun _ _ _ h => h) rfl (op_index Tryz.underlying30 sz5 (lt_ rfl) rfl rfl (by omega) (by omega) (by decide) xS) xT ?_
    refine WA.take (i := 6) rfl (by kernel_rfl) (fun _ _ _ h => h) rfl (op_loadS fl5 (lt_ rfl) rfl xS (bvs_at (k := i) (by omega) (by omega))) xT ?_
    refine WA.take (i := 7) rfl (by kernel_rfl) (fun _ _ _ h => h) rfl (op_neq8 (lt_ rfl) rfl rfl) xT ?_
    refine W19 ?_
    refine WX.regs (L' := [(0, _), (2, _), (4, _), (5, _), (31, _)]) ?_
    refine W0 ?_
    refine WC.cond rfl (fun h4 => ?_) (fun h4 => ?_)
    ·
     refine W240 ?_
     refine W74 ?_
     refine W75 ?_
     refine W271 ?_
     refine W34 ?_
     refine W33 ?_
     refine W275 ?_
     refine W315 ?_
     exact Fin.ret2 xI ((none, 0, 0, pt0, 22)) (⟨(dec_sum hm (take_ne (i := i) (by omega) (by simp [sha_length]; omega) (by omega) (by simpa using h4))).symm, rfl⟩) Tryz.results75 rfl (.cellN rfl ag139 xM xL) (.tmp rfl) xT (by simp)
    ·
     refine W291 ?_
     refine W0 ?_
     refine W329 ?_
     refine WX.regs (L' := [(0, _), (2, _), (4, _), (5, _)]) ?_
     refine WX.meet (i + 1) ⟨⟨by omega, take_eq_step heq (by simp [sha_length]; omega) (by omega) (by simpa using h4)⟩, by omega⟩ (fun a w hs => hs.sub xY xT)
   ·
    refine W284 ?_
    obtain rfl : i = 16 := by omega
    refine WL.dupr (v := .slice A 256 c) (sz := 1) (m := 256) (xs := bvs bs) xM (rd_subB (l := 16) (h := 20) (by omega) (by omega)) ?_
    refine WL.dupr (v := .slice A 256 c) (sz := 1) (m := 256) (xs := bvs bs) xM (rd_subB (l := 20) (h := 24) (by omega) (by omega)) ?_
    refine WL.dupr (v := .slice A 256 c) (sz := 1) (m := 256) (xs := bvs bs) xM (rd_subB (l := 24) (h := 26) (by omega) (by omega)) ?_
    refine WL.dupr (v := .slice A 256 c) (sz := 1) (m := 256) (xs := bvs bs) xM (rd_subB (l := 26) (h := 28) (by omega) (by omega)) ?_
    refine WL.dupr (v := .slice A 256 c) (sz := 1) (m := 256) (xs := bvs bs) xM (rd_subB (l := 28) (h := 30) (by omega) (by omega)) ?_
    refine WL.dupr (v := .slice A 256 c) (sz := 1) (m := 256) (xs := bvs bs) xM (rd_subB (l := 30) (h := 32) (by omega) (by omega)) ?_
    refine W4 ?_
    refine wlv (op_slice_lh Tryz.underlying30 sz5 (lt_ rfl) rfl rfl rfl (by omega) (by omega) (by omega)) rfl ?_
    refine wlx (op_call (f96_spec _ 2 _ ((bs.drop 30).take 2) (by simp; omega) (by decide)) ca96 (lt_ rfl) rfl) rfl ?_
    rintro _ _
    rw [show vl ((bs.drop 30).take 2) = fld bs 30 2 from rfl]
    refine W241 ?_
    refine WX.regs (L' := [(0, _), (2, _), (6, _)]) ?_
    refine W282 ?_
    refine W56 ?_
    refine W2 ?_
    refine WX.regs (L' := [(0, _), (2, _), (6, _), (37, _)]) ?_
    refine W0 ?_
    refine WC.cond rfl (fun h5 => ?_) (fun h5 => ?_)
    ·
     refine W240 ?_
     refine W74 ?_
     refine W75 ?_
     refine W271 ?_
     refine W34 ?_
     refine W33 ?_
     refine W263 ?_
     exact Fin.ret2 xI ((none, 0, 0, pt0, 3)) (⟨(dec_len hm heq (by omega)).symm, rfl⟩) Tryz.results75 rfl (.cellN rfl ag139 xM xL) (.tmp rfl) xT (by simp)
    ·
     refine W262 ?_
     refine W1 ?_
     refine WC.drawnH mo 23 ?_
     refine WA.dup (c := rd (.slice A 256 c) 1 256 (bvs bs)) (d := rd (sliced A 32 (32 + (fld bs 30 2)) c 1) 1 (32 + (fld bs 30 2) - 32) (bvs ((bs.drop 32).take (32 + (fld bs 30 2) - 32)))) xM (by simp) (by simp) (rd_subB (l := 32) (h := 32 + (fld bs 30 2)) (by omega) (by omega)) ?_
     refine W29 ?_
     refine WA.take (i := 1) rfl (by kernel_rfl) (fun _ _ _ h => h) rfl (op_slice_lh Tryz.underlying30 sz5 (lt_ rfl) rfl rfl rfl (by omega) (by omega) (by omega)) xT ?_
     refine W77 ?_
     refine WA.take (i := 4) rfl (by kernel_rfl) (fun _ _ _ h => h) rfl (op_slice_lh Tryz.underlying30 sz5 (lt_ rfl) rfl rfl rfl (by omega) (by omega) (by omega)) xT ?_
     refine W107 ?_
     refine WA.take (i := 7) rfl (by kernel_rfl) (fun _ _ _ h => h) rfl (op_slice_lh Tryz.underlying30 sz5 (lt_ rfl) rfl rfl rfl (by omega) (by omega) (by omega)) xT ?_
     refine W55 ?_
     refine WA.take (i := 10) rfl (by kernel_rfl) (fun _ _ _ h => h) rfl (op_slice_lh Tryz.underlying30 sz5 (lt_ rfl) rfl rfl rfl (by omega) (by omega) (by omega)) xT ?_
     refine WA.take (i := 12) rfl (by kernel_rfl) (fun _ _ _ h => h) rfl (op_move (lt_ rfl) rfl) xT ?_
     refine WA.take (i := 13) rfl (by kernel_rfl) (fun _ _ _ h => h) rfl (op_slice_lh Tryz.underlying30 sz5 (lt_ rfl) rfl rfl rfl (by omega) (by omega) (by omega)) xT ?_
     refine W165 ?_
     refine W182 ?_
     refine WA.take (i := 18) rfl (by kernel_rfl) (fun _ _ _ h => h) rfl (op_add (lt_ rfl) rfl rfl (by omega)) xT ?_
     refine WA.take (i := 19) rfl (by kernel_rfl) (fun _ _ _ h => h) rfl (op_slice_lh Tryz.underlying30 sz5 (lt_ rfl) rfl rfl rfl (by omega) (by omega) (by omega)) xT ?_
     refine WA.abs (fun W hW => ?_)
     have st111111111111111111111110 : ∀ (b3 : Nat) (A1 : Option Addr) (c1 : Nat) (b4 : Nat), W 1 #[true, true, true, true, true, true, true, true, true, true, true, true, true, true, true, true, true, true, true, true, true, true, true, false] ⟨78, []⟩ [(0, .slice A 256 c), (2, .pointer (some ⟨b1, 0, none⟩)), (6, .int .i64 (((fld bs 30 2) : Nat) : Int)), (7, .pointer (some ⟨b4, 0, none⟩)), (60, .agg (pcells (fld bs 24 2 : Nat) (fld bs 16 4 : Nat) (fld bs 20 4 : Nat) (fld bs 26 2 : Nat) (fld bs 28 2 : Nat) (.slice A1 (32 + fld bs 30 2 - 32) c1)).toArray)] [blk b4 (pcells 0 0 0 0 0 (.slice none 0 0)) 139, own (.slice A1 (32 + fld bs 30 2 - 32) c1) 5 1 (32 + fld bs 30 2 - 32) (bvs ((bs.drop 32).take (32 + fld bs 30 2 - 32))), rd (.slice A 256 c) 1 256 (bvs bs), rd (sliced A 32 (32 + (fld bs 30 2)) c 1) 1 (32 + (fld bs 30 2) - 32) (bvs ((bs.drop 32).take (32 + (fld bs 30 2) - 32))), rd (sliced A 16 20 c 1) 1 (20 - 16) (bvs ((bs.drop 16).take (20 - 16))), rd (sliced A 20 24 c 1) 1 (24 - 20) (bvs ((bs.drop 20).take (24 - 20))), rd (sliced A 24 26 c 1) 1 (26 - 24) (bvs ((bs.drop 24).take (26 - 24))), rd (sliced A 26 28 c 1) 1 (28 - 26) (bvs ((bs.drop 26).take (28 - 26))), rd (sliced A 28 30 c 1) 1 (30 - 28) (bvs ((bs.drop 28).take (30 - 28))), rd (sliced A 30 32 c 1) 1 (32 - 30) (bvs ((bs.drop 30).take (32 - 30))), blk b2 (bvs (sha (bs.drop 16))) 169, blk b1 (pcells 0 0 0 0 0 (.slice none 0 0)) 139, frameC w0 (MutF [])] := by
      intro b3 A1 c1 b4
      subst hW
      refine WA.stepo (G := []) (i := 23) (by kernel_rfl) rfl rfl (op_storeAll sz139 rfl rfl xK xL xO xL) (fun h => absurd rfl h) ?_
      refine W19 ?_
      refine WX.regs (L' := [(0, _), (2, _), (6, _), (7, _)]) ?_
      refine W269 ?_
      rw [show 32 + (fld bs 30 2) - 32 = (fld bs 30 2) by omega]
      refine wlv (op_loadAll ag139 (lt_ rfl) rfl xM xL) rfl ?_
      refine wlx (op_call (f97_spec _ _ _ _ _ A1 (fld bs 30 2) c1) ca97 (lt_ rfl) rfl) rfl ?_
      rintro _ rfl
      refine W24 ?_
      refine W2 ?_
      refine WX.regs (L' := [(0, _), (2, _), (6, _), (7, _), (63, _)]) ?_
      refine W0 ?_
      refine WC.cond rfl (fun h6 => ?_) (fun h6 => ?_)
      ·
       refine W240 ?_
       refine W74 ?_
       refine W75 ?_
       refine W271 ?_
       refine W34 ?_
       refine W33 ?_
       refine W263 ?_
       exact Fin.ret2 xI ((none, 0, 0, pt0, 3)) (⟨(dec_bad hm heq (by omega) (.inl (by unfold Pt.chk; rw [decP_len hm (by omega)]; exact h6))).symm, rfl⟩) Tryz.results75 rfl (.cellN rfl ag139 xM xL) (.tmp rfl) xT (by simp)
      ·
       refine W262 ?_
       refine W328 ?_
       refine W295 ?_
       refine WX.regs (L' := [(0, _), (2, _), (7, _), (8, _)]) ?_
       refine W294 ?_
       refine W228 ?_
       rintro j ⟨hj, hb⟩
       try dsimp only
       refine W328 ?_
       refine W265 ?_
       refine WX.regs (L' := [(0, _), (2, _), (7, _), (8, _), (68, _)]) ?_
       refine W0 ?_
       refine WC.cond rfl (fun h7 => ?_) (fun h7 => ?_)
       ·
        refine W298 ?_
        refine W244 ?_
        refine W110 ?_
        refine wlv (op_loadS fl5 (lt_ rfl) rfl xS (bvs_at (k := 32 + (fld bs 30 2) + j) (by omega) (by omega))) rfl ?_
        refine wlv (op_neq8 (b := 0) (lt_ rfl) rfl rfl) rfl ?_
        refine W2 ?_
        refine WX.regs (L' := [(0, _), (2, _), (7, _), (8, _), (75, _)]) ?_
        refine W0 ?_
        refine WC.cond rfl (fun h8 => ?_) (fun h8 => ?_)
        ·
         refine W240 ?_
         refine W74 ?_
         refine W75 ?_
         refine W271 ?_
         refine W34 ?_
         refine W33 ?_
         refine W275 ?_
         refine W315 ?_
         exact Fin.ret2 xI ((none, 0, 0, pt0, 3)) (⟨(dec_bad hm heq (by omega) (.inr (blank_not _ j (by simp; omega) (by rw [getD_drop]; simpa using h8)))).symm, rfl⟩) Tryz.results75 rfl (.cellN rfl ag139 xM xL) (.tmp rfl) xT (by simp)
        ·
         refine W291 ?_
         refine W0 ?_
         refine W329 ?_
         refine WX.regs (L' := [(0, _), (2, _), (7, _), (8, _)]) ?_
         refine WX.meet (j + 1) ⟨⟨by omega, blank_step _ j (by simp; omega) hb (by rw [getD_drop]; simpa using h8)⟩, by omega⟩ (fun a w hs => hs.sub xY xT)
       ·
        refine W284 ?_
        refine wlv (op_loadAll ag139 (lt_ rfl) rfl xM xL) rfl ?_
        refine W75 ?_
        refine W271 ?_
        refine W33 ?_
        refine W242 ?_
        have hj3 : 32 + fld bs 30 2 + j = 256 := by omega
        rw [show (bs.drop (32 + fld bs 30 2)).take j = bs.drop (32 + fld bs 30 2) by rw [List.take_of_length_le (by simp; omega)]] at hb
        exact Fin.ret2 xI ((A1, c1, (fld bs 30 2), decP bs, 0)) (⟨(dec_ok hm heq (by omega) (by unfold Pt.chk; rw [decP_len hm (by omega)]; exact Decidable.not_not.1 h6) hb).symm, (decP_len hm (by omega)).symm⟩) Tryz.results75 rfl (.cellN rfl ag139 xM xL) (.tmp rfl) xT (by simp)
     have st111111111111111111111000 : ∀ (b3 : Nat) (A1 : Option Addr) (c1 : Nat), W 3 #[true, true, true, true, true, true, true, true, true, true, true, true, true, true, true, true, true, true, true, true, true, false, false, false] ⟨78, []⟩ [(0, .slice A 256 c), (2, .pointer (some ⟨b1, 0, none⟩)), (6, .int .i64 (((fld bs 30 2) : Nat) : Int)), (41, .int .i64 ((fld bs 16 4 : Nat) : Int)), (44, .int .i64 ((fld bs 20 4 : Nat) : Int)), (47, .int .i64 ((fld bs 24 2 : Nat) : Int)), (50, .int .i64 ((fld bs 26 2 : Nat) : Int)), (53, .int .i64 ((fld bs 28 2 : Nat) : Int)), (59, .slice A1 (32 + fld bs 30 2 - 32) c1)] [own (.slice A1 (32 + fld bs 30 2 - 32) c1) 5 1 (32 + fld bs 30 2 - 32) (bvs ((bs.drop 32).take (32 + fld bs 30 2 - 32))), rd (.slice A 256 c) 1 256 (bvs bs), rd (sliced A 32 (32 + (fld bs 30 2)) c 1) 1 (32 + (fld bs 30 2) - 32) (bvs ((bs.drop 32).take (32 + (fld bs 30 2) - 32))), rd (sliced A 16 20 c 1) 1 (20 - 16) (bvs ((bs.drop 16).take (20 - 16))), rd (sliced A 20 24 c 1) 1 (24 - 20) (bvs ((bs.drop 20).take (24 - 20))), rd (sliced A 24 26 c 1) 1 (26 - 24) (bvs ((bs.drop 24).take (26 - 24))), rd (sliced A 26 28 c 1) 1 (28 - 26) (bvs ((bs.drop 26).take (28 - 26))), rd (sliced A 28 30 c 1) 1 (30 - 28) (bvs ((bs.drop 28).take (30 - 28))), rd (sliced A 30 32 c 1) 1 (32 - 30) (bvs ((bs.drop 30).take (32 - 30))), blk b2 (bvs (sha (bs.drop 16))) 169, blk b1 (pcells 0 0 0 0 0 (.slice none 0 0)) 139, frameC w0 (MutF [])] := by
      intro b3 A1 c1
      subst hW
      refine W229 ?_
      refine WA.pick (l := [22]) (by kernel_rfl) rfl (fun i hi => ?_)
      simp only [List.mem_cons, List.not_mem_nil, or_false] at hi
      subst hi
      ·
       refine WA.one1 rfl rfl (op_alloc ti139 (lt_ rfl)) (fun _ b => xT) fun b4 => ?_
       exact WA.conv (by first | rfl | kernel_rfl) xR xT (st111111111111111111111110 b3 A1 c1 b4)
     have st111111111111111111111010 : ∀ (b3 : Nat) (A1 : Option Addr) (c1 : Nat) (b4 : Nat), W 2 #[true, true, true, true, true, true, true, true, true, true, true, true, true, true, true, true, true, true, true, true, true, false, true, false] ⟨78, []⟩ [(0, .slice A 256 c), (2, .pointer (some ⟨b1, 0, none⟩)), (6, .int .i64 (((fld bs 30 2) : Nat) : Int)), (7, .pointer (some ⟨b4, 0, none⟩)), (41, .int .i64 ((fld bs 16 4 : Nat) : Int)), (44, .int .i64 ((fld bs 20 4 : Nat) : Int)), (47, .int .i64 ((fld bs 24 2 : Nat) : Int)), (50, .int .i64 ((fld bs 26 2 : Nat) : Int)), (53, .int .i64 ((fld bs 28 2 : Nat) : Int)), (59, .slice A1 (32 + fld bs 30 2 - 32) c1)] [blk b4 (pcells 0 0 0 0 0 (.slice none 0 0)) 139, own (.slice A1 (32 + fld bs 30 2 - 32) c1) 5 1 (32 + fld bs 30 2 - 32) (bvs ((bs.drop 32).take (32 + fld bs 30 2 - 32))), rd (.slice A 256 c) 1 256 (bvs bs), rd (sliced A 32 (32 + (fld bs 30 2)) c 1) 1 (32 + (fld bs 30 2) - 32) (bvs ((bs.drop 32).take (32 + (fld bs 30 2) - 32))), rd (sliced A 16 20 c 1) 1 (20 - 16) (bvs ((bs.drop 16).take (20 - 16))), rd (sliced A 20 24 c 1) 1 (24 - 20) (bvs ((bs.drop 20).take (24 - 20))), rd (sliced A 24 26 c 1) 1 (26 - 24) (bvs ((bs.drop 24).take (26 - 24))), rd (sliced A 26 28 c 1) 1 (28 - 26) (bvs ((bs.drop 26).take (28 - 26))), rd (sliced A 28 30 c 1) 1 (30 - 28) (bvs ((bs.drop 28).take (30 - 28))), rd (sliced A 30 32 c 1) 1 (32 - 30) (bvs ((bs.drop 30).take (32 - 30))), blk b2 (bvs (sha (bs.drop 16))) 169, blk b1 (pcells 0 0 0 0 0 (.slice none 0 0)) 139, frameC w0 (MutF [])] := by
      intro b3 A1 c1 b4
      subst hW
      refine W229 ?_
      refine WA.stepo (G := []) (i := 23) (by kernel_rfl) rfl rfl (op_storeAll sz139 rfl rfl xK xL xO xL) (fun h => absurd rfl h) ?_
      refine W19 ?_
      refine WX.regs (L' := [(0, _), (2, _), (6, _), (7, _)]) ?_
      refine W269 ?_
      rw [show 32 + (fld bs 30 2) - 32 = (fld bs 30 2) by omega]
      refine wlv (op_loadAll ag139 (lt_ rfl) rfl xM xL) rfl ?_
      refine wlx (op_call (f97_spec _ _ _ _ _ A1 (fld bs 30 2) c1) ca97 (lt_ rfl) rfl) rfl ?_
      rintro _ rfl
      refine W24 ?_
      refine W2 ?_
      refine WX.regs (L' := [(0, _), (2, _), (6, _), (7, _), (63, _)]) ?_
      refine W0 ?_
      refine WC.cond rfl (fun h6 => ?_) (fun h6 => ?_)
      ·
       refine W240 ?_
       refine W74 ?_
       refine W75 ?_
       refine W271 ?_
       refine W34 ?_
       refine W33 ?_
       refine W263 ?_
       exact Fin.ret2 xI ((none, 0, 0, pt0, 3)) (⟨(dec_bad hm heq (by omega) (.inl (by unfold Pt.chk; rw [decP_len hm (by omega)]; exact h6))).symm, rfl⟩) Tryz.results75 rfl (.cellN rfl ag139 xM xL) (.tmp rfl) xT (by simp)
      ·
       refine W262 ?_
       refine W328 ?_
       refine W295 ?_
       refine WX.regs (L' := [(0, _), (2, _), (7, _), (8, _)]) ?_
       refine W294 ?_
       refine W228 ?_
       rintro j ⟨hj, hb⟩
       try dsimp only
       refine W328 ?_
       refine W265 ?_
       refine WX.regs (L' := [(0, _), (2, _), (7, _), (8, _), (68, _)]) ?_
       refine W0 ?_
       refine WC.cond rfl (fun h7 => ?_) (fun h7 => ?_)
       ·
        refine W298 ?_
        refine W244 ?_
        refine W110 ?_
        refine wlv (op_loadS fl5 (lt_ rfl) rfl xS (bvs_at (k := 32 + (fld bs 30 2) + j) (by omega) (by omega))) rfl ?_
        refine wlv (op_neq8 (b := 0) (lt_ rfl) rfl rfl) rfl ?_
        refine W2 ?_
        refine WX.regs (L' := [(0, _), (2, _), (7, _), (8, _), (75, _)]) ?_
        refine W0 ?_
        refine WC.cond rfl (fun h8 => ?_) (fun h8 => ?_)
        ·
         refine W240 ?_
         refine W74 ?_
         refine W75 ?_
         refine W271 ?_
         refine W34 ?_
         refine W33 ?_
         refine W275 ?_
         refine W315 ?_
         exact Fin.ret2 xI ((none, 0, 0, pt0, 3)) (⟨(dec_bad hm heq (by omega) (.inr (blank_not _ j (by simp; omega) (by rw [getD_drop]; simpa using h8)))).symm, rfl⟩) Tryz.results75 rfl (.cellN rfl ag139 xM xL) (.tmp rfl) xT (by simp)
        ·
         refine W291 ?_
         refine W0 ?_
         refine W329 ?_
         refine WX.regs (L' := [(0, _), (2, _), (7, _), (8, _)]) ?_
         refine WX.meet (j + 1) ⟨⟨by omega, blank_step _ j (by simp; omega) hb (by rw [getD_drop]; simpa using h8)⟩, by omega⟩ (fun a w hs => hs.sub xY xT)
       ·
        refine W284 ?_
        refine wlv (op_loadAll ag139 (lt_ rfl) rfl xM xL) rfl ?_
        refine W75 ?_
        refine W271 ?_
        refine W33 ?_
        refine W242 ?_
        have hj3 : 32 + fld bs 30 2 + j = 256 := by omega
        rw [show (bs.drop (32 + fld bs 30 2)).take j = bs.drop (32 + fld bs 30 2) by rw [List.take_of_length_le (by simp; omega)]] at hb
        exact Fin.ret2 xI ((A1, c1, (fld bs 30 2), decP bs, 0)) (⟨(dec_ok hm heq (by omega) (by unfold Pt.chk; rw [decP_len hm (by omega)]; exact Decidable.not_not.1 h6) hb).symm, (decP_len hm (by omega)).symm⟩) Tryz.results75 rfl (.cellN rfl ag139 xM xL) (.tmp rfl) xT (by simp)
     have st111111111111111111110010 : ∀ (b3 : Nat) (b4 : Nat), W 3 #[true, true, true, true, true, true, true, true, true, true, true, true, true, true, true, true, true, true, true, true, false, false, true, false] ⟨78, []⟩ [(0, .slice A 256 c), (2, .pointer (some ⟨b1, 0, none⟩)), (6, .int .i64 (((fld bs 30 2) : Nat) : Int)), (7, .pointer (some ⟨b4, 0, none⟩)), (41, .int .i64 ((fld bs 16 4 : Nat) : Int)), (44, .int .i64 ((fld bs 20 4 : Nat) : Int)), (47, .int .i64 ((fld bs 24 2 : Nat) : Int)), (50, .int .i64 ((fld bs 26 2 : Nat) : Int)), (53, .int .i64 ((fld bs 28 2 : Nat) : Int)), (54, .slice (some ⟨b3, 0, none⟩) 0 0), (58, sliced A 32 (32 + (fld bs 30 2)) c 1)] [blk b4 (pcells 0 0 0 0 0 (.slice none 0 0)) 139, own (.slice (some ⟨b3, 0, none⟩) 0 0) 5 1 0 [], rd (.slice A 256 c) 1 256 (bvs bs), rd (sliced A 32 (32 + (fld bs 30 2)) c 1) 1 (32 + (fld bs 30 2) - 32) (bvs ((bs.drop 32).take (32 + (fld bs 30 2) - 32))), rd (sliced A 16 20 c 1) 1 (20 - 16) (bvs ((bs.drop 16).take (20 - 16))), rd (sliced A 20 24 c 1) 1 (24 - 20) (bvs ((bs.drop 20).take (24 - 20))), rd (sliced A 24 26 c 1) 1 (26 - 24) (bvs ((bs.drop 24).take (26 - 24))), rd (sliced A 26 28 c 1) 1 (28 - 26) (bvs ((bs.drop 26).take (28 - 26))), rd (sliced A 28 30 c 1) 1 (30 - 28) (bvs ((bs.drop 28).take (30 - 28))), rd (sliced A 30 32 c 1) 1 (32 - 30) (bvs ((bs.drop 30).take (32 - 30))), blk b2 (bvs (sha (bs.drop 16))) 169, blk b1 (pcells 0 0 0 0 0 (.slice none 0 0)) 139, frameC w0 (MutF [])] := by
      intro b3 b4
      subst hW
      refine WA.pick (l := [20]) (by kernel_rfl) rfl (fun i hi => ?_)
      simp only [List.mem_cons, List.not_mem_nil, or_false] at hi
      subst hi
      ·
       refine WA.one2 rfl rfl (op_append0 Tryz.underlying30 ti5 rfl (by decide) (lt_ rfl) rfl rfl xK xS xO (by omega) (by omega)) (fun _ A c => xT) fun A1 c1 => ?_
       exact WA.conv (by first | rfl | kernel_rfl) xR xT (st111111111111111111111010 b3 A1 c1 b4)
     have st111111111111111111110000 : ∀ (b3 : Nat), W 4 #[true, true, true, true, true, true, true, true, true, true, true, true, true, true, true, true, true, true, true, true, false, false, false, false] ⟨78, []⟩ [(0, .slice A 256 c), (2, .pointer (some ⟨b1, 0, none⟩)), (6, .int .i64 (((fld bs 30 2) : Nat) : Int)), (41, .int .i64 ((fld bs 16 4 : Nat) : Int)), (44, .int .i64 ((fld bs 20 4 : Nat) : Int)), (47, .int .i64 ((fld bs 24 2 : Nat) : Int)), (50, .int .i64 ((fld bs 26 2 : Nat) : Int)), (53, .int .i64 ((fld bs 28 2 : Nat) : Int)), (54, .slice (some ⟨b3, 0, none⟩) 0 0), (58, sliced A 32 (32 + (fld bs 30 2)) c 1)] [own (.slice (some ⟨b3, 0, none⟩) 0 0) 5 1 0 [], rd (.slice A 256 c) 1 256 (bvs bs), rd (sliced A 32 (32 + (fld bs 30 2)) c 1) 1 (32 + (fld bs 30 2) - 32) (bvs ((bs.drop 32).take (32 + (fld bs 30 2) - 32))), rd (sliced A 16 20 c 1) 1 (20 - 16) (bvs ((bs.drop 16).take (20 - 16))), rd (sliced A 20 24 c 1) 1 (24 - 20) (bvs ((bs.drop 20).take (24 - 20))), rd (sliced A 24 26 c 1) 1 (26 - 24) (bvs ((bs.drop 24).take (26 - 24))), rd (sliced A 26 28 c 1) 1 (28 - 26) (bvs ((bs.drop 26).take (28 - 26))), rd (sliced A 28 30 c 1) 1 (30 - 28) (bvs ((bs.drop 28).take (30 - 28))), rd (sliced A 30 32 c 1) 1 (32 - 30) (bvs ((bs.drop 30).take (32 - 30))), blk b2 (bvs (sha (bs.drop 16))) 169, blk b1 (pcells 0 0 0 0 0 (.slice none 0 0)) 139, frameC w0 (MutF [])] := by
      intro b3
      subst hW
      refine WA.pick (l := [20, 22]) (by kernel_rfl) rfl (fun i hi => ?_)
      simp only [List.mem_cons, List.not_mem_nil, or_false] at hi
      rcases hi with rfl | rfl
      ·
       refine WA.one2 rfl rfl (op_append0 Tryz.underlying30 ti5 rfl (by decide) (lt_ rfl) rfl rfl xK xS xO (by omega) (by omega)) (fun _ A c => xT) fun A1 c1 => ?_
       exact WA.conv (by first | rfl | kernel_rfl) xR xT (st111111111111111111111000 b3 A1 c1)
      ·
       refine WA.one1 rfl rfl (op_alloc ti139 (lt_ rfl)) (fun _ b => xT) fun b4 => ?_
       exact WA.conv (by first | rfl | kernel_rfl) xR xT (st111111111111111111110010 b3 b4)
     have st111111111111111011110010 : ∀ (b4 : Nat), W 4 #[true, true, true, true, true, true, true, true, true, true, true, true, true, true, true, false, true, true, true, true, false, false, true, false] ⟨78, []⟩ [(0, .slice A 256 c), (2, .pointer (some ⟨b1, 0, none⟩)), (6, .int .i64 (((fld bs 30 2) : Nat) : Int)), (7, .pointer (some ⟨b4, 0, none⟩)), (41, .int .i64 ((fld bs 16 4 : Nat) : Int)), (44, .int .i64 ((fld bs 20 4 : Nat) : Int)), (47, .int .i64 ((fld bs 24 2 : Nat) : Int)), (50, .int .i64 ((fld bs 26 2 : Nat) : Int)), (53, .int .i64 ((fld bs 28 2 : Nat) : Int)), (58, sliced A 32 (32 + (fld bs 30 2)) c 1)] [blk b4 (pcells 0 0 0 0 0 (.slice none 0 0)) 139, rd (.slice A 256 c) 1 256 (bvs bs), rd (sliced A 32 (32 + (fld bs 30 2)) c 1) 1 (32 + (fld bs 30 2) - 32) (bvs ((bs.drop 32).take (32 + (fld bs 30 2) - 32))), rd (sliced A 16 20 c 1) 1 (20 - 16) (bvs ((bs.drop 16).take (20 - 16))), rd (sliced A 20 24 c 1) 1 (24 - 20) (bvs ((bs.drop 20).take (24 - 20))), rd (sliced A 24 26 c 1) 1 (26 - 24) (bvs ((bs.drop 24).take (26 - 24))), rd (sliced A 26 28 c 1) 1 (28 - 26) (bvs ((bs.drop 26).take (28 - 26))), rd (sliced A 28 30 c 1) 1 (30 - 28) (bvs ((bs.drop 28).take (30 - 28))), rd (sliced A 30 32 c 1) 1 (32 - 30) (bvs ((bs.drop 30).take (32 - 30))), blk b2 (bvs (sha (bs.drop 16))) 169, blk b1 (pcells 0 0 0 0 0 (.slice none 0 0)) 139, frameC w0 (MutF [])] := by
      intro b4
      subst hW
      refine WA.pick (l := [15]) (by kernel_rfl) rfl (fun i hi => ?_)
      simp only [List.mem_cons, List.not_mem_nil, or_false] at hi
      subst hi
      ·
       refine WA.one1 rfl rfl (op_lit0 Tryz.underlying30 ti5 (lt_ rfl)) (fun _ b => xT) fun b3 => ?_
       exact WA.conv (by first | rfl | kernel_rfl) xR xT (st111111111111111111110010 b3 b4)
     have st111111111111111011110000 : ∀ (_u : Unit), W 5 #[true, true, true, true, true, true, true, true, true, true, true, true, true, true, true, false, true, true, true, true, false, false, false, false] ⟨78, []⟩ [(0, .slice A 256 c), (2, .pointer (some ⟨b1, 0, none⟩)), (6, .int .i64 (((fld bs 30 2) : Nat) : Int)), (41, .int .i64 ((fld bs 16 4 : Nat) : Int)), (44, .int .i64 ((fld bs 20 4 : Nat) : Int)), (47, .int .i64 ((fld bs 24 2 : Nat) : Int)), (50, .int .i64 ((fld bs 26 2 : Nat) : Int)), (53, .int .i64 ((fld bs 28 2 : Nat) : Int)), (58, sliced A 32 (32 + (fld bs 30 2)) c 1)] [rd (.slice A 256 c) 1 256 (bvs bs), rd (sliced A 32 (32 + (fld bs 30 2)) c 1) 1 (32 + (fld bs 30 2) - 32) (bvs ((bs.drop 32).take (32 + (fld bs 30 2) - 32))), rd (sliced A 16 20 c 1) 1 (20 - 16) (bvs ((bs.drop 16).take (20 - 16))), rd (sliced A 20 24 c 1) 1 (24 - 20) (bvs ((bs.drop 20).take (24 - 20))), rd (sliced A 24 26 c 1) 1 (26 - 24) (bvs ((bs.drop 24).take (26 - 24))), rd (sliced A 26 28 c 1) 1 (28 - 26) (bvs ((bs.drop 26).take (28 - 26))), rd (sliced A 28 30 c 1) 1 (30 - 28) (bvs ((bs.drop 28).take (30 - 28))), rd (sliced A 30 32 c 1) 1 (32 - 30) (bvs ((bs.drop 30).take (32 - 30))), blk b2 (bvs (sha (bs.drop 16))) 169, blk b1 (pcells 0 0 0 0 0 (.slice none 0 0)) 139, frameC w0 (MutF [])] := by
      intro _u
      subst hW
      refine WA.pick (l := [15, 22]) (by kernel_rfl) rfl (fun i hi => ?_)
      simp only [List.mem_cons, List.not_mem_nil, or_false] at hi
      rcases hi with rfl | rfl
      ·
       refine WA.one1 rfl rfl (op_lit0 Tryz.underlying30 ti5 (lt_ rfl)) (fun _ b => xT) fun b3 => ?_
       exact WA.conv (by first | rfl | kernel_rfl) xR xT (st111111111111111111110000 b3)
      ·
       refine WA.one1 rfl rfl (op_alloc ti139 (lt_ rfl)) (fun _ b => xT) fun b4 => ?_
       exact WA.conv (by first | rfl | kernel_rfl) xR xT (st111111111111111011110010 b4)
     have st111111111111110111110010 : ∀ (b3 : Nat) (b4 : Nat), W 4 #[true, true, true, true, true, true, true, true, true, true, true, true, true, true, false, true, true, true, true, true, false, false, true, false] ⟨78, []⟩ [(0, .slice A 256 c), (2, .pointer (some ⟨b1, 0, none⟩)), (6, .int .i64 (((fld bs 30 2) : Nat) : Int)), (7, .pointer (some ⟨b4, 0, none⟩)), (41, .int .i64 ((fld bs 16 4 : Nat) : Int)), (44, .int .i64 ((fld bs 20 4 : Nat) : Int)), (47, .int .i64 ((fld bs 24 2 : Nat) : Int)), (50, .int .i64 ((fld bs 26 2 : Nat) : Int)), (52, sliced A 28 30 c 1), (54, .slice (some ⟨b3, 0, none⟩) 0 0), (58, sliced A 32 (32 + (fld bs 30 2)) c 1)] [blk b4 (pcells 0 0 0 0 0 (.slice none 0 0)) 139, own (.slice (some ⟨b3, 0, none⟩) 0 0) 5 1 0 [], rd (.slice A 256 c) 1 256 (bvs bs), rd (sliced A 32 (32 + (fld bs 30 2)) c 1) 1 (32 + (fld bs 30 2) - 32) (bvs ((bs.drop 32).take (32 + (fld bs 30 2) - 32))), rd (sliced A 16 20 c 1) 1 (20 - 16) (bvs ((bs.drop 16).take (20 - 16))), rd (sliced A 20 24 c 1) 1 (24 - 20) (bvs ((bs.drop 20).take (24 - 20))), rd (sliced A 24 26 c 1) 1 (26 - 24) (bvs ((bs.drop 24).take (26 - 24))), rd (sliced A 26 28 c 1) 1 (28 - 26) (bvs ((bs.drop 26).take (28 - 26))), rd (sliced A 28 30 c 1) 1 (30 - 28) (bvs ((bs.drop 28).take (30 - 28))), rd (sliced A 30 32 c 1) 1 (32 - 30) (bvs ((bs.drop 30).take (32 - 30))), blk b2 (bvs (sha (bs.drop 16))) 169, blk b1 (pcells 0 0 0 0 0 (.slice none 0 0)) 139, frameC w0 (MutF [])] := by
      intro b3 b4
      subst hW
      refine WA.pick (l := [14]) (by kernel_rfl) rfl (fun i hi => ?_)
      simp only [List.mem_cons, List.not_mem_nil, or_false] at hi
      subst hi
      ·
       refine W187 ?_
       rintro _ _
       exact WA.conv (by first | rfl | kernel_rfl) xR xT (st111111111111111111110010 b3 b4)
     have st111111111111110111110000 : ∀ (b3 : Nat), W 5 #[true, true, true, true, true, true, true, true, true, true, true, true, true, true, false, true, true, true, true, true, false, false, false, false] ⟨78, []⟩ [(0, .slice A 256 c), (2, .pointer (some ⟨b1, 0, none⟩)), (6, .int .i64 (((fld bs 30 2) : Nat) : Int)), (41, .int .i64 ((fld bs 16 4 : Nat) : Int)), (44, .int .i64 ((fld bs 20 4 : Nat) : Int)), (47, .int .i64 ((fld bs 24 2 : Nat) : Int)), (50, .int .i64 ((fld bs 26 2 : Nat) : Int)), (52, sliced A 28 30 c 1), (54, .slice (some ⟨b3, 0, none⟩) 0 0), (58, sliced A 32 (32 + (fld bs 30 2)) c 1)] [own (.slice (some ⟨b3, 0, none⟩) 0 0) 5 1 0 [], rd (.slice A 256 c) 1 256 (bvs bs), rd (sliced A 32 (32 + (fld bs 30 2)) c 1) 1 (32 + (fld bs 30 2) - 32) (bvs ((bs.drop 32).take (32 + (fld bs 30 2) - 32))), rd (sliced A 16 20 c 1) 1 (20 - 16) (bvs ((bs.drop 16).take (20 - 16))), rd (sliced A 20 24 c 1) 1 (24 - 20) (bvs ((bs.drop 20).take (24 - 20))), rd (sliced A 24 26 c 1) 1 (26 - 24) (bvs ((bs.drop 24).take (26 - 24))), rd (sliced A 26 28 c 1) 1 (28 - 26) (bvs ((bs.drop 26).take (28 - 26))), rd (sliced A 28 30 c 1) 1 (30 - 28) (bvs ((bs.drop 28).take (30 - 28))), rd (sliced A 30 32 c 1) 1 (32 - 30) (bvs ((bs.drop 30).take (32 - 30))), blk b2 (bvs (sha (bs.drop 16))) 169, blk b1 (pcells 0 0 0 0 0 (.slice none 0 0)) 139, frameC w0 (MutF [])] := by
      intro b3
      subst hW
      refine WA.pick (l := [14, 22]) (by kernel_rfl) rfl (fun i hi => ?_)
      simp only [List.mem_cons, List.not_mem_nil, or_false] at hi
      rcases hi with rfl | rfl
      ·
       refine W187 ?_
       rintro _ _
       exact WA.conv (by first | rfl | kernel_rfl) xR xT (st111111111111111111110000 b3)
      ·
       refine WA.one1 rfl rfl (op_alloc ti139 (lt_ rfl)) (fun _ b => xT) fun b4 => ?_
       exact WA.conv (by first | rfl | kernel_rfl) xR xT (st111111111111110111110010 b3 b4)
     have st111111111111110011110010 : ∀ (b4 : Nat), W 5 #[true, true, true, true, true, true, true, true, true, true, true, true, true, true, false, false, true, true, true, true, false, false, true, false] ⟨78, []⟩ [(0, .slice A 256 c), (2, .pointer (some ⟨b1, 0, none⟩)), (6, .int .i64 (((fld bs 30 2) : Nat) : Int)), (7, .pointer (some ⟨b4, 0, none⟩)), (41, .int .i64 ((fld bs 16 4 : Nat) : Int)), (44, .int .i64 ((fld bs 20 4 : Nat) : Int)), (47, .int .i64 ((fld bs 24 2 : Nat) : Int)), (50, .int .i64 ((fld bs 26 2 : Nat) : Int)), (52, sliced A 28 30 c 1), (58, sliced A 32 (32 + (fld bs 30 2)) c 1)] [blk b4 (pcells 0 0 0 0 0 (.slice none 0 0)) 139, rd (.slice A 256 c) 1 256 (bvs bs), rd (sliced A 32 (32 + (fld bs 30 2)) c 1) 1 (32 + (fld bs 30 2) - 32) (bvs ((bs.drop 32).take (32 + (fld bs 30 2) - 32))), rd (sliced A 16 20 c 1) 1 (20 - 16) (bvs ((bs.drop 16).take (20 - 16))), rd (sliced A 20 24 c 1) 1 (24 - 20) (bvs ((bs.drop 20).take (24 - 20))), rd (sliced A 24 26 c 1) 1 (26 - 24) (bvs ((bs.drop 24).take (26 - 24))), rd (sliced A 26 28 c 1) 1 (28 - 26) (bvs ((bs.drop 26).take (28 - 26))), rd (sliced A 28 30 c 1) 1 (30 - 28) (bvs ((bs.drop 28).take (30 - 28))), rd (sliced A 30 32 c 1) 1 (32 - 30) (bvs ((bs.drop 30).take (32 - 30))), blk b2 (bvs (sha (bs.drop 16))) 169, blk b1 (pcells 0 0 0 0 0 (.slice none 0 0)) 139, frameC w0 (MutF [])] := by
      intro b4
      subst hW
      refine WA.pick (l := [14, 15]) (by kernel_rfl) rfl (fun i hi => ?_)
      simp only [List.mem_cons, List.not_mem_nil, or_false] at hi
      rcases hi with rfl | rfl
      ·
       refine W187 ?_
       rintro _ _
       exact WA.conv (by first | rfl | kernel_rfl) xR xT (st111111111111111011110010 b4)
      ·
       refine WA.one1 rfl rfl (op_lit0 Tryz.underlying30 ti5 (lt_ rfl)) (fun _ b => xT) fun b3 => ?_
       exact WA.conv (by first | rfl | kernel_rfl) xR xT (st111111111111110111110010 b3 b4)
     have st111111111111110011110000 : ∀ (_u : Unit), W 6 #[true, true, true, true, true, true, true, true, true, true, true, true, true, true, false, false, true, true, true, true, false, false, false, false] ⟨78, []⟩ [(0, .slice A 256 c), (2, .pointer (some ⟨b1, 0, none⟩)), (6, .int .i64 (((fld bs 30 2) : Nat) : Int)), (41, .int .i64 ((fld bs 16 4 : Nat) : Int)), (44, .int .i64 ((fld bs 20 4 : Nat) : Int)), (47, .int .i64 ((fld bs 24 2 : Nat) : Int)), (50, .int .i64 ((fld bs 26 2 : Nat) : Int)), (52, sliced A 28 30 c 1), (58, sliced A 32 (32 + (fld bs 30 2)) c 1)] [rd (.slice A 256 c) 1 256 (bvs bs), rd (sliced A 32 (32 + (fld bs 30 2)) c 1) 1 (32 + (fld bs 30 2) - 32) (bvs ((bs.drop 32).take (32 + (fld bs 30 2) - 32))), rd (sliced A 16 20 c 1) 1 (20 - 16) (bvs ((bs.drop 16).take (20 - 16))), rd (sliced A 20 24 c 1) 1 (24 - 20) (bvs ((bs.drop 20).take (24 - 20))), rd (sliced A 24 26 c 1) 1 (26 - 24) (bvs ((bs.drop 24).take (26 - 24))), rd (sliced A 26 28 c 1) 1 (28 - 26) (bvs ((bs.drop 26).take (28 - 26))), rd (sliced A 28 30 c 1) 1 (30 - 28) (bvs ((bs.drop 28).take (30 - 28))), rd (sliced A 30 32 c 1) 1 (32 - 30) (bvs ((bs.drop 30).take (32 - 30))), blk b2 (bvs (sha (bs.drop 16))) 169, blk b1 (pcells 0 0 0 0 0 (.slice none 0 0)) 139, frameC w0 (MutF [])] := by
      intro _u
      subst hW
      refine WA.pick (l := [14, 15, 22]) (by kernel_rfl) rfl (fun i hi => ?_)
      simp only [List.mem_cons, List.not_mem_nil, or_false] at hi
      rcases hi with rfl | rfl | rfl
      ·
       refine W187 ?_
       rintro _ _
       exact WA.conv (by first | rfl | kernel_rfl) xR xT (st111111111111111011110000 ())
      ·
       refine WA.one1 rfl rfl (op_lit0 Tryz.underlying30 ti5 (lt_ rfl)) (fun _ b => xT) fun b3 => ?_
       exact WA.conv (by first | rfl | kernel_rfl) xR xT (st111111111111110111110000 b3)
      ·
       refine WA.one1 rfl rfl (op_alloc ti139 (lt_ rfl)) (fun _ b => xT) fun b4 => ?_
       exact WA.conv (by first | rfl | kernel_rfl) xR xT (st111111111111110011110010 b4)
     have st111111111110110111110010 : ∀ (b3 : Nat) (b4 : Nat), W 5 #[true, true, true, true, true, true, true, true, true, true, true, false, true, true, false, true, true, true, true, true, false, false, true, false] ⟨78, []⟩ [(0, .slice A 256 c), (2, .pointer (some ⟨b1, 0, none⟩)), (6, .int .i64 (((fld bs 30 2) : Nat) : Int)), (7, .pointer (some ⟨b4, 0, none⟩)), (41, .int .i64 ((fld bs 16 4 : Nat) : Int)), (44, .int .i64 ((fld bs 20 4 : Nat) : Int)), (47, .int .i64 ((fld bs 24 2 : Nat) : Int)), (49, sliced A 26 28 c 1), (52, sliced A 28 30 c 1), (54, .slice (some ⟨b3, 0, none⟩) 0 0), (58, sliced A 32 (32 + (fld bs 30 2)) c 1)] [blk b4 (pcells 0 0 0 0 0 (.slice none 0 0)) 139, own (.slice (some ⟨b3, 0, none⟩) 0 0) 5 1 0 [], rd (.slice A 256 c) 1 256 (bvs bs), rd (sliced A 32 (32 + (fld bs 30 2)) c 1) 1 (32 + (fld bs 30 2) - 32) (bvs ((bs.drop 32).take (32 + (fld bs 30 2) - 32))), rd (sliced A 16 20 c 1) 1 (20 - 16) (bvs ((bs.drop 16).take (20 - 16))), rd (sliced A 20 24 c 1) 1 (24 - 20) (bvs ((bs.drop 20).take (24 - 20))), rd (sliced A 24 26 c 1) 1 (26 - 24) (bvs ((bs.drop 24).take (26 - 24))), rd (sliced A 26 28 c 1) 1 (28 - 26) (bvs ((bs.drop 26).take (28 - 26))), rd (sliced A 28 30 c 1) 1 (30 - 28) (bvs ((bs.drop 28).take (30 - 28))), rd (sliced A 30 32 c 1) 1 (32 - 30) (bvs ((bs.drop 30).take (32 - 30))), blk b2 (bvs (sha (bs.drop 16))) 169, blk b1 (pcells 0 0 0 0 0 (.slice none 0 0)) 139, frameC w0 (MutF [])] := by
      intro b3 b4
      subst hW
      refine WA.pick (l := [11]) (by kernel_rfl) rfl (fun i hi => ?_)
      simp only [List.mem_cons, List.not_mem_nil, or_false] at hi
      subst hi
      ·
       refine W188 ?_
       rintro _ _
       exact WA.conv (by first | rfl | kernel_rfl) xR xT (st111111111111110111110010 b3 b4)
     have st111111111110110111110000 : ∀ (b3 : Nat), W 6 #[true, true, true, true, true, true, true, true, true, true, true, false, true, true, false, true, true, true, true, true, false, false, false, false] ⟨78, []⟩ [(0, .slice A 256 c), (2, .pointer (some ⟨b1, 0, none⟩)), (6, .int .i64 (((fld bs 30 2) : Nat) : Int)), (41, .int .i64 ((fld bs 16 4 : Nat) : Int)), (44, .int .i64 ((fld bs 20 4 : Nat) : Int)), (47, .int .i64 ((fld bs 24 2 : Nat) : Int)), (49, sliced A 26 28 c 1), (52, sliced A 28 30 c 1), (54, .slice (some ⟨b3, 0, none⟩) 0 0), (58, sliced A 32 (32 + (fld bs 30 2)) c 1)] [own (.slice (some ⟨b3, 0, none⟩) 0 0) 5 1 0 [], rd (.slice A 256 c) 1 256 (bvs bs), rd (sliced A 32 (32 + (fld bs 30 2)) c 1) 1 (32 + (fld bs 30 2) - 32) (bvs ((bs.drop 32).take (32 + (fld bs 30 2) - 32))), rd (sliced A 16 20 c 1) 1 (20 - 16) (bvs ((bs.drop 16).take (20 - 16))), rd (sliced A 20 24 c 1) 1 (24 - 20) (bvs ((bs.drop 20).take (24 - 20))), rd (sliced A 24 26 c 1) 1 (26 - 24) (bvs ((bs.drop 24).take (26 - 24))), rd (sliced A 26 28 c 1) 1 (28 - 26) (bvs ((bs.drop 26).take (28 - 26))), rd (sliced A 28 30 c 1) 1 (30 - 28) (bvs ((bs.drop 28).take (30 - 28))), rd (sliced A 30 32 c 1) 1 (32 - 30) (bvs ((bs.drop 30).take (32 - 30))), blk b2 (bvs (sha (bs.drop 16))) 169, blk b1 (pcells 0 0 0 0 0 (.slice none 0 0)) 139, frameC w0 (MutF [])] := by
      intro b3
      subst hW
      refine WA.pick (l := [11, 22]) (by kernel_rfl) rfl (fun i hi => ?_)
      simp only [List.mem_cons, List.not_mem_nil, or_false] at hi
      rcases hi with rfl | rfl
      ·
       refine W188 ?_
       rintro _ _
       exact WA.conv (by first | rfl | kernel_rfl) xR xT (st111111111111110111110000 b3)
      ·
       refine WA.one1 rfl rfl (op_alloc ti139 (lt_ rfl)) (fun _ b => xT) fun b4 => ?_
       exact WA.conv (by first | rfl | kernel_rfl) xR xT (st111111111110110111110010 b3 b4)
     have st111111111110110011110010 : ∀ (b4 : Nat), W 6 #[true, true, true, true, true, true, true, true, true, true, true, false, true, true, false, false, true, true, true, true, false, false, true, false] ⟨78, []⟩ [(0, .slice A 256 c), (2, .pointer (some ⟨b1, 0, none⟩)), (6, .int .i64 (((fld bs 30 2) : Nat) : Int)), (7, .pointer (some ⟨b4, 0, none⟩)), (41, .int .i64 ((fld bs 16 4 : Nat) : Int)), (44, .int .i64 ((fld bs 20 4 : Nat) : Int)), (47, .int .i64 ((fld bs 24 2 : Nat) : Int)), (49, sliced A 26 28 c 1), (52, sliced A 28 30 c 1), (58, sliced A 32 (32 + (fld bs 30 2)) c 1)] [blk b4 (pcells 0 0 0 0 0 (.slice none 0 0)) 139, rd (.slice A 256 c) 1 256 (bvs bs), rd (sliced A 32 (32 + (fld bs 30 2)) c 1) 1 (32 + (fld bs 30 2) - 32) (bvs ((bs.drop 32).take (32 + (fld bs 30 2) - 32))), rd (sliced A 16 20 c 1) 1 (20 - 16) (bvs ((bs.drop 16).take (20 - 16))), rd (sliced A 20 24 c 1) 1 (24 - 20) (bvs ((bs.drop 20).take (24 - 20))), rd (sliced A 24 26 c 1) 1 (26 - 24) (bvs ((bs.drop 24).take (26 - 24))), rd (sliced A 26 28 c 1) 1 (28 - 26) (bvs ((bs.drop 26).take (28 - 26))), rd (sliced A 28 30 c 1) 1 (30 - 28) (bvs ((bs.drop 28).take (30 - 28))), rd (sliced A 30 32 c 1) 1 (32 - 30) (bvs ((bs.drop 30).take (32 - 30))), blk b2 (bvs (sha (bs.drop 16))) 169, blk b1 (pcells 0 0 0 0 0 (.slice none 0 0)) 139, frameC w0 (MutF [])] := by
      intro b4
      subst hW
      refine WA.pick (l := [11, 15]) (by kernel_rfl) rfl (fun i hi => ?_)
      simp only [List.mem_cons, List.not_mem_nil, or_false] at hi
      rcases hi with rfl | rfl
      ·
       refine W188 ?_
       rintro _ _
       exact WA.conv (by first | rfl | kernel_rfl) xR xT (st111111111111110011110010 b4)
      ·
       refine WA.one1 rfl rfl (op_lit0 Tryz.underlying30 ti5 (lt_ rfl)) (fun _ b => xT) fun b3 => ?_
       exact WA.conv (by first | rfl | kernel_rfl) xR xT (st111111111110110111110010 b3 b4)
     have st111111111110110011110000 : ∀ (_u : Unit), W 7 #[true, true, true, true, true, true, true, true, true, true, true, false, true, true, false, false, true, true, true, true, false, false, false, false] ⟨78, []⟩ [(0, .slice A 256 c), (2, .pointer (some ⟨b1, 0, none⟩)), (6, .int .i64 (((fld bs 30 2) : Nat) : Int)), (41, .int .i64 ((fld bs 16 4 : Nat) : Int)), (44, .int .i64 ((fld bs 20 4 : Nat) : Int)), (47, .int .i64 ((fld bs 24 2 : Nat) : Int)), (49, sliced A 26 28 c 1), (52, sliced A 28 30 c 1), (58, sliced A 32 (32 + (fld bs 30 2)) c 1)] [rd (.slice A 256 c) 1 256 (bvs bs), rd (sliced A 32 (32 + (fld bs 30 2)) c 1) 1 (32 + (fld bs 30 2) - 32) (bvs ((bs.drop 32).take (32 + (fld bs 30 2) - 32))), rd (sliced A 16 20 c 1) 1 (20 - 16) (bvs ((bs.drop 16).take (20 - 16))), rd (sliced A 20 24 c 1) 1 (24 - 20) (bvs ((bs.drop 20).take (24 - 20))), rd (sliced A 24 26 c 1) 1 (26 - 24) (bvs ((bs.drop 24).take (26 - 24))), rd (sliced A 26 28 c 1) 1 (28 - 26) (bvs ((bs.drop 26).take (28 - 26))), rd (sliced A 28 30 c 1) 1 (30 - 28) (bvs ((bs.drop 28).take (30 - 28))), rd (sliced A 30 32 c 1) 1 (32 - 30) (bvs ((bs.drop 30).take (32 - 30))), blk b2 (bvs (sha (bs.drop 16))) 169, blk b1 (pcells 0 0 0 0 0 (.slice none 0 0)) 139, frameC w0 (MutF [])] := by
      intro _u
      subst hW
      refine WA.pick (l := [11, 15, 22]) (by kernel_rfl) rfl (fun i hi => ?_)
      simp only [List.mem_cons, List.not_mem_nil, or_false] at hi
      rcases hi with rfl | rfl | rfl
      ·
       refine W188 ?_
       rintro _ _
       exact WA.conv (by first | rfl | kernel_rfl) xR xT (st111111111111110011110000 ())
      ·
       refine WA.one1 rfl rfl (op_lit0 Tryz.underlying30 ti5 (lt_ rfl)) (fun _ b => xT) fun b3 => ?_
       exact WA.conv (by first | rfl | kernel_rfl) xR xT (st111111111110110111110000 b3)
      ·
       refine WA.one1 rfl rfl (op_alloc ti139 (lt_ rfl)) (fun _ b => xT) fun b4 => ?_
       exact WA.conv (by first | rfl | kernel_rfl) xR xT (st111111111110110011110010 b4)
     have st111111110110110111110010 : ∀ (b3 : Nat) (b4 : Nat), W 6 #[true, true, true, true, true, true, true, true, false, true, true, false, true, true, false, true, true, true, true, true, false, false, true, false] ⟨78, []⟩ [(0, .slice A 256 c), (2, .pointer (some ⟨b1, 0, none⟩)), (6, .int .i64 (((fld bs 30 2) : Nat) : Int)), (7, .pointer (some ⟨b4, 0, none⟩)), (41, .int .i64 ((fld bs 16 4 : Nat) : Int)), (44, .int .i64 ((fld bs 20 4 : Nat) : Int)), (46, sliced A 24 26 c 1), (49, sliced A 26 28 c 1), (52, sliced A 28 30 c 1), (54, .slice (some ⟨b3, 0, none⟩) 0 0), (58, sliced A 32 (32 + (fld bs 30 2)) c 1)] [blk b4 (pcells 0 0 0 0 0 (.slice none 0 0)) 139, own (.slice (some ⟨b3, 0, none⟩) 0 0) 5 1 0 [], rd (.slice A 256 c) 1 256 (bvs bs), rd (sliced A 32 (32 + (fld bs 30 2)) c 1) 1 (32 + (fld bs 30 2) - 32) (bvs ((bs.drop 32).take (32 + (fld bs 30 2) - 32))), rd (sliced A 16 20 c 1) 1 (20 - 16) (bvs ((bs.drop 16).take (20 - 16))), rd (sliced A 20 24 c 1) 1 (24 - 20) (bvs ((bs.drop 20).take (24 - 20))), rd (sliced A 24 26 c 1) 1 (26 - 24) (bvs ((bs.drop 24).take (26 - 24))), rd (sliced A 26 28 c 1) 1 (28 - 26) (bvs ((bs.drop 26).take (28 - 26))), rd (sliced A 28 30 c 1) 1 (30 - 28) (bvs ((bs.drop 28).take (30 - 28))), rd (sliced A 30 32 c 1) 1 (32 - 30) (bvs ((bs.drop 30).take (32 - 30))), blk b2 (bvs (sha (bs.drop 16))) 169, blk b1 (pcells 0 0 0 0 0 (.slice none 0 0)) 139, frameC w0 (MutF [])] := by
      intro b3 b4
      subst hW
      refine WA.pick (l := [8]) (by kernel_rfl) rfl (fun i hi => ?_)
      simp only [List.mem_cons, List.not_mem_nil, or_false] at hi
      subst hi
      ·
       refine W189 ?_
       rintro _ _
       exact WA.conv (by first | rfl | kernel_rfl) xR xT (st111111111110110111110010 b3 b4)
     have st111111110110110111110000 : ∀ (b3 : Nat), W 7 #[true, true, true, true, true, true, true, true, false, true, true, false, true, true, false, true, true, true, true, true, false, false, false, false] ⟨78, []⟩ [(0, .slice A 256 c), (2, .pointer (some ⟨b1, 0, none⟩)), (6, .int .i64 (((fld bs 30 2) : Nat) : Int)), (41, .int .i64 ((fld bs 16 4 : Nat) : Int)), (44, .int .i64 ((fld bs 20 4 : Nat) : Int)), (46, sliced A 24 26 c 1), (49, sliced A 26 28 c 1), (52, sliced A 28 30 c 1), (54, .slice (some ⟨b3, 0, none⟩) 0 0), (58, sliced A 32 (32 + (fld bs 30 2)) c 1)] [own (.slice (some ⟨b3, 0, none⟩) 0 0) 5 1 0 [], rd (.slice A 256 c) 1 256 (bvs bs), rd (sliced A 32 (32 + (fld bs 30 2)) c 1) 1 (32 + (fld bs 30 2) - 32) (bvs ((bs.drop 32).take (32 + (fld bs 30 2) - 32))), rd (sliced A 16 20 c 1) 1 (20 - 16) (bvs ((bs.drop 16).take (20 - 16))), rd (sliced A 20 24 c 1) 1 (24 - 20) (bvs ((bs.drop 20).take (24 - 20))), rd (sliced A 24 26 c 1) 1 (26 - 24) (bvs ((bs.drop 24).take (26 - 24))), rd (sliced A 26 28 c 1) 1 (28 - 26) (bvs ((bs.drop 26).take (28 - 26))), rd (sliced A 28 30 c 1) 1 (30 - 28) (bvs ((bs.drop 28).take (30 - 28))), rd (sliced A 30 32 c 1) 1 (32 - 30) (bvs ((bs.drop 30).take (32 - 30))), blk b2 (bvs (sha (bs.drop 16))) 169, blk b1 (pcells 0 0 0 0 0 (.slice none 0 0)) 139, frameC w0 (MutF [])] := by
      intro b3
      subst hW
      refine WA.pick (l := [8, 22]) (by kernel_rfl) rfl (fun i hi => ?_)
      simp only [List.mem_cons, List.not_mem_nil, or_false] at hi
      rcases hi with rfl | rfl
      ·
       refine W189 ?_
       rintro _ _
       exact WA.conv (by first | rfl | kernel_rfl) xR xT (st111111111110110111110000 b3)
      ·
       refine WA.one1 rfl rfl (op_alloc ti139 (lt_ rfl)) (fun _ b => xT) fun b4 => ?_
       exact WA.conv (by first | rfl | kernel_rfl) xR xT (st111111110110110111110010 b3 b4)
     have st111111110110110011110010 : ∀ (b4 : Nat), W 7 #[true, true, true, true, true, true, true, true, false, true, true, false, true, true, false, false, true, true, true, true, false, false, true, false] ⟨78, []⟩ [(0, .slice A 256 c), (2, .pointer (some ⟨b1, 0, none⟩)), (6, .int .i64 (((fld bs 30 2) : Nat) : Int)), (7, .pointer (some ⟨b4, 0, none⟩)), (41, .int .i64 ((fld bs 16 4 : Nat) : Int)), (44, .int .i64 ((fld bs 20 4 : Nat) : Int)), (46, sliced A 24 26 c 1), (49, sliced A 26 28 c 1), (52, sliced A 28 30 c 1), (58, sliced A 32 (32 + (fld bs 30 2)) c 1)] [blk b4 (pcells 0 0 0 0 0 (.slice none 0 0)) 139, rd (.slice A 256 c) 1 256 (bvs bs), rd (sliced A 32 (32 + (fld bs 30 2)) c 1) 1 (32 + (fld bs 30 2) - 32) (bvs ((bs.drop 32).take (32 + (fld bs 30 2) - 32))), rd (sliced A 16 20 c 1) 1 (20 - 16) (bvs ((bs.drop 16).take (20 - 16))), rd (sliced A 20 24 c 1) 1 (24 - 20) (bvs ((bs.drop 20).take (24 - 20))), rd (sliced A 24 26 c 1) 1 (26 - 24) (bvs ((bs.drop 24).take (26 - 24))), rd (sliced A 26 28 c 1) 1 (28 - 26) (bvs ((bs.drop 26).take (28 - 26))), rd (sliced A 28 30 c 1) 1 (30 - 28) (bvs ((bs.drop 28).take (30 - 28))), rd (sliced A 30 32 c 1) 1 (32 - 30) (bvs ((bs.drop 30).take (32 - 30))), blk b2 (bvs (sha (bs.drop 16))) 169, blk b1 (pcells 0 0 0 0 0 (.slice none 0 0)) 139, frameC w0 (MutF [])] := by
      intro b4
      subst hW
      refine WA.pick (l := [8, 15]) (by kernel_rfl) rfl (fun i hi => ?_)
      simp only [List.mem_cons, List.not_mem_nil, or_false] at hi
      rcases hi with rfl | rfl
      ·
       refine W189 ?_
       rintro _ _
       exact WA.conv (by first | rfl | kernel_rfl) xR xT (st111111111110110011110010 b4)
      ·
       refine WA.one1 rfl rfl (op_lit0 Tryz.underlying30 ti5 (lt_ rfl)) (fun _ b => xT) fun b3 => ?_
       exact WA.conv (by first | rfl | kernel_rfl) xR xT (st111111110110110111110010 b3 b4)
     have st111111110110110011110000 : ∀ (_u : Unit), W 8 #[true, true, true, true, true, true, true, true, false, true, true, false, true, true, false, false, true, true, true, true, false, false, false, false] ⟨78, []⟩ [(0, .slice A 256 c), (2, .pointer (some ⟨b1, 0, none⟩)), (6, .int .i64 (((fld bs 30 2) : Nat) : Int)), (41, .int .i64 ((fld bs 16 4 : Nat) : Int)), (44, .int .i64 ((fld bs 20 4 : Nat) : Int)), (46, sliced A 24 26 c 1), (49, sliced A 26 28 c 1), (52, sliced A 28 30 c 1), (58, sliced A 32 (32 + (fld bs 30 2)) c 1)] [rd (.slice A 256 c) 1 256 (bvs bs), rd (sliced A 32 (32 + (fld bs 30 2)) c 1) 1 (32 + (fld bs 30 2) - 32) (bvs ((bs.drop 32).take (32 + (fld bs 30 2) - 32))), rd (sliced A 16 20 c 1) 1 (20 - 16) (bvs ((bs.drop 16).take (20 - 16))), rd (sliced A 20 24 c 1) 1 (24 - 20) (bvs ((bs.drop 20).take (24 - 20))), rd (sliced A 24 26 c 1) 1 (26 - 24) (bvs ((bs.drop 24).take (26 - 24))), rd (sliced A 26 28 c 1) 1 (28 - 26) (bvs ((bs.drop 26).take (28 - 26))), rd (sliced A 28 30 c 1) 1 (30 - 28) (bvs ((bs.drop 28).take (30 - 28))), rd (sliced A 30 32 c 1) 1 (32 - 30) (bvs ((bs.drop 30).take (32 - 30))), blk b2 (bvs (sha (bs.drop 16))) 169, blk b1 (pcells 0 0 0 0 0 (.slice none 0 0)) 139, frameC w0 (MutF [])] := by
      intro _u
      subst hW
      refine WA.pick (l := [8, 15, 22]) (by kernel_rfl) rfl (fun i hi => ?_)
      simp only [List.mem_cons, List.not_mem_nil, or_false] at hi
      rcases hi with rfl | rfl | rfl
      ·
       refine W189 ?_
       rintro _ _
       exact WA.conv (by first | rfl | kernel_rfl) xR xT (st111111111110110011110000 ())
      ·
       refine WA.one1 rfl rfl (op_lit0 Tryz.underlying30 ti5 (lt_ rfl)) (fun _ b => xT) fun b3 => ?_
       exact WA.conv (by first | rfl | kernel_rfl) xR xT (st111111110110110111110000 b3)
      ·
       refine WA.one1 rfl rfl (op_alloc ti139 (lt_ rfl)) (fun _ b => xT) fun b4 => ?_
       exact WA.conv (by first | rfl | kernel_rfl) xR xT (st111111110110110011110010 b4)
     have st111110110110110111110010 : ∀ (b3 : Nat) (b4 : Nat), W 7 #[true, true, true, true, true, false, true, true, false, true, true, false, true, true, false, true, true, true, true, true, false, false, true, false] ⟨78, []⟩ [(0, .slice A 256 c), (2, .pointer (some ⟨b1, 0, none⟩)), (6, .int .i64 (((fld bs 30 2) : Nat) : Int)), (7, .pointer (some ⟨b4, 0, none⟩)), (41, .int .i64 ((fld bs 16 4 : Nat) : Int)), (43, sliced A 20 24 c 1), (46, sliced A 24 26 c 1), (49, sliced A 26 28 c 1), (52, sliced A 28 30 c 1), (54, .slice (some ⟨b3, 0, none⟩) 0 0), (58, sliced A 32 (32 + (fld bs 30 2)) c 1)] [blk b4 (pcells 0 0 0 0 0 (.slice none 0 0)) 139, own (.slice (some ⟨b3, 0, none⟩) 0 0) 5 1 0 [], rd (.slice A 256 c) 1 256 (bvs bs), rd (sliced A 32 (32 + (fld bs 30 2)) c 1) 1 (32 + (fld bs 30 2) - 32) (bvs ((bs.drop 32).take (32 + (fld bs 30 2) - 32))), rd (sliced A 16 20 c 1) 1 (20 - 16) (bvs ((bs.drop 16).take (20 - 16))), rd (sliced A 20 24 c 1) 1 (24 - 20) (bvs ((bs.drop 20).take (24 - 20))), rd (sliced A 24 26 c 1) 1 (26 - 24) (bvs ((bs.drop 24).take (26 - 24))), rd (sliced A 26 28 c 1) 1 (28 - 26) (bvs ((bs.drop 26).take (28 - 26))), rd (sliced A 28 30 c 1) 1 (30 - 28) (bvs ((bs.drop 28).take (30 - 28))), rd (sliced A 30 32 c 1) 1 (32 - 30) (bvs ((bs.drop 30).take (32 - 30))), blk b2 (bvs (sha (bs.drop 16))) 169, blk b1 (pcells 0 0 0 0 0 (.slice none 0 0)) 139, frameC w0 (MutF [])] := by
      intro b3 b4
      subst hW
      refine WA.pick (l := [5]) (by kernel_rfl) rfl (fun i hi => ?_)
      simp only [List.mem_cons, List.not_mem_nil, or_false] at hi
      subst hi
      ·
       refine W190 ?_
       rintro _ _
       exact WA.conv (by first | rfl | kernel_rfl) xR xT (st111111110110110111110010 b3 b4)
     have st111110110110110111110000 : ∀ (b3 : Nat), W 8 #[true, true, true, true, true, false, true, true, false, true, true, false, true, true, false, true, true, true, true, true, false, false, false, false] ⟨78, []⟩ [(0, .slice A 256 c), (2, .pointer (some ⟨b1, 0, none⟩)), (6, .int .i64 (((fld bs 30 2) : Nat) : Int)), (41, .int .i64 ((fld bs 16 4 : Nat) : Int)), (43, sliced A 20 24 c 1), (46, sliced A 24 26 c 1), (49, sliced A 26 28 c 1), (52, sliced A 28 30 c 1), (54, .slice (some ⟨b3, 0, none⟩) 0 0), (58, sliced A 32 (32 + (fld bs 30 2)) c 1)] [own (.slice (some ⟨b3, 0, none⟩) 0 0) 5 1 0 [], rd (.slice A 256 c) 1 256 (bvs bs), rd (sliced A 32 (32 + (fld bs 30 2)) c 1) 1 (32 + (fld bs 30 2) - 32) (bvs ((bs.drop 32).take (32 + (fld bs 30 2) - 32))), rd (sliced A 16 20 c 1) 1 (20 - 16) (bvs ((bs.drop 16).take (20 - 16))), rd (sliced A 20 24 c 1) 1 (24 - 20) (bvs ((bs.drop 20).take (24 - 20))), rd (sliced A 24 26 c 1) 1 (26 - 24) (bvs ((bs.drop 24).take (26 - 24))), rd (sliced A 26 28 c 1) 1 (28 - 26) (bvs ((bs.drop 26).take (28 - 26))), rd (sliced A 28 30 c 1) 1 (30 - 28) (bvs ((bs.drop 28).take (30 - 28))), rd (sliced A 30 32 c 1) 1 (32 - 30) (bvs ((bs.drop 30).take (32 - 30))), blk b2 (bvs (sha (bs.drop 16))) 169, blk b1 (pcells 0 0 0 0 0 (.slice none 0 0)) 139, frameC w0 (MutF [])] := by
      intro b3
      subst hW
      refine WA.pick (l := [5, 22]) (by kernel_rfl) rfl (fun i hi => ?_)
      simp only [List.mem_cons, List.not_mem_nil, or_false] at hi
      rcases hi with rfl | rfl
      ·
       refine W190 ?_
       rintro _ _
       exact WA.conv (by first | rfl | kernel_rfl) xR xT (st111111110110110111110000 b3)
      ·
       refine WA.one1 rfl rfl (op_alloc ti139 (lt_ rfl)) (fun _ b => xT) fun b4 => ?_
       exact WA.conv (by first | rfl | kernel_rfl) xR xT (st111110110110110111110010 b3 b4)
     have st111110110110110011110010 : ∀ (b4 : Nat), W 8 #[true, true, true, true, true, false, true, true, false, true, true, false, true, true, false, false, true, true, true, true, false, false, true, false] ⟨78, []⟩ [(0, .slice A 256 c), (2, .pointer (some ⟨b1, 0, none⟩)), (6, .int .i64 (((fld bs 30 2) : Nat) : Int)), (7, .pointer (some ⟨b4, 0, none⟩)), (41, .int .i64 ((fld bs 16 4 : Nat) : Int)), (43, sliced A 20 24 c 1), (46, sliced A 24 26 c 1), (49, sliced A 26 28 c 1), (52, sliced A 28 30 c 1), (58, sliced A 32 (32 + (fld bs 30 2)) c 1)] [blk b4 (pcells 0 0 0 0 0 (.slice none 0 0)) 139, rd (.slice A 256 c) 1 256 (bvs bs), rd (sliced A 32 (32 + (fld bs 30 2)) c 1) 1 (32 + (fld bs 30 2) - 32) (bvs ((bs.drop 32).take (32 + (fld bs 30 2) - 32))), rd (sliced A 16 20 c 1) 1 (20 - 16) (bvs ((bs.drop 16).take (20 - 16))), rd (sliced A 20 24 c 1) 1 (24 - 20) (bvs ((bs.drop 20).take (24 - 20))), rd (sliced A 24 26 c 1) 1 (26 - 24) (bvs ((bs.drop 24).take (26 - 24))), rd (sliced A 26 28 c 1) 1 (28 - 26) (bvs ((bs.drop 26).take (28 - 26))), rd (sliced A 28 30 c 1) 1 (30 - 28) (bvs ((bs.drop 28).take (30 - 28))), rd (sliced A 30 32 c 1) 1 (32 - 30) (bvs ((bs.drop 30).take (32 - 30))), blk b2 (bvs (sha (bs.drop 16))) 169, blk b1 (pcells 0 0 0 0 0 (.slice none 0 0)) 139, frameC w0 (MutF [])] := by
      intro b4
      subst hW
      refine WA.pick (l := [5, 15]) (by kernel_rfl) rfl (fun i hi => ?_)
      simp only [List.mem_cons, List.not_mem_nil, or_false] at hi
      rcases hi with rfl | rfl
      ·
       refine W190 ?_
       rintro _ _
       exact WA.conv (by first | rfl | kernel_rfl) xR xT (st111111110110110011110010 b4)
      ·
       refine WA.one1 rfl rfl (op_lit0 Tryz.underlying30 ti5 (lt_ rfl)) (fun _ b => xT) fun b3 => ?_
       exact WA.conv (by first | rfl | kernel_rfl) xR xT (st111110110110110111110010 b3 b4)
     have st111110110110110011110000 : ∀ (_u : Unit), W 9 #[true, true, true, true, true, false, true, true, false, true, true, false, true, true, false, false, true, true, true, true, false, false, false, false] ⟨78, []⟩ [(0, .slice A 256 c), (2, .pointer (some ⟨b1, 0, none⟩)), (6, .int .i64 (((fld bs 30 2) : Nat) : Int)), (41, .int .i64 ((fld bs 16 4 : Nat) : Int)), (43, sliced A 20 24 c 1), (46, sliced A 24 26 c 1), (49, sliced A 26 28 c 1), (52, sliced A 28 30 c 1), (58, sliced A 32 (32 + (fld bs 30 2)) c 1)] [rd (.slice A 256 c) 1 256 (bvs bs), rd (sliced A 32 (32 + (fld bs 30 2)) c 1) 1 (32 + (fld bs 30 2) - 32) (bvs ((bs.drop 32).take (32 + (fld bs 30 2) - 32))), rd (sliced A 16 20 c 1) 1 (20 - 16) (bvs ((bs.drop 16).take (20 - 16))), rd (sliced A 20 24 c 1) 1 (24 - 20) (bvs ((bs.drop 20).take (24 - 20))), rd (sliced A 24 26 c 1) 1 (26 - 24) (bvs ((bs.drop 24).take (26 - 24))), rd (sliced A 26 28 c 1) 1 (28 - 26) (bvs ((bs.drop 26).take (28 - 26))), rd (sliced A 28 30 c 1) 1 (30 - 28) (bvs ((bs.drop 28).take (30 - 28))), rd (sliced A 30 32 c 1) 1 (32 - 30) (bvs ((bs.drop 30).take (32 - 30))), blk b2 (bvs (sha (bs.drop 16))) 169, blk b1 (pcells 0 0 0 0 0 (.slice none 0 0)) 139, frameC w0 (MutF [])] := by
      intro _u
      subst hW
      refine WA.pick (l := [5, 15, 22]) (by kernel_rfl) rfl (fun i hi => ?_)
      simp only [List.mem_cons, List.not_mem_nil, or_false] at hi
      rcases hi with rfl | rfl | rfl
      ·
       refine W190 ?_
       rintro _ _
       exact WA.conv (by first | rfl | kernel_rfl) xR xT (st111111110110110011110000 ())
      ·
       refine WA.one1 rfl rfl (op_lit0 Tryz.underlying30 ti5 (lt_ rfl)) (fun _ b => xT) fun b3 => ?_
       exact WA.conv (by first | rfl | kernel_rfl) xR xT (st111110110110110111110000 b3)
      ·
       refine WA.one1 rfl rfl (op_alloc ti139 (lt_ rfl)) (fun _ b => xT) fun b4 => ?_
       exact WA.conv (by first | rfl | kernel_rfl) xR xT (st111110110110110011110010 b4)
     have st110110110110110111110010 : ∀ (b3 : Nat) (b4 : Nat), W 8 #[true, true, false, true, true, false, true, true, false, true, true, false, true, true, false, true, true, true, true, true, false, false, true, false] ⟨78, []⟩ [(0, .slice A 256 c), (2, .pointer (some ⟨b1, 0, none⟩)), (6, .int .i64 (((fld bs 30 2) : Nat) : Int)), (7, .pointer (some ⟨b4, 0, none⟩)), (40, sliced A 16 20 c 1), (43, sliced A 20 24 c 1), (46, sliced A 24 26 c 1), (49, sliced A 26 28 c 1), (52, sliced A 28 30 c 1), (54, .slice (some ⟨b3, 0, none⟩) 0 0), (58, sliced A 32 (32 + (fld bs 30 2)) c 1)] [blk b4 (pcells 0 0 0 0 0 (.slice none 0 0)) 139, own (.slice (some ⟨b3, 0, none⟩) 0 0) 5 1 0 [], rd (.slice A 256 c) 1 256 (bvs bs), rd (sliced A 32 (32 + (fld bs 30 2)) c 1) 1 (32 + (fld bs 30 2) - 32) (bvs ((bs.drop 32).take (32 + (fld bs 30 2) - 32))), rd (sliced A 16 20 c 1) 1 (20 - 16) (bvs ((bs.drop 16).take (20 - 16))), rd (sliced A 20 24 c 1) 1 (24 - 20) (bvs ((bs.drop 20).take (24 - 20))), rd (sliced A 24 26 c 1) 1 (26 - 24) (bvs ((bs.drop 24).take (26 - 24))), rd (sliced A 26 28 c 1) 1 (28 - 26) (bvs ((bs.drop 26).take (28 - 26))), rd (sliced A 28 30 c 1) 1 (30 - 28) (bvs ((bs.drop 28).take (30 - 28))), rd (sliced A 30 32 c 1) 1 (32 - 30) (bvs ((bs.drop 30).take (32 - 30))), blk b2 (bvs (sha (bs.drop 16))) 169, blk b1 (pcells 0 0 0 0 0 (.slice none 0 0)) 139, frameC w0 (MutF [])] := by
      intro b3 b4
      subst hW
      refine WA.pick (l := [2]) (by kernel_rfl) rfl (fun i hi => ?_)
      simp only [List.mem_cons, List.not_mem_nil, or_false] at hi
      subst hi
      ·
       refine W191 ?_
       rintro _ _
       exact WA.conv (by first | rfl | kernel_rfl) xR xT (st111110110110110111110010 b3 b4)
     have st110110110110110111110000 : ∀ (b3 : Nat), W 9 #[true, true, false, true, true, false, true, true, false, true, true, false, true, true, false, true, true, true, true, true, false, false, false, false] ⟨78, []⟩ [(0, .slice A 256 c), (2, .pointer (some ⟨b1, 0, none⟩)), (6, .int .i64 (((fld bs 30 2) : Nat) : Int)), (40, sliced A 16 20 c 1), (43, sliced A 20 24 c 1), (46, sliced A 24 26 c 1), (49, sliced A 26 28 c 1), (52, sliced A 28 30 c 1), (54, .slice (some ⟨b3, 0, none⟩) 0 0), (58, sliced A 32 (32 + (fld bs 30 2)) c 1)] [own (.slice (some ⟨b3, 0, none⟩) 0 0) 5 1 0 [], rd (.slice A 256 c) 1 256 (bvs bs), rd (sliced A 32 (32 + (fld bs 30 2)) c 1) 1 (32 + (fld bs 30 2) - 32) (bvs ((bs.drop 32).take (32 + (fld bs 30 2) - 32))), rd (sliced A 16 20 c 1) 1 (20 - 16) (bvs ((bs.drop 16).take (20 - 16))), rd (sliced A 20 24 c 1) 1 (24 - 20) (bvs ((bs.drop 20).take (24 - 20))), rd (sliced A 24 26 c 1) 1 (26 - 24) (bvs ((bs.drop 24).take (26 - 24))), rd (sliced A 26 28 c 1) 1 (28 - 26) (bvs ((bs.drop 26).take (28 - 26))), rd (sliced A 28 30 c 1) 1 (30 - 28) (bvs ((bs.drop 28).take (30 - 28))), rd (sliced A 30 32 c 1) 1 (32 - 30) (bvs ((bs.drop 30).take (32 - 30))), blk b2 (bvs (sha (bs.drop 16))) 169, blk b1 (pcells 0 0 0 0 0 (.slice none 0 0)) 139, frameC w0 (MutF [])] := by
      intro b3
      subst hW
      refine WA.pick (l := [2, 22]) (by kernel_rfl) rfl (fun i hi => ?_)
      simp only [List.mem_cons, List.not_mem_nil, or_false] at hi
      rcases hi with rfl | rfl
      ·
       refine W191 ?_
       rintro _ _
       exact WA.conv (by first | rfl | kernel_rfl) xR xT (st111110110110110111110000 b3)
      ·
       refine WA.one1 rfl rfl (op_alloc ti139 (lt_ rfl)) (fun _ b => xT) fun b4 => ?_
       exact WA.conv (by first | rfl | kernel_rfl) xR xT (st110110110110110111110010 b3 b4)
     have st110110110110110011110010 : ∀ (b4 : Nat), W 9 #[true, true, false, true, true, false, true, true, false, true, true, false, true, true, false, false, true, true, true, true, false, false, true, false] ⟨78, []⟩ [(0, .slice A 256 c), (2, .pointer (some ⟨b1, 0, none⟩)), (6, .int .i64 (((fld bs 30 2) : Nat) : Int)), (7, .pointer (some ⟨b4, 0, none⟩)), (40, sliced A 16 20 c 1), (43, sliced A 20 24 c 1), (46, sliced A 24 26 c 1), (49, sliced A 26 28 c 1), (52, sliced A 28 30 c 1), (58, sliced A 32 (32 + (fld bs 30 2)) c 1)] [blk b4 (pcells 0 0 0 0 0 (.slice none 0 0)) 139, rd (.slice A 256 c) 1 256 (bvs bs), rd (sliced A 32 (32 + (fld bs 30 2)) c 1) 1 (32 + (fld bs 30 2) - 32) (bvs ((bs.drop 32).take (32 + (fld bs 30 2) - 32))), rd (sliced A 16 20 c 1) 1 (20 - 16) (bvs ((bs.drop 16).take (20 - 16))), rd (sliced A 20 24 c 1) 1 (24 - 20) (bvs ((bs.drop 20).take (24 - 20))), rd (sliced A 24 26 c 1) 1 (26 - 24) (bvs ((bs.drop 24).take (26 - 24))), rd (sliced A 26 28 c 1) 1 (28 - 26) (bvs ((bs.drop 26).take (28 - 26))), rd (sliced A 28 30 c 1) 1 (30 - 28) (bvs ((bs.drop 28).take (30 - 28))), rd (sliced A 30 32 c 1) 1 (32 - 30) (bvs ((bs.drop 30).take (32 - 30))), blk b2 (bvs (sha (bs.drop 16))) 169, blk b1 (pcells 0 0 0 0 0 (.slice none 0 0)) 139, frameC w0 (MutF [])] := by
      intro b4
      subst hW
      refine WA.pick (l := [2, 15]) (by kernel_rfl) rfl (fun i hi => ?_)
      simp only [List.mem_cons, List.not_mem_nil, or_false] at hi
      rcases hi with rfl | rfl
      ·
       refine W191 ?_
       rintro _ _
       exact WA.conv (by first | rfl | kernel_rfl) xR xT (st111110110110110011110010 b4)
      ·
       refine WA.one1 rfl rfl (op_lit0 Tryz.underlying30 ti5 (lt_ rfl)) (fun _ b => xT) fun b3 => ?_
       exact WA.conv (by first | rfl | kernel_rfl) xR xT (st110110110110110111110010 b3 b4)
     subst hW
     refine WA.pick (l := [2, 15, 22]) (by kernel_rfl) rfl (fun i hi => ?_)
     simp only [List.mem_cons, List.not_mem_nil, or_false] at hi
     rcases hi with rfl | rfl | rfl
     ·
      refine W191 ?_
      rintro _ _
      exact WA.conv (by first | rfl | kernel_rfl) xR xT (st111110110110110011110000 ())
     ·
      refine WA.one1 rfl rfl (op_lit0 Tryz.underlying30 ti5 (lt_ rfl)) (fun _ b => xT) fun b3 => ?_
      exact WA.conv (by first | rfl | kernel_rfl) xR xT (st110110110110110111110000 b3)
     ·
      refine WA.one1 rfl rfl (op_alloc ti139 (lt_ rfl)) (fun _ b => xT) fun b4 => ?_
      exact WA.conv (by first | rfl | kernel_rfl) xR xT (st110110110110110011110010 b4)
end Go.Proofs.YtkjlbedebmffgaaGreat.Sx
namespace Go.Proofs.YtkjlbedebmffgaaGreat.Sx
open Go.RowKit Go.Proofs.YtkjlbedebmffgaaGreat.Ty
attribute [local irreducible] blk own rd rx frameC
def hq (a : Nat → Nat) : List Value := hdc (a 2) (a 0) (a 1) (a 3) (a 4) (.slice none 0 0) (a 5)
theorem hq_congr {a b : Nat → Nat} (h : ∀ t, t < 6 → a t = b t) : hq a = hq b := by
 unfold hq
 rw [h 0 (by decide), h 1 (by decide), h 2 (by decide), h 3 (by decide), h 4 (by decide), h 5 (by decide)]
theorem hq_at (a : Nat → Nat) (j : Nat) (h : j < 6) : (hq a)[fo j]? = some (.int .i64 (a j : Nat)) := by
 match j, h with
 | 0, _ | 1, _ | 2, _ | 3, _ | 4, _ | 5, _ => rfl
theorem fo_le (j : Nat) : fo j ≤ 6 := by
 unfold fo; split <;> decide
theorem hq_put (a : Nat → Nat) (j x : Nat) (h : j < 6) : pset (hq a) (fo j) (Value.int .i64 (x : Nat)).cells.toList = hq (fun t => if t = j then x else a t) := by
 match j, h with
 | 0, _ | 1, _ | 2, _ | 3, _ | 4, _ | 5, _ => rfl
def ps : Nat → Nat | 0 => 0 | 1 => 4 | 2 => 8 | 3 => 10 | 4 => 12 | 5 => 14 | _ => 16
theorem ps_succ (j : Nat) (h : j < 6) : ps (j + 1) = ps j + fz j := by
 match j, h with
 | 0, _ | 1, _ | 2, _ | 3, _ | 4, _ | 5, _ => rfl
theorem ps_le (j : Nat) : ps j ≤ 16 := by
 unfold ps; split <;> decide
def ha (bs : List UInt8) (j r t : Nat) : Nat := if t = j then fld bs (16 + ps t) r else if t < j then fld bs (16 + ps t) (fz t) else 0
theorem fld_step (bs : List UInt8) (o r : Nat) (h : o + r < bs.length) : fld bs o (r + 1) = fld bs o r * 256 + (bs.getD (o + r) 0).toNat := by
 unfold fld
 rw [vl_step _ _ (by simp; omega), getD_drop]
theorem fld_lt (bs : List UInt8) (o r : Nat) (h : r ≤ 4) : fld bs o r < 4294967296 := by
 have h1 := vl_lt ((bs.drop o).take r)
 have h2 : ((bs.drop o).take r).length ≤ 4 := by simp; omega
 have h3 : 256 ^ ((bs.drop o).take r).length ≤ 256 ^ 4 := Nat.pow_le_pow_right (by decide) h2
 unfold fld
 omega
theorem ha_next (bs : List UInt8) (j t : Nat) (ht : t < 6) : ha bs j (fz j) t = ha bs (j + 1) 0 t := by
 unfold ha
 by_cases h1 : t = j
 ·subst h1
  rw [if_pos rfl, if_neg (by omega), if_pos (by omega)]
 ·rw [if_neg h1]
  by_cases h2 : t = j + 1
  ·subst h2
   rw [if_neg (by omega), if_pos rfl]
   simp [fld, vl]
  ·rw [if_neg h2]
   by_cases h3 : t < j
   ·rw [if_pos h3, if_pos (by omega)]
   ·rw [if_neg h3, if_neg (by omega)]
theorem ha_put (bs : List UInt8) (j r x : Nat) (hj : j < 6) (h : x = fld bs (16 + ps j) (r + 1)) : pset (hq (ha bs j r)) (fo j) (Value.int .i64 (x : Nat)).cells.toList = hq (ha bs j (r + 1)) := by
 rw [hq_put _ _ _ hj]
 apply hq_congr
 intro t _
 unfold ha
 by_cases h1 : t = j
 ·subst h1; simp [h]
 ·simp [h1]
theorem ha_end (bs : List UInt8) : hq (ha bs 6 0) = hdc (fld bs 24 2 : Nat) (fld bs 16 4 : Nat) (fld bs 20 4 : Nat) (fld bs 26 2 : Nat) (fld bs 28 2 : Nat) (.slice none 0 0) (fld bs 30 2 : Nat) := rfl
set_option maxHeartbeats 400000 in
set_option maxRecDepth 10000 in
theorem f63_spec (A : Option Addr) (m c : Nat) (bs : List UInt8) (hm : bs.length = m) :
  Spec Tryz.prog 63 [.slice A m c] [] [rd (.slice A m c) 1 m (bvs bs)] (R := Option Addr × Nat × Nat × Pt × Int)
   (fun q => (q.2.2.2.1, q.2.2.2.2) = dec bs ∧ q.2.2.1 = q.2.2.2.1.b.length)
   (fun q => .tuple #[.agg (pcells q.2.2.2.1.k q.2.2.2.1.g q.2.2.2.1.n q.2.2.2.1.i q.2.2.2.1.c (.slice q.1 q.2.2.1 q.2.1)).toArray, .int .i64 q.2.2.2.2])
   (fun q => [own (.slice q.1 q.2.2.1 q.2.1) 5 1 q.2.2.1 (bvs q.2.2.2.1.b)]) := by
 refine Spec.intro Tryz.func63 Tryz.ntmps63 rfl (by simp) (by simp) fun w0 => ?_
 refine W240 ?_
 refine wl1 (op_alloc ti123 (lt_ rfl)) rfl fun b1 => ?_
 refine W241 ?_
 refine W63 ?_
 refine W0 ?_
 refine W254 ?_
 refine W351 ?_
 refine W38 ?_
 refine W25 ?_
 refine W241 ?_
 refine WX.regs (L' := [(0, _), (2, _), (9, _)]) ?_
 refine W0 ?_
 refine WC.cond rfl (fun h1 => ?_) (fun h1 => ?_)
 ·
  refine W240 ?_
  refine W74 ?_
  refine W91 ?_
  refine W271 ?_
  refine W34 ?_
  refine W33 ?_
  refine W275 ?_
  exact Fin.ret2 xI ((none, 0, 0, pt0, 4)) (⟨(dec_short (by omega)).symm, rfl⟩) Tryz.results63 rfl (.cellN rfl ag123 xM xL) (.tmp rfl) xT (by simp)
 ·
  refine W351 ?_
  refine W38 ?_
  refine W56 ?_
  refine W241 ?_
  refine WX.regs (L' := [(0, _), (2, _), (14, _)]) ?_
  refine W0 ?_
  refine WC.cond rfl (fun h2 => ?_) (fun h2 => ?_)
  ·
   refine W240 ?_
   refine W74 ?_
   refine W91 ?_
   refine W271 ?_
   refine W34 ?_
   refine W33 ?_
   refine W275 ?_
   exact Fin.ret2 xI ((none, 0, 0, pt0, 5)) (⟨(dec_long (by omega)).symm, rfl⟩) Tryz.results63 rfl (.cellN rfl ag123 xM xL) (.tmp rfl) xT (by simp)
  ·
   obtain rfl : m = 256 := by omega
   refine WC.capx xS (fun hcap => ?_)
   refine W291 ?_
   refine W282 ?_
   refine wlx (op_call (f87_spec A 256 c bs hm (by decide) (by decide)) ca87 (lt_ rfl) rfl) rfl ?_
   rintro _ _
   refine WL.dupr (v := .slice A 256 c) (sz := 1) (m := 256) (xs := bvs bs) xM (rd_subB (l := 0) (h := 16) (by decide) (by decide)) ?_
   refine wl1 (op_alloc ti154 (lt_ rfl)) rfl fun b2 => ?_
   refine wl (op_storeAll sz154 rfl rfl xK xL xO xL) rfl ?_
   refine W10 ?_
   refine WL.turn (c := blk b2 (bvs ((sha (bs.drop 16)).take 16)) 154) (d := rd (.slice (some ⟨b2, 0, none⟩) 16 16) 1 16 (bvs ((sha (bs.drop 16)).take 16))) xK (blk_whole_rd (by simp [sha_length]) (by decide)) ?_
   refine W2 ?_
   refine WX.regs (L' := [(0, _), (2, _), (4, _)]) ?_
   refine W0 ?_
   refine W301 ?_
   refine WA.take (i := 0) rfl (by kernel_rfl) (fun _ _ _ h => h) rfl (op_sliceArr Tryz.underlying154 sz5 (lt_ rfl) rfl) xT ?_
   refine W39 ?_
   refine WA.take (i := 2) rfl (by kernel_rfl) (fun _ _ _ h => h) rfl (op_slice_h Tryz.underlying30 sz5 (lt_ rfl) rfl rfl (by omega) (by omega)) xT ?_
   refine WA.stepx (i := 3) (by kernel_rfl) rfl rfl (op_call (f88_spec _ _ 16 _ 16 _ ((sha (bs.drop 16)).take 16) (bs.take 16)) ca88 (lt_ rfl) rfl) (fun _ r => xT) ?_
   rintro _ _
   refine WA.take (i := 4) rfl (by kernel_rfl) (fun _ _ _ h => h) rfl (op_notp (lt_ rfl) rfl) xT ?_
   refine W19 ?_
   refine WX.regs (L' := [(0, _), (2, _), (25, _)]) ?_
   refine W0 ?_
   refine WC.cond rfl (fun h3 => ?_) (fun h3 => ?_)
   ·
    refine W240 ?_
    refine W74 ?_
    refine W91 ?_
    refine W271 ?_
    refine W34 ?_
    refine W33 ?_
    refine W263 ?_
    exact Fin.ret2 xI ((none, 0, 0, pt0, 22)) (⟨(dec_sum hm (by assumption)).symm, rfl⟩) Tryz.results63 rfl (.cellN rfl ag123 xM xL) (.tmp rfl) xT (by simp)
   ·
    have heq := Decidable.not_not.1 h3
    refine W274 ?_
    refine wl1 (op_alloc ti158 (lt_ rfl)) rfl fun b3 => ?_
    refine W2 ?_
    refine WX.regs (L' := [(0, _), (2, _), (5, _)]) ?_
    refine W249 ?_
    refine W241 ?_
    refine WX.regs (L' := [(0, _), (2, _), (5, _), (6, _)]) ?_
    refine W269 ?_
    refine wlx (op_call (f89_spec b3) ca89 (lt_ rfl) rfl) rfl ?_
    rintro _ _
    refine W272 ?_
    refine WX.regs (L' := [(0, _), (2, _), (5, _), (6, _), (27, _), (28, _)]) ?_
    refine W294 ?_
    refine WC.loop (X := Nat) (fun j => 6 - j) (fun j => j ≤ 6) (fun j => [(0, .slice A 256 c), (2, .pointer (some ⟨b1, 0, none⟩)), (5, .pointer (some ⟨b3, 0, none⟩)), (6, .int .i64 ((16 + ps j : Nat) : Int)), (27, .agg (fcells b3).toArray), (28, .int .i64 (j : Int))]) (fun j => [blk b3 (hq (ha bs j 0)) 158, blk b1 (pcells 0 0 0 0 0 (.slice none 0 0)) 123, rd (.slice A 256 c) 1 256 (bvs bs), frameC w0 (MutF [])]) (0) (by omega) (fun a w hs => hs.sub xY xT) ?_
    rintro j hj
    try dsimp only
    have hz := fz_le j
    have hps := ps_le j
    have hps1 : j < 6 → ps j + fz j ≤ 16 := fun h => by rw [← ps_succ j h]; exact ps_le _
    refine W312 ?_
    refine WX.regs (L' := [(0, _), (2, _), (5, _), (6, _), (27, _), (28, _), (29, _)]) ?_
    refine W327 ?_
    refine WC.cond rfl (fun h4 => ?_) (fun h4 => ?_)
    ·
     refine W298 ?_
     refine wlv (op_indexVN Tryz.underlying161 sz160 ag160 (by decide) rfl rfl (by omega) (by omega) (fcells_at b3 j (by omega)) (by simp [fcells]; omega)) rfl ?_
     refine wl1 (op_alloc ti160 (lt_ rfl)) rfl fun b4 => ?_
     refine wl (op_storeAll sz160 rfl rfl xK xL xO xL) rfl ?_
     refine W252 ?_
     refine WX.regs (L' := [(0, _), (2, _), (5, _), (6, _), (8, _), (27, _), (28, _)]) ?_
     refine W249 ?_
     refine wlv (op_fieldAddr fo160_1 (lt_ rfl) rfl) rfl ?_
     refine W21 ?_
     refine W272 ?_
     refine W192 ?_
     refine W294 ?_
     refine WC.loop (X := Nat) (fun r => fz j - r) (fun r => r ≤ fz j) (fun r => [(0, .slice A 256 c), (2, .pointer (some ⟨b1, 0, none⟩)), (5, .pointer (some ⟨b3, 0, none⟩)), (6, .int .i64 ((16 + ps j + r : Nat) : Int)), (8, .pointer (some ⟨b4, 0, none⟩)), (27, .agg (fcells b3).toArray), (28, .int .i64 (j : Int)), (32, .int .i64 ((fz j : Nat) : Int)), (33, .int .i64 (r : Int))]) (fun r => [blk b3 (hq (ha bs j r)) 158, blk b4 [.pointer (some ⟨b3, fo j, none⟩), .int .i64 ((fz j : Nat) : Int)] 160, blk b1 (pcells 0 0 0 0 0 (.slice none 0 0)) 123, rd (.slice A 256 c) 1 256 (bvs bs), frameC w0 (MutF [])]) (0) (by omega) (fun a w hs => hs.sub xY xT) ?_
     rintro r hr
     try dsimp only
     refine W312 ?_
     refine WX.regs (L' := [(0, _), (2, _), (5, _), (6, _), (8, _), (27, _), (28, _), (32, _), (33, _), (34, _)]) ?_
     refine W327 ?_
     refine WC.cond rfl (fun h5 => ?_) (fun h5 => ?_)
     ·
      refine W270 ?_
      refine W1 ?_
      refine WC.drawnH mo 14 ?_
      refine WA.take (i := 0) rfl (by kernel_rfl) (fun _ _ _ h => h) rfl (op_fieldAddr fo160_0 (lt_ rfl) rfl) xT ?_
      refine WA.take (i := 1) rfl (by kernel_rfl) (fun _ _ _ h => h) rfl (op_load1 fl159 (lt_ rfl) rfl xM rfl) xT ?_
      refine WA.take (i := 2) rfl (by kernel_rfl) (fun _ _ _ h => h) rfl (op_fieldAddr fo160_0 (lt_ rfl) rfl) xT ?_
      refine WA.take (i := 3) rfl (by kernel_rfl) (fun _ _ _ h => h) rfl (op_load1 fl159 (lt_ rfl) rfl xM rfl) xT ?_
      refine W131 ?_
      refine WA.take (i := 5) rfl (by kernel_rfl) (fun _ _ _ h => h) rfl (op_load1 fl3 (lt_ rfl) rfl xM (hq_at _ j (by omega))) xT ?_
      refine WA.take (i := 6) rfl (by kernel_rfl) (fun _ _ _ h => h) rfl (op_shl8i (by decide) rfl rfl (by have := fld_lt bs (16 + ps j) r (by omega); unfold ha; rw [if_pos rfl]; omega)) xT ?_
      refine W168 ?_
      refine W71 ?_
      refine WA.take (i := 9) rfl (by kernel_rfl) (fun _ _ _ h => h) rfl (op_index Tryz.underlying30 sz5 (lt_ rfl) rfl rfl (by omega) (by omega) (by decide) xS) xT ?_
      refine WA.take (i := 10) rfl (by kernel_rfl) (fun _ _ _ h => h) rfl (op_loadS fl5 (lt_ rfl) rfl xS (bvs_at (k := 16 + ps j + r) (by omega) (by omega))) xT ?_
      refine WA.take (i := 11) rfl (by kernel_rfl) (fun _ _ _ h => h) rfl (op_conv8i (by kernel_rfl) Tryz.underlying3 (lt_ rfl) rfl) xT ?_
      refine WA.take (i := 12) rfl (by kernel_rfl) (fun _ _ _ h => h) rfl (op_ori8 (by decide) rfl rfl (by have := fld_lt bs (16 + ps j) r (by omega); have := (bs.getD (16 + ps j + r) 0).toNat_lt; unfold ha; rw [if_pos rfl]; omega)) xT ?_
      refine WA.take (i := 13) rfl (by kernel_rfl) (fun _ _ _ h => h) rfl (op_nilCheck (lt_ rfl) rfl) xT ?_
      refine WA.stepo (G := []) (i := 14) (by kernel_rfl) rfl rfl (op_store sz3 rfl rfl xK xL xO (by have := fo_le j; simp [hq, hdc, pcells]; omega)) (fun h => absurd rfl h) ?_
      refine W19 ?_
      rw [show ((ha bs j r j : Nat) : Int) * 256 + (((bs.getD (16 + ps j + r) 0).toNat : Nat) : Int) = ((fld bs (16 + ps j) (r + 1) : Nat) : Int) by rw [fld_step bs _ _ (by omega)]; unfold ha; rw [if_pos rfl]; simp]
      refine WX.blkEq (b := b3) _ xK (ha_put bs j r _ (by omega) rfl) ?_
      refine W192 ?_
      refine W0 ?_
      refine W329 ?_
      refine W192 ?_
      refine W330 ?_
      refine W192 ?_
      refine WX.meet (r + 1) ⟨by omega, by omega⟩ (fun a w hs => hs.sub xY xT)
     ·
      refine W264 ?_
      refine W330 ?_
      refine WX.regs (L' := [(0, _), (2, _), (5, _), (6, _), (27, _), (28, _)]) ?_
      obtain rfl : r = fz j := by omega
      rw [hq_congr (fun t ht => ha_next bs j t ht), show 16 + ps j + fz j = 16 + ps (j + 1) by rw [ps_succ j (by omega)]; omega]
      refine WX.meet (j + 1) ⟨by omega, by omega⟩ (fun a w hs => hs.sub xY xT)
    ·
     refine W264 ?_
     refine W269 ?_
     obtain rfl : j = 6 := by omega
     rw [ha_end]
     refine wlv (op_fieldAddr fo158_1 (lt_ rfl) rfl) rfl ?_
     refine W21 ?_
     refine W56 ?_
     refine W4 ?_
     refine WL.split (t := 56) rfl (fun g56 => ?_) (fun g56 => ?_)
     ·
      refine W255 ?_
      refine W302 ?_
      refine W2 ?_
      refine WX.regs (L' := [(0, _), (2, _), (5, _), (64, _)]) ?_
      refine W353 ?_
      refine W74 ?_
      refine W91 ?_
      refine W271 ?_
      refine W34 ?_
      refine W33 ?_
      refine W263 ?_
      exact Fin.ret2 xI ((none, 0, 0, pt0, 3)) (⟨Eq.symm (by first | exact dec_len hm heq (by omega) | exact dec_bad hm heq (by omega) (.inr (by simpa using h6))), rfl⟩) Tryz.results63 rfl (.cellN rfl ag123 xM xL) (.tmp rfl) xT (by simp)
     ·
      refine WL.dupr (v := .slice A 256 c) (sz := 1) (m := 256) (xs := bvs bs) xM (rd_dropB (l := 32 + (fld bs 30 2)) hm (by omega)) ?_
      refine W13 ?_
      refine wlgv (op_fieldAddr fo158_1 (lt_ rfl) rfl) rfl rfl rfl ?_
      refine W28 ?_
      refine W87 ?_
      refine wlgv (op_slice_l Tryz.underlying30 sz5 (lt_ rfl) rfl rfl (by omega) (by omega)) rfl rfl rfl ?_
      refine wlgx (op_call (f90_spec _ (256 - (32 + (fld bs 30 2))) _ (bs.drop (32 + (fld bs 30 2))) (by simp; omega)) ca90 (lt_ rfl) rfl) rfl rfl rfl ?_
      rintro _ rfl
      refine W113 ?_
      refine W285 ?_
      refine WX.regs (L' := [(0, _), (2, _), (5, _), (64, _)]) ?_
      refine W0 ?_
      refine WC.condb rfl (fun h6 => ?_) (fun h6 => ?_)
      ·
       refine W240 ?_
       refine W74 ?_
       refine W91 ?_
       refine W271 ?_
       refine W34 ?_
       refine W33 ?_
       refine W263 ?_
       exact Fin.ret2 xI ((none, 0, 0, pt0, 3)) (⟨Eq.symm (by first | exact dec_len hm heq (by omega) | exact dec_bad hm heq (by omega) (.inr (by simpa using h6))), rfl⟩) Tryz.results63 rfl (.cellN rfl ag123 xM xL) (.tmp rfl) xT (by simp)
      ·
       refine W274 ?_
       refine WL.dupr (v := .slice A 256 c) (sz := 1) (m := 256) (xs := bvs bs) xM (rd_subB (l := 32) (h := 32 + (fld bs 30 2)) (by omega) (by omega)) ?_
       refine W4 ?_
       refine wlv (op_fieldAddr fo158_1 (lt_ rfl) rfl) rfl ?_
       refine W21 ?_
       refine W16 ?_
       refine wlv (op_slice_lh Tryz.underlying30 sz5 (lt_ rfl) rfl rfl rfl (by omega) (by omega) (by omega)) rfl ?_
       refine wlx (op_call (f91_spec _ (32 + (fld bs 30 2) - 32) _ ((bs.drop 32).take (32 + (fld bs 30 2) - 32)) (by simp; omega) (by omega)) ca91 (lt_ rfl) rfl) rfl ?_
       rintro ⟨Ac, cc⟩ _
       rw [show 32 + (fld bs 30 2) - 32 = (fld bs 30 2) by omega]
       refine wlv (op_fieldAddr fo158_0 (lt_ rfl) rfl) rfl ?_
       refine W126 ?_
       refine W136 ?_
       refine W10 ?_
       refine WL.blkEq (b := b3) (hdc (fld bs 24 2 : Nat) (fld bs 16 4 : Nat) (fld bs 20 4 : Nat) (fld bs 26 2 : Nat) (fld bs 28 2 : Nat) (.slice Ac (fld bs 30 2) cc) (fld bs 30 2 : Nat)) xK (by rfl) ?_
       refine W2 ?_
       refine WX.regs (L' := [(2, _), (5, _)]) ?_
       refine W269 ?_
       refine wlv (op_fieldAddr fo158_0 (lt_ rfl) rfl) rfl ?_
       refine wlv (op_loadN ag123 (lt_ rfl) rfl xM rfl) rfl ?_
       refine wlx (op_call (f92_spec _ _ _ _ _ Ac (fld bs 30 2) cc) ca92 (lt_ rfl) rfl) rfl ?_
       rintro _ rfl
       refine W24 ?_
       refine W2 ?_
       refine WX.regs (L' := [(2, _), (5, _), (77, _)]) ?_
       refine W0 ?_
       refine WC.cond rfl (fun h7 => ?_) (fun h7 => ?_)
       ·
        refine W240 ?_
        refine W74 ?_
        refine W91 ?_
        refine W271 ?_
        refine W34 ?_
        refine W33 ?_
        refine W263 ?_
        exact Fin.ret2 xI ((none, 0, 0, pt0, 3)) (⟨(dec_bad hm heq (by omega) (.inl (by unfold Pt.chk; rw [decP_len hm (by omega)]; exact h7))).symm, rfl⟩) Tryz.results63 rfl (.cellN rfl ag123 xM xL) (.tmp rfl) xT (by simp)
       ·
        refine W274 ?_
        refine wlv (op_fieldAddr fo158_0 (lt_ rfl) rfl) rfl ?_
        refine wlv (op_loadN ag123 (lt_ rfl) rfl xM rfl) rfl ?_
        refine W91 ?_
        refine W271 ?_
        refine W33 ?_
        refine W242 ?_
        exact Fin.ret2 xI ((Ac, cc, (fld bs 30 2), decP bs, 0)) (⟨(dec_ok hm heq (by omega) (by unfold Pt.chk; rw [decP_len hm (by omega)]; exact Decidable.not_not.1 h7) (by simpa using h6)).symm, (decP_len hm (by omega)).symm⟩) Tryz.results63 rfl (.cellN rfl ag123 xM xL) (.tmp rfl) xT (by simp)
end Go.Proofs.YtkjlbedebmffgaaGreat.Sx
