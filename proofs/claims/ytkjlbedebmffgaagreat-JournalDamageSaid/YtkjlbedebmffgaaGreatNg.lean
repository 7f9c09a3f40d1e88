import Derived.Test.YtkjlbedebmffgaaGreatNf
import Derived.Test.YtkjlbedebmffgaaGreatNc
import Derived.ChangeKeysEq
import Derived.Laws.StructEq
set_option linter.unusedVariables false
set_option linter.unusedSimpArgs false
namespace Go.Proofs.YtkjlbedebmffgaaGreat.Sx
open Go.RowKit Go.Proofs.YtkjlbedebmffgaaGreat.Ty
attribute [local irreducible] blk own rd rx frameC
def need (m : Nat) : Nat := max 1 ((m + 223) / 224)
def chunk (p : List UInt8) (i : Nat) : List UInt8 := (p.drop (i * 224)).take (min ((i + 1) * 224) p.length - i * 224)
def sect (k g n : Int) (p : List UInt8) (i : Nat) : List UInt8 := enc k.toNat g.toNat n.toNat i (need p.length) (chunk p i)
def sects (k g n : Int) (p : List UInt8) : List (List UInt8) := (List.range (need p.length)).map (sect k g n p)
def split (k g n : Int) (p : List UInt8) : List (List UInt8) × Int :=
 if ¬ fineP k g n then ([], 2) else if p.length > 131072 then ([], 5) else (sects k g n p, 0)
theorem need_le {m : Nat} (h : m ≤ 131072) : 1 ≤ need m ∧ need m ≤ 586 := by unfold need; omega
theorem chunk_length (p : List UInt8) (i : Nat) : (chunk p i).length = min ((i + 1) * 224) p.length - i * 224 := by
 simp only [chunk, List.length_take, List.length_drop]; omega
theorem chk_part {k g n : Int} {p : List UInt8} {i : Nat} (hf : fineP k g n) (hp : p.length ≤ 131072) (hi : i < need p.length) : chk k g n i (need p.length) (chunk p i).length = 0 := by
 have hn := need_le hp
 have hl := chunk_length p i
 have hi2 := hi
 generalize (chunk p i).length = l at *
 have hb : i * 224 < p.length ∨ (i = 0 ∧ p.length = 0) := by unfold need at hi2; omega
 have hc : ¬ i = need p.length - 1 → (i + 1) * 224 < p.length := by unfold need at *; omega
 have hd : i = need p.length - 1 → p.length ≤ (i + 1) * 224 := by unfold need at *; omega
 have he : need p.length > 1 → 224 < p.length := by unfold need at *; omega
 generalize need p.length = c at *
 unfold chk
 rw [if_neg (by simp only [fineP] at *; omega), if_neg (by omega), if_neg (by omega), if_neg (by omega)]
theorem range_push {α : Type} (f : Nat → α) (i : Nat) : (List.range (i + 1)).map f = (List.range i).map f ++ [f i] := by simp [List.range_succ]
theorem map_push (rs : List Bs) (r : Bs) : rs.map Bs.v ++ [r.v] = (rs ++ [r]).map Bs.v := by simp
theorem len_push (rs : List Bs) (r : Bs) : rs.length + 1 = (rs ++ [r]).length := by simp
section
variable {P : Program} {n : Fr} {L : List (Nat × Value)} {H : List Ch} {d : Nat} {ty : TypeId} {pos : String} {af : Array Edge} {g : Option (Nat × Bool)} {x y : Operand} {t : TypeId} {ats : Array TypeId}
theorem op_minN {k : IntKind} {a b : Nat} (hn : d < n.n) (hx : evr L x = some (.int k (a : Int))) (hy : evr L y = some (.int k (b : Int))) :
  Val P ⟨some d, .call { callee := .builtin .min, args := #[x, y], argTypes := ats }, ty, pos, af, g⟩ n L H d (.int k ((min a b : Nat) : Int)) := by
 have h := op_min (P := P) (H := H) (t := 0) (ty := ty) (pos := pos) (af := af) (g := g) (ats := ats) hn hx hy
 have e : min (a : Int) (b : Int) = ((min a b : Nat) : Int) := by omega
 rw [e] at h
 exact h
theorem op_maxN {k : IntKind} {a b : Nat} (hn : d < n.n) (hx : evr L x = some (.int k (a : Int))) (hy : evr L y = some (.int k (b : Int))) :
  Val P ⟨some d, .call { callee := .builtin .max, args := #[x, y], argTypes := ats }, ty, pos, af, g⟩ n L H d (.int k ((max a b : Nat) : Int)) := by
 have h := op_max (P := P) (H := H) (t := 0) (ty := ty) (pos := pos) (af := af) (g := g) (ats := ats) hn hx hy
 have e : max (a : Int) (b : Int) = ((max a b : Nat) : Int) := by omega
 rw [e] at h
 exact h
end
set_option maxHeartbeats 400000 in
set_option maxRecDepth 10000 in
theorem f54_spec (m : Nat) (hm : m ≤ 1000000) :
  Spec Tryz.prog 54 [.int .i64 (m : Int)] [] [] (R := Unit) (fun _ => True) (fun _ => .int .i64 ((need m : Nat) : Int)) (fun _ => []) := by
 refine Spec.intro Tryz.func54 Tryz.ntmps54 rfl (by simp) (by simp) fun w0 => ?_
 refine W300 ?_
 refine W261 ?_
 refine W16 ?_
 refine W109 ?_
 refine wlv (op_maxN (a := 1) (b := (m + 223) / 224) (by decide) rfl rfl) rfl ?_
 refine W260 ?_
 exact Fin.ret1 xI (()) (trivial) Tryz.results54 (.tmp rfl) xT (by simp)
set_option maxHeartbeats 400000 in
set_option maxRecDepth 10000 in
theorem f71_spec (m : Int) :
  Spec Tryz.prog 71 [.int .i64 m] [] [] (R := Int × Int) (fun q => q = if 0 ≤ m ∧ m ≤ 131072 then ((((need m.toNat : Nat) : Int), 0) : Int × Int) else (0, 2)) (fun q => .tuple #[.int .i64 q.1, .int .i64 q.2]) (fun _ => []) := by
 refine Spec.intro Tryz.func71 Tryz.ntmps71 rfl (by simp) (by simp) fun w0 => ?_
 refine W240 ?_
 refine W251 ?_
 refine W31 ?_
 refine W282 ?_
 refine wlx (op_call (f93_spec _ _) ca93 (lt_ rfl) rfl) rfl ?_
 rintro _ rfl
 refine W86 ?_
 refine W2 ?_
 refine WX.regs (L' := [(0, _), (6, _)]) ?_
 refine W0 ?_
 refine WC.cond rfl (fun h1 => ?_) (fun h1 => ?_)
 ·
  refine W240 ?_
  refine W251 ?_
  refine W33 ?_
  refine W263 ?_
  exact Fin.ret2 xI ((0, 2)) (by rw [if_neg h1]) Tryz.results71 rfl (.tmp rfl) (.tmp rfl) xT (by simp)
 ·
  obtain ⟨m, rfl⟩ := Int.eq_ofNat_of_zero_le (by omega : 0 ≤ m)
  have e1 : ((m : Int) + 224 - 1) / 224 = (((m + 223) / 224 : Nat) : Int) := by omega
  refine W8 ?_
  refine W261 ?_
  refine W16 ?_
  refine W94 ?_
  refine W109 ?_
  rw [e1]
  refine wlv (op_maxN (a := 1) (b := (m + 223) / 224) (by decide) rfl rfl) rfl ?_
  refine W251 ?_
  refine W33 ?_
  refine W242 ?_
  exact Fin.ret2 xI ((((need m : Nat) : Int), 0)) (by rw [if_pos (by omega)]; rfl) Tryz.results71 rfl (.tmp rfl) (.tmp rfl) xT (by simp)
set_option maxHeartbeats 400000 in
set_option maxRecDepth 10000 in
theorem f45_spec (k g n : Int) (A : Option Addr) (m c : Nat) (p : List UInt8) (hm : p.length = m) :
  Spec Tryz.prog 45 [.agg #[.int .i64 k, .int .i64 g, .int .i64 n, .slice A m c]] [] [rd (.slice A m c) 1 m (bvs p)] (R := Option Addr × Nat × List Bs × Int)
   (fun q => (q.2.2.1.map Bs.s, q.2.2.2) = split k g n p) (fun q => .tuple #[.slice q.1 q.2.2.1.length q.2.1, .int .i64 q.2.2.2])
   (fun q => [own (.slice q.1 q.2.2.1.length q.2.1) 30 1 q.2.2.1.length (q.2.2.1.map Bs.v), rowsC true q.2.2.1]) := by
 refine Spec.intro Tryz.func45 Tryz.ntmps45 rfl (by simp) (by simp) fun w0 => ?_
 refine W240 ?_
 refine wl1 (op_box (lt_ rfl) rfl rfl) rfl fun b1 => ?_
 refine W251 ?_
 refine WX.regs (L' := [(1, _)]) ?_
 refine W0 ?_
 refine W254 ?_
 refine W240 ?_
 refine wlv (op_fieldAddr fo104_0 (lt_ rfl) rfl) rfl ?_
 refine W21 ?_
 refine wlv (op_fieldAddr fo104_1 (lt_ rfl) rfl) rfl ?_
 refine W21 ?_
 refine wlv (op_fieldAddr fo104_2 (lt_ rfl) rfl) rfl ?_
 refine W21 ?_
 refine wlv (op_build (cs := [.int .i64 k, .int .i64 g, .int .i64 n]) (pv := [(0, _), (1, _), (2, _)]) (lt_ rfl) rfl (by kernel_rfl)) rfl ?_
 refine wlx (op_call (f70_spec _ _ _) ca70 (lt_ rfl) rfl) rfl ?_
 rintro _ rfl
 refine W86 ?_
 refine W241 ?_
 refine WX.regs (L' := [(1, _), (11, _)]) ?_
 refine W0 ?_
 refine WC.cond rfl (fun h1 => ?_) (fun h1 => ?_)
 ·
  refine W240 ?_
  refine W251 ?_
  refine W258 ?_
  refine W33 ?_
  refine W275 ?_
  exact Fin.ret2 xI ((none, 0, [], 2)) (by unfold split; rw [if_pos (by omega)]; rfl) Tryz.results45 rfl (.tmp rfl) (.tmp rfl) xT (by simp)
 ·
  have hf : fineP k g n := by omega
  refine W240 ?_
  refine W114 ?_
  refine W52 ?_
  refine W38 ?_
  refine W56 ?_
  refine W241 ?_
  refine WX.regs (L' := [(1, _), (21, _)]) ?_
  refine W0 ?_
  refine WC.cond rfl (fun h2 => ?_) (fun h2 => ?_)
  ·
   refine W240 ?_
   refine W251 ?_
   refine W258 ?_
   refine W33 ?_
   refine W275 ?_
   exact Fin.ret2 xI ((none, 0, [], 5)) (by unfold split; rw [if_neg (by omega), if_pos (by omega)]; rfl) Tryz.results45 rfl (.tmp rfl) (.tmp rfl) xT (by simp)
  ·
   have hnd := need_le (m := m) (by omega)
   refine W291 ?_
   refine W249 ?_
   refine W114 ?_
   refine W52 ?_
   refine W38 ?_
   refine wlx (op_call (f71_spec _) ca71 (lt_ rfl) rfl) rfl ?_
   rintro _ rfl
   rw [if_pos (by omega), show ((m : Int)).toNat = m from rfl]
   refine W341 ?_
   refine WX.regs (L' := [(1, _), (4, _)]) ?_
   refine W249 ?_
   refine W241 ?_
   refine WX.regs (L' := [(1, _), (4, _), (6, _)]) ?_
   refine W269 ?_
   refine W244 ?_
   refine W2 ?_
   refine WX.regs (L' := [(1, _), (4, _), (6, _), (33, _), (34, _)]) ?_
   refine W294 ?_
   refine W293 ?_
   refine WC.loop (X := Nat × List Bs × Option Addr × Nat) (fun q => need m - q.1) (fun q => q.1 ≤ need m ∧ q.2.1.map Bs.s = (List.range q.1).map (sect k g n p)) (fun q => [(1, .pointer (some ⟨b1, 0, none⟩)), (4, .int .i64 ((need m : Nat) : Int)), (6, .slice q.2.2.1 q.2.1.length q.2.2.2), (33, .int .i64 ((need m : Nat) : Int)), (34, .int .i64 (q.1 : Int))]) (fun q => [own (.slice q.2.2.1 q.2.1.length q.2.2.2) 30 1 q.2.1.length (q.2.1.map Bs.v), rowsC true q.2.1, blk b1 [.int .i64 k, .int .i64 g, .int .i64 n, .slice A m c] 104, rd (.slice A m c) 1 m (bvs p), frameC w0 (MutF [])]) ((0, [], none, 0)) (⟨Nat.zero_le _, rfl⟩) (fun a w hs => hs.sub xY xT) ?_
   rintro ⟨i, rs, Ao, co⟩ ⟨hi, hrs⟩
   try dsimp only at hi hrs ⊢
   have hlen : rs.length = i := by have := congrArg List.length hrs; simpa using this
   refine W312 ?_
   refine WX.regs (L' := [(1, _), (4, _), (6, _), (33, _), (34, _), (35, _)]) ?_
   refine W327 ?_
   refine WC.cond rfl (fun h3 => ?_) (fun h3 => ?_)
   ·
    refine W298 ?_
    refine W4 ?_
    refine W241 ?_
    refine WX.regs (L' := [(1, _), (4, _), (6, _), (7, _), (33, _), (34, _)]) ?_
    refine W249 ?_
    refine wlv (op_fieldAddr fo104_0 (lt_ rfl) rfl) rfl ?_
    refine W21 ?_
    refine wlv (op_fieldAddr fo104_1 (lt_ rfl) rfl) rfl ?_
    refine W21 ?_
    refine wlv (op_fieldAddr fo104_2 (lt_ rfl) rfl) rfl ?_
    refine W21 ?_
    refine W244 ?_
    refine wlv (op_build (cs := (pcells k g n (i : Int) (need m : Nat) (.slice none 0 0))) (pv := [(0, _), (1, _), (2, _), (3, _), (4, _)]) (lt_ rfl) rfl (by kernel_rfl)) rfl ?_
    refine wl1 (op_alloc ti123 (lt_ rfl)) rfl fun b2 => ?_
    refine W91 ?_
    refine W252 ?_
    refine WX.regs (L' := [(1, _), (4, _), (6, _), (7, _), (8, _), (33, _), (34, _)]) ?_
    refine W249 ?_
    refine WL.capx xS (fun hcap => ?_)
    refine WL.dupr (v := .slice A m c) (sz := 1) (m := m) (xs := bvs p) xM (rd_subB (l := i * 224) (h := min ((i + 1) * 224) m) (by unfold need at *; omega) (by omega)) ?_
    refine W114 ?_
    refine W52 ?_
    refine W4 ?_
    refine W73 ?_
    refine W4 ?_
    refine W16 ?_
    refine W73 ?_
    refine W114 ?_
    refine W52 ?_
    refine W38 ?_
    refine wlv (op_minN (a := (i + 1) * 224) (b := m) (by decide) rfl rfl) rfl ?_
    refine wlv (op_slice_lh Tryz.underlying30 sz5 (lt_ rfl) rfl rfl rfl (by omega) (by unfold need at *; omega) (by omega)) rfl ?_
    refine W126 ?_
    refine W136 ?_
    refine W252 ?_
    refine WX.regs (L' := [(1, _), (4, _), (6, _), (8, _), (33, _), (34, _)]) ?_
    refine W249 ?_
    refine wlv (op_loadAll ag123 (lt_ rfl) rfl xM xL) rfl ?_
    refine wlx (op_call (f72_spec k g n i (need m : Nat) _ (min ((i + 1) * 224) m - i * 224) _ ((p.drop (i * 224)).take (min ((i + 1) * 224) m - i * 224)) (by simp only [List.length_take, List.length_drop]; omega)) ca72 (lt_ rfl) rfl) rfl ?_
    rintro ⟨Ae, ce, le, ee, me⟩ ⟨hle, hee, hme⟩
    dsimp only at hle hee hme
    obtain rfl := hme
    rw [show (p.drop (i * 224)).take (min ((i + 1) * 224) m - i * 224) = chunk p i by unfold chunk; rw [hm]] at hle
    have hch : chk k g n i (need m : Nat) (min ((i + 1) * 224) m - i * 224) = 0 := by
     have := chk_part (p := p) (i := i) hf (by omega) (by rw [hm]; omega)
     rwa [chunk_length, hm] at this
    obtain rfl : ee = 0 := hee.trans hch
    have hle2 : le = sect k g n p i := by
     rw [hle]
     unfold encP
     rw [if_pos (by rw [chunk_length, hm]; exact hch)]
     unfold sect
     rw [hm]
     rfl
    refine W341 ?_
    refine WX.regs (L' := [(1, _), (4, _), (6, _), (9, _), (10, _), (33, _), (34, _)]) ?_
    refine W332 ?_
    refine WX.regs (L' := [(1, _), (4, _), (6, _), (9, _), (10, _), (33, _), (34, _), (65, _)]) ?_
    refine W281 ?_
    refine W0 ?_
    refine W334 ?_
    refine wl1 (op_lit1 Tryz.underlying36 ti30 rfl (by decide) (lt_ rfl) rfl rfl) rfl fun b3 => ?_
    refine wl2 (op_append Tryz.underlying36 ti30 rfl (by decide) (lt_ rfl) rfl rfl xK xS (by rfl) (by omega) (by omega)) rfl fun A1 c1 => ?_
    refine W241 ?_
    refine WX.regs (L' := [(1, _), (4, _), (6, _), (33, _), (34, _)]) ?_
    refine W330 ?_
    refine WX.regs (L' := [(1, _), (4, _), (6, _), (33, _), (34, _)]) ?_
    refine WX.ownEq (v := .slice A1 (rs.length + 1) c1) _ xK (map_push rs ⟨Ae, ce, le⟩) ?_
    refine WX.merge2 (c1 := rowsC true rs) (c2 := own (.slice Ae le.length ce) 5 1 le.length (bvs le)) (d := rowsC true (rs ++ [⟨Ae, ce, le⟩])) xK xK (rowsC_snoc (own_le_bs rfl) (fun _ => by simp)) ?_
    rw [len_push rs ⟨Ae, ce, le⟩]
    refine WX.meet ((i + 1, rs ++ [⟨Ae, ce, le⟩], A1, c1)) ⟨⟨by omega, by rw [range_push, ← hrs, ← hle2]; simp⟩, by simp only []; omega⟩ (fun a w hs => hs.sub xY xT)
   ·
    refine W264 ?_
    refine W261 ?_
    refine W251 ?_
    refine W33 ?_
    refine W242 ?_
    obtain rfl : i = need m := by omega
    exact Fin.ret2 xI ((Ao, co, rs, 0)) (by unfold split; rw [if_neg (by omega), if_neg (by omega)]; unfold sects; rw [hm, hrs]) Tryz.results45 rfl (.tmp rfl) (.tmp rfl) xT (by simp)
set_option maxHeartbeats 400000 in
set_option maxRecDepth 10000 in
theorem f79_spec (k g n : Int) (A : Option Addr) (m c : Nat) (p : List UInt8) (hm : p.length = m) :
  Spec Tryz.prog 79 [.agg #[.int .i64 k, .int .i64 g, .int .i64 n, .slice A m c]] [] [rd (.slice A m c) 1 m (bvs p)] (R := Option Addr × Nat × List Bs × Int)
   (fun q => (q.2.2.1.map Bs.s, q.2.2.2) = split k g n p) (fun q => .tuple #[.slice q.1 q.2.2.1.length q.2.1, .int .i64 q.2.2.2])
   (fun q => [own (.slice q.1 q.2.2.1.length q.2.1) 30 1 q.2.2.1.length (q.2.2.1.map Bs.v), rowsC true q.2.2.1]) := by
 refine Spec.intro Tryz.func79 Tryz.ntmps79 rfl (by simp) (by simp) fun w0 => ?_
 refine W240 ?_
 refine wl1 (op_box (lt_ rfl) rfl rfl) rfl fun b1 => ?_
 refine W251 ?_
 refine WX.regs (L' := [(1, _)]) ?_
 refine W269 ?_
 refine wlv (op_fieldAddr fo144_0 (lt_ rfl) rfl) rfl ?_
 refine W21 ?_
 refine wlv (op_fieldAddr fo144_1 (lt_ rfl) rfl) rfl ?_
 refine W21 ?_
 refine wlv (op_fieldAddr fo144_2 (lt_ rfl) rfl) rfl ?_
 refine W21 ?_
 refine wlx (op_call (f98_spec _ _ _) ca98 (lt_ rfl) rfl) rfl ?_
 rintro _ rfl
 refine W86 ?_
 refine W2 ?_
 refine WX.regs (L' := [(1, _), (14, _)]) ?_
 refine W0 ?_
 refine WC.cond rfl (fun h1 => ?_) (fun h1 => ?_)
 ·
  refine W240 ?_
  refine W251 ?_
  refine W258 ?_
  refine W33 ?_
  refine W263 ?_
  exact Fin.ret2 xI ((none, 0, [], 2)) (by unfold split; rw [if_pos (by omega)]; rfl) Tryz.results79 rfl (.tmp rfl) (.tmp rfl) xT (by simp)
 ·
  have hf : fineP k g n := by omega
  simp only [fineP] at hf
  obtain ⟨k, rfl⟩ := Int.eq_ofNat_of_zero_le hf.1
  obtain ⟨g, rfl⟩ := Int.eq_ofNat_of_zero_le hf.2.2.1
  obtain ⟨n, rfl⟩ := Int.eq_ofNat_of_zero_le hf.2.2.2.2.1
  refine W262 ?_
  refine W259 ?_
  refine wlv (op_fieldAddr fo144_3 (lt_ rfl) rfl) rfl ?_
  refine W52 ?_
  refine W38 ?_
  refine W56 ?_
  refine W2 ?_
  refine WX.regs (L' := [(1, _), (18, _)]) ?_
  refine W0 ?_
  refine WC.cond rfl (fun h2 => ?_) (fun h2 => ?_)
  ·
   refine W240 ?_
   refine W251 ?_
   refine W258 ?_
   refine W33 ?_
   refine W263 ?_
   exact Fin.ret2 xI ((none, 0, [], 5)) (by unfold split; rw [if_neg (by simp only [fineP]; omega), if_pos (by omega)]; rfl) Tryz.results79 rfl (.tmp rfl) (.tmp rfl) xT (by simp)
  ·
   have hnd := need_le (m := m) (by omega)
   refine W274 ?_
   refine W241 ?_
   refine WX.regs (L' := [(1, _), (4, _)]) ?_
   refine W249 ?_
   refine wlv (op_fieldAddr fo144_3 (lt_ rfl) rfl) rfl ?_
   refine W52 ?_
   refine W38 ?_
   refine wlx (op_call (f54_spec m (by omega)) ca54 (lt_ rfl) rfl) rfl ?_
   rintro _ _
   refine W241 ?_
   refine WX.regs (L' := [(1, _), (4, _), (5, _)]) ?_
   refine W310 ?_
   refine WX.regs (L' := [(1, _), (4, _), (5, _), (6, _)]) ?_
   refine W294 ?_
   refine W293 ?_
   refine WC.loop (X := Nat × List Bs × Option Addr × Nat) (fun q => need m - q.1) (fun q => q.1 ≤ need m ∧ q.2.1.map Bs.s = (List.range q.1).map (sect k g n p)) (fun q => [(1, .pointer (some ⟨b1, 0, none⟩)), (4, .slice q.2.2.1 q.2.1.length q.2.2.2), (5, .int .i64 ((need m : Nat) : Int)), (6, .int .i64 (q.1 : Int))]) (fun q => [own (.slice q.2.2.1 q.2.1.length q.2.2.2) 30 1 q.2.1.length (q.2.1.map Bs.v), rowsC true q.2.1, blk b1 [.int .i64 k, .int .i64 g, .int .i64 n, .slice A m c] 144, rd (.slice A m c) 1 m (bvs p), frameC w0 (MutF [])]) ((0, [], none, 0)) (⟨Nat.zero_le _, rfl⟩) (fun a w hs => hs.sub xY xT) ?_
   rintro ⟨i, rs, Ao, co⟩ ⟨hi, hrs⟩
   try dsimp only at hi hrs ⊢
   have hlen : rs.length = i := by have := congrArg List.length hrs; simpa using this
   refine W314 ?_
   refine W265 ?_
   refine WX.regs (L' := [(1, _), (4, _), (5, _), (6, _), (25, _)]) ?_
   refine W0 ?_
   refine WC.cond rfl (fun h3 => ?_) (fun h3 => ?_)
   ·
    refine W270 ?_
    refine WC.drawn (Hs := [blk b1 [.int .i64 k, .int .i64 g, .int .i64 n, .slice A m c] 144]) mo 999 ?_
    refine WA.capx xS (fun hcap => ?_)
    have hin : 224 * i ≤ m := by unfold need at *; omega
    refine WA.dup (c := rd (.slice A m c) 1 m (bvs p)) (d := rd (sliced A (224 * i) (min (224 * i + 224) m) c 1) 1 (min (224 * i + 224) m - 224 * i) (bvs ((p.drop (224 * i)).take (min (224 * i + 224) m - 224 * i)))) xM (by simp) (by simp) (rd_subB (l := 224 * i) (h := min (224 * i + 224) m) (by omega) (by omega)) ?_
    refine W29 ?_
    refine WA.take (i := 1) rfl (by kernel_rfl) (fun _ _ _ h => h) rfl (op_fieldAddr fo144_0 (lt_ rfl) rfl) xT ?_
    refine W130 ?_
    refine WA.take (i := 3) rfl (by kernel_rfl) (fun _ _ _ h => h) rfl (op_fieldAddr fo144_1 (lt_ rfl) rfl) xT ?_
    refine W129 ?_
    refine WA.take (i := 5) rfl (by kernel_rfl) (fun _ _ _ h => h) rfl (op_fieldAddr fo144_2 (lt_ rfl) rfl) xT ?_
    refine W167 ?_
    refine W168 ?_
    refine W71 ?_
    refine WA.take (i := 9) rfl (by kernel_rfl) (fun _ _ _ h => h) rfl (op_fieldAddr fo144_3 (lt_ rfl) rfl) xT ?_
    refine WA.take (i := 10) rfl (by kernel_rfl) (fun _ _ _ h => h) rfl (op_load1 fl30 (lt_ rfl) rfl xM rfl) xT ?_
    refine W122 ?_
    refine WA.take (i := 12) rfl (by kernel_rfl) (fun _ _ _ h => h) rfl (op_mul (lt_ rfl) rfl rfl (by omega)) xT ?_
    refine WA.take (i := 13) rfl (by kernel_rfl) (fun _ _ _ h => h) rfl (op_move (lt_ rfl) rfl) xT ?_
    refine WA.take (i := 14) rfl (by kernel_rfl) (fun _ _ _ h => h) rfl (op_mul (lt_ rfl) rfl rfl (by omega)) xT ?_
    refine WA.take (i := 15) rfl (by kernel_rfl) (fun _ _ _ h => h) rfl (op_add (lt_ rfl) rfl rfl (by omega)) xT ?_
    refine WA.take (i := 16) rfl (by kernel_rfl) (fun _ _ _ h => h) rfl (op_fieldAddr fo144_3 (lt_ rfl) rfl) xT ?_
    refine WA.take (i := 17) rfl (by kernel_rfl) (fun _ _ _ h => h) rfl (op_load1 fl30 (lt_ rfl) rfl xM rfl) xT ?_
    refine WA.take (i := 18) rfl (by kernel_rfl) (fun _ _ _ h => h) rfl (op_len Tryz.underlying30 (lt_ rfl) rfl) xT ?_
    refine WA.take (i := 19) rfl (by kernel_rfl) (fun _ _ _ h => h) rfl (op_minN (a := 224 * i + 224) (b := m) (by decide) rfl rfl) xT ?_
    refine WA.take (i := 20) rfl (by kernel_rfl) (fun _ _ _ h => h) rfl (op_slice_lh Tryz.underlying30 sz5 (lt_ rfl) rfl rfl rfl (by omega) (by omega) (by omega)) xT ?_
    refine WA.take (i := 21) rfl (by kernel_rfl) (fun _ _ _ h => h) rfl (op_build (cs := (pcells k g n i (need m : Nat) (sliced A (224 * i) (min (224 * i + 224) m) c 1))) (pv := [(0, _), (1, _), (2, _), (3, _), (4, _), (5, _)]) (lt_ rfl) rfl (by kernel_rfl)) xT ?_
    refine WA.stepx (i := 22) (by kernel_rfl) rfl rfl (op_call (f99_spec k g n i (need m) _ (min (224 * i + 224) m - 224 * i) _ ((p.drop (224 * i)).take (min (224 * i + 224) m - 224 * i)) (by simp only [List.length_take, List.length_drop]; omega) (by omega) (by omega) (by omega) (by omega) (by omega) (by omega)) ca99 (lt_ rfl) rfl) (fun _ r => xT) ?_
    rintro ⟨Ae, ce⟩ _
    rw [show enc k g n i (need m) ((p.drop (224 * i)).take (min (224 * i + 224) m - 224 * i)) = sect k g n p i by unfold sect chunk; rw [hm, Nat.mul_comm 224 i, show (i + 1) * 224 = i * 224 + 224 by omega]; rfl]
    refine WA.step1 (i := 23) (by kernel_rfl) rfl rfl (op_lit1 Tryz.underlying36 ti30 rfl (by decide) (lt_ rfl) rfl rfl) (fun _ b => xT) fun b2 => ?_
    refine WA.step2 (i := 24) (by kernel_rfl) rfl rfl (op_append Tryz.underlying36 ti30 rfl (by decide) (lt_ rfl) rfl rfl xK xS (by rfl) (by omega) (by omega)) (fun _ A c => xT) fun A1 c1 => ?_
    refine WA.take (i := 25) rfl (by kernel_rfl) (fun _ _ _ h => h) rfl (op_assign (lt_ rfl) rfl) xT ?_
    refine W19 ?_
    refine WX.regs (L' := [(1, _), (4, _), (5, _), (6, _)]) ?_
    refine W352 ?_
    refine WX.regs (L' := [(1, _), (4, _), (5, _), (6, _)]) ?_
    have hse : (sect k g n p i).length = 256 := enc_length _ _ _ _ _ _
    refine WX.ownEq (v := .slice A1 (rs.length + 1) c1) ((rs ++ [(⟨Ae, ce, sect k g n p i⟩ : Bs)]).map Bs.v) xK (by rw [← map_push]; unfold Bs.v; rw [hse]; rfl) ?_
    refine WX.merge2 (c1 := rowsC true rs) (c2 := own (.slice Ae 256 ce) 5 1 256 (bvs (sect k g n p i))) (d := rowsC true (rs ++ [⟨Ae, ce, sect k g n p i⟩])) xK xK (rowsC_snoc (own_le_bs hse) (fun _ => by simp)) ?_
    rw [len_push rs ⟨Ae, ce, sect k g n p i⟩]
    refine WX.meet ((i + 1, rs ++ [⟨Ae, ce, sect k g n p i⟩], A1, c1)) ⟨⟨by omega, by rw [range_push, ← hrs]; simp⟩, by simp only []; omega⟩ (fun a w hs => hs.sub xY xT)
   ·
    refine W264 ?_
    refine W261 ?_
    refine W251 ?_
    refine W33 ?_
    refine W242 ?_
    obtain rfl : i = need m := by omega
    exact Fin.ret2 xI ((Ao, co, rs, 0)) (by unfold split; rw [if_neg (by simp only [fineP]; omega), if_neg (by omega)]; unfold sects; rw [hm, hrs]) Tryz.results79 rfl (.tmp rfl) (.tmp rfl) xT (by simp)
end Go.Proofs.YtkjlbedebmffgaaGreat.Sx
namespace Go.Proofs.YtkjlbedebmffgaaGreat.Sx
open Go.RowKit Go.Proofs.YtkjlbedebmffgaaGreat.Ty
attribute [local irreducible] blk own rd rx frameC
section
variable {n : Fr} {L : List (Nat × Value)} {H : List Ch} {d : Nat} {ty : TypeId} {pos : String} {af : Array Edge} {g : Option (Nat × Bool)} {x y : Operand} {yt : TypeId}
theorem key_eq (w : World) (a b c a' b' c' : Int) : (Op.equalIn 10000 135 (.agg #[.int .i64 a, .int .i64 b, .int .i64 c]) (.agg #[.int .i64 a', .int .i64 b', .int .i64 c'])).run Tryz.prog w = .ok (decide (a = a' ∧ b = b' ∧ c = c')) w := by
 have hf : Tryz.prog.fieldsOf 135 = #[⟨"kind", 3, 0, false, "", "bulletin/record", 0⟩, ⟨"generation", 3, 1, false, "", "bulletin/record", 8⟩, ⟨"number", 3, 2, false, "", "bulletin/record", 16⟩] := by
  unfold Program.fieldsOf
  rw [Tryz.underlying135]
 rw [run_equalIn_struct w 9999 135 _ _ (by rw [hf]; exact Tryz.underlying135) (by kernel_rfl), hf]
 have he : ∀ (u v : Int) (w' : World), (Op.equalIn 9999 3 (.int .i64 u) (.int .i64 v)).run Tryz.prog w' = .ok (u == v) w' := fun u v w' => run_equalIn_int w' 9998 3 .i64 .i64 u v Tryz.underlying3
 have hp : ∀ (xs : Array Value) (o : Nat) (v : Value) (w' : World), xs[o]? = some v → (part 3 xs o).run Tryz.prog w' = .ok v w' := fun xs o v w' h => by simp [part, Sem.run_bind, fl3.isAgg, h]
 have p0 := fun (u v z : Int) (w' : World) => hp #[.int .i64 u, .int .i64 v, .int .i64 z] 0 _ w' rfl
 have p1 := fun (u v z : Int) (w' : World) => hp #[.int .i64 u, .int .i64 v, .int .i64 z] 1 _ w' rfl
 have p2 := fun (u v z : Int) (w' : World) => hp #[.int .i64 u, .int .i64 v, .int .i64 z] 2 _ w' rfl
 simp only [Op.eqFields, ne_eq, String.reduceEq, not_false_eq_true, if_true, Sem.run_bind, p0, Result.andThen_ok, he]
 by_cases h1 : a = a' <;> by_cases h2 : b = b' <;> by_cases h3 : c = c' <;> simp [h1, h2, h3, p0, p1, p2, he]
theorem op_neqkey {a b c a' b' c' : Int} (hn : d < n.n) (hx : evr L x = some (.agg #[.int .i64 a, .int .i64 b, .int .i64 c])) (hy : evr L y = some (.agg #[.int .i64 a', .int .i64 b', .int .i64 c'])) :
  Val Tryz.prog ⟨some d, .binOp .neq 135 x y yt, ty, pos, af, g⟩ n L H d (.bool (decide (¬ (a = a' ∧ b = b' ∧ c = c')))) :=
 Val.mk rfl hn fun w0 w hs => by
  have hg := fun X Y => run_eqGuard_agg (P := Tryz.prog) w .neq 135 X Y #[.int .i64 a, .int .i64 b, .int .i64 c] #[.int .i64 a', .int .i64 b', .int .i64 c'] (by kernel_rfl)
  simp only [execOp, hs.eval hx, hs.eval hy, Sem.run_bind, hg, Result.andThen_ok, run_neq_struct, key_eq, Sem.run_pure, ← decide_not]
end
theorem dec_fine {bs : List UInt8} {p : Pt} (h : (p, 0) = dec bs) : p.chk = 0 ∧ bs.length = 256 := by
 unfold dec at h
 split at h
 ·cases h
 ·split at h
  ·cases h
  ·split at h
   ·cases h
   ·split at h
    ·cases h
    ·split at h
     ·cases h
     ·rename_i h1 h2 h3 h4 h5
      cases h
      exact ⟨Decidable.byContradiction fun k => h5 (.inl k), by omega⟩
structure Rcd where
 (k g n : Int)
 p : List UInt8
def rc0 : Rcd := ⟨0, 0, 0, []⟩
def jbad (f p : Pt) (i : Nat) : Prop := ¬ p.i = (i : Int) ∨ ¬ (p.k = f.k ∧ p.g = f.g ∧ p.n = f.n) ∨ ¬ p.c = f.c
instance (f p : Pt) (i : Nat) : Decidable (jbad f p i) := by unfold jbad; infer_instance
def jf (ss : List (List UInt8)) (f : Pt) : Nat → Nat → List UInt8 → Rcd × Int × Int
 | 0, _, acc => (⟨f.k, f.g, f.n, acc⟩, f.c, 0)
 | r + 1, i, acc =>
  if ss.length ≤ i then (rc0, 0, 23)
  else if ¬ (dec (ss.getD i [])).2 = 0 then (rc0, 0, (dec (ss.getD i [])).2)
  else if jbad f (dec (ss.getD i [])).1 i then (rc0, 0, 30)
  else jf ss f r (i + 1) (acc ++ (dec (ss.getD i [])).1.b)
def join (ss : List (List UInt8)) : Rcd × Int × Int :=
 if ss.length = 0 then (rc0, 0, 4)
 else if ¬ (dec (ss.getD 0 [])).2 = 0 then (rc0, 0, (dec (ss.getD 0 [])).2)
 else if ¬ (dec (ss.getD 0 [])).1.i = 0 then (rc0, 0, 30)
 else jf ss (dec (ss.getD 0 [])).1 ((dec (ss.getD 0 [])).1.c.toNat - 1) 1 (dec (ss.getD 0 [])).1.b
section
variable {ss : List (List UInt8)} {s : List UInt8} {p f : Pt} {e : Int} {i r : Nat} {acc : List UInt8}
theorem ss_at {rs : List Bs} {i : Nat} {r : Bs} (h : rs[i]? = some r) : (rs.map Bs.s).getD i [] = r.s := by simp [List.getD_eq_getElem?_getD, h]
theorem rows_at {rs : List Bs} {i : Nat} {r : Bs} (h : rs[i]? = some r) : (rs.map Bs.v)[i]? = some r.v := by simp [h]
theorem rows_at' {rs : List Bs} {i j : Nat} {r : Bs} (h : rs[i]? = some r) (hj : j = i) : (rs.map Bs.v)[j]? = some r.v := by subst hj; exact rows_at h
theorem join_first (h0 : ¬ ss.length = 0) (hs : ss.getD 0 [] = s) (hd : (p, e) = dec s) (he : ¬ e = 0) : join ss = (rc0, 0, e) := by
 unfold join; rw [hs, ← hd, if_neg h0, if_pos he]
theorem join_seq (h0 : ¬ ss.length = 0) (hs : ss.getD 0 [] = s) (hd : (p, 0) = dec s) (hi : ¬ p.i = 0) : join ss = (rc0, 0, 30) := by
 unfold join; rw [hs, ← hd, if_neg h0, if_neg (fun k => k rfl), if_pos hi]
theorem join_go (h0 : ¬ ss.length = 0) (hs : ss.getD 0 [] = s) (hd : (p, 0) = dec s) (hi : p.i = 0) : join ss = jf ss p (p.c.toNat - 1) 1 p.b := by
 unfold join; rw [hs, ← hd, if_neg h0, if_neg (fun k => k rfl), if_neg (fun k => k hi)]
theorem jf_short (h : ss.length ≤ i) : jf ss f (r + 1) i acc = (rc0, 0, 23) := by unfold jf; rw [if_pos h]
theorem jf_err (h : ¬ ss.length ≤ i) (hs : ss.getD i [] = s) (hd : (p, e) = dec s) (he : ¬ e = 0) : jf ss f (r + 1) i acc = (rc0, 0, e) := by
 unfold jf; rw [hs, ← hd, if_neg h, if_pos he]
theorem jf_bad (h : ¬ ss.length ≤ i) (hs : ss.getD i [] = s) (hd : (p, 0) = dec s) (hb : jbad f p i) : jf ss f (r + 1) i acc = (rc0, 0, 30) := by
 unfold jf; rw [hs, ← hd, if_neg h, if_neg (fun k => k rfl), if_pos hb]
theorem jf_next (h : ¬ ss.length ≤ i) (hs : ss.getD i [] = s) (hd : (p, 0) = dec s) (hb : ¬ jbad f p i) : jf ss f (r + 1) i acc = jf ss f r (i + 1) (acc ++ p.b) := by
 conv => lhs; unfold jf
 rw [hs, ← hd, if_neg h, if_neg (fun k => k rfl), if_neg hb]
end
set_option maxHeartbeats 400000 in
set_option maxRecDepth 10000 in
theorem f94_spec (A : Option Addr) (M c : Nat) (rs : List Bs) (hM : rs.length = M) :
  Spec Tryz.prog 94 [.slice A M c] [] [rd (.slice A M c) 1 M (rs.map Bs.v), rowsC false rs] (R := Option Addr × Nat × Rcd × Int × Int)
   (fun q => q.2.2 = join (rs.map Bs.s))
   (fun q => .tuple #[.agg #[.int .i64 q.2.2.1.k, .int .i64 q.2.2.1.g, .int .i64 q.2.2.1.n, .slice q.1 q.2.2.1.p.length q.2.1], .int .i64 q.2.2.2.1, .int .i64 q.2.2.2.2])
   (fun q => [own (.slice q.1 q.2.2.1.p.length q.2.1) 5 1 q.2.2.1.p.length (bvs q.2.2.1.p)]) := by
 refine Spec.intro Tryz.func94 Tryz.ntmps94 rfl (by simp) (by simp) fun w0 => ?_
 refine W240 ?_
 refine wl1 (op_alloc ti104 (lt_ rfl)) rfl fun b1 => ?_
 refine W251 ?_
 refine W63 ?_
 refine W282 ?_
 refine W40 ?_
 refine W42 ?_
 refine W2 ?_
 refine WX.regs (L' := [(0, _), (2, _), (11, _)]) ?_
 refine W0 ?_
 refine WC.cond rfl (fun h1 => ?_) (fun h1 => ?_)
 ·
  refine W240 ?_
  refine W59 ?_
  refine W81 ?_
  refine W356 ?_
  refine W263 ?_
  exact Fin.ret3 xI ((none, 0, rc0, 0, 4)) (Eq.symm (by unfold join; rw [if_pos (by rw [List.length_map]; omega)])) Tryz.results94 rfl (.cellN rfl ag104 xM xL) (.tmp rfl) (.tmp rfl) xT (by simp)
 ·
  have hM1 : 0 < M := by omega
  have h0 : ¬ (rs.map Bs.s).length = 0 := by rw [List.length_map]; omega
  obtain ⟨r0, hr0⟩ : ∃ r0, rs[0]? = some r0 := ⟨rs[0]'(by omega), List.getElem?_eq_getElem _⟩
  have hm0 : r0 ∈ rs := List.mem_of_getElem? hr0
  refine W274 ?_
  refine WL.dup (c := rowsC false rs) (d := rd (.slice r0.A r0.s.length r0.c) 1 r0.s.length (bvs r0.s)) xM (by rfl) (by simp) (rowsC_get (r := r0) hm0) ?_
  refine W4 ?_
  refine wlv (op_index Tryz.underlying36 sz30 (lt_ rfl) rfl rfl (by omega) (by omega) (by decide) (Src.rd xM)) rfl ?_
  refine wlv (op_loadS fl30 (lt_ rfl) rfl (Src.rd xM) (rows_at hr0)) rfl ?_
  refine wlx (op_call (f63_spec r0.A r0.s.length r0.c r0.s rfl) ca63 (lt_ rfl) rfl) rfl ?_
  rintro ⟨Af, cf, mf, pf, ef⟩ ⟨hdf, hmf⟩
  dsimp only at hdf hmf
  subst hmf
  dsimp only
  refine W296 ?_
  refine wl1 (op_alloc ti123 (lt_ rfl)) rfl fun b2 => ?_
  refine W91 ?_
  refine W271 ?_
  refine WX.regs (L' := [(0, _), (2, _), (4, _), (5, _)]) ?_
  refine W0 ?_
  refine W254 ?_
  refine W240 ?_
  refine W256 ?_
  refine W241 ?_
  refine WX.regs (L' := [(0, _), (2, _), (4, _), (5, _), (20, _)]) ?_
  refine W0 ?_
  refine WC.cond rfl (fun h2 => ?_) (fun h2 => ?_)
  ·
   refine W240 ?_
   refine W59 ?_
   refine W4 ?_
   refine W81 ?_
   refine W356 ?_
   refine W275 ?_
   exact Fin.ret3 xI ((none, 0, rc0, 0, ef)) (Eq.symm (join_first h0 (ss_at hr0) hdf (by omega))) Tryz.results94 rfl (.cellN rfl ag104 xM xL) (.tmp rfl) (.tmp rfl) xT (by simp)
  ·
   obtain rfl : ef = 0 := by omega
   obtain ⟨hchk, hl0⟩ := dec_fine hdf
   unfold Pt.chk at hchk
   obtain ⟨hff, hc1, hc2, hi1, hi2, hb2⟩ := chk_ok hchk
   have hs0 := ss_at hr0
   refine W240 ?_
   refine wlv (op_fieldAddr fo123_3 (lt_ rfl) rfl) rfl ?_
   refine W21 ?_
   refine W24 ?_
   refine W241 ?_
   refine WX.regs (L' := [(0, _), (2, _), (5, _), (25, _)]) ?_
   refine W0 ?_
   refine WC.cond rfl (fun h3 => ?_) (fun h3 => ?_)
   ·
    refine W240 ?_
    refine W59 ?_
    refine W81 ?_
    refine W356 ?_
    refine W275 ?_
    exact Fin.ret3 xI ((none, 0, rc0, 0, 30)) (Eq.symm (join_seq h0 hs0 hdf (by omega))) Tryz.results94 rfl (.cellN rfl ag104 xM xL) (.tmp rfl) (.tmp rfl) xT (by simp)
   ·
    refine W291 ?_
    refine W249 ?_
    refine wlv (op_fieldAddr fo123_0 (lt_ rfl) rfl) rfl ?_
    refine W21 ?_
    refine W335 ?_
    refine wlv (op_fieldAddr fo123_2 (lt_ rfl) rfl) rfl ?_
    refine W21 ?_
    refine W126 ?_
    refine W52 ?_
    refine wlv (op_build (cs := [.int .i64 pf.k, .int .i64 pf.g, .int .i64 pf.n, .slice Af pf.b.length cf]) (pv := [(0, _), (1, _), (2, _), (3, _)]) (lt_ rfl) rfl (by kernel_rfl)) rfl ?_
    refine W81 ?_
    refine W252 ?_
    refine WX.regs (L' := [(0, _), (2, _), (5, _)]) ?_
    refine W310 ?_
    refine WX.regs (L' := [(0, _), (2, _), (5, _), (6, _)]) ?_
    refine W294 ?_
    refine WC.loop (X := Nat × List UInt8 × Option Addr × Nat) (fun q => pf.c.toNat - q.1) (fun q => 1 ≤ q.1 ∧ q.1 ≤ pf.c.toNat ∧ q.2.1.length ≤ 224 * q.1 ∧ join (rs.map Bs.s) = jf (rs.map Bs.s) pf (pf.c.toNat - q.1) q.1 q.2.1) (fun q => [(0, .slice A M c), (2, .pointer (some ⟨b1, 0, none⟩)), (5, .pointer (some ⟨b2, 0, none⟩)), (6, .int .i64 (q.1 : Int))]) (fun q => [own (.slice q.2.2.1 q.2.1.length q.2.2.2) 5 1 q.2.1.length (bvs q.2.1), blk b1 [.int .i64 pf.k, .int .i64 pf.g, .int .i64 pf.n, .slice q.2.2.1 q.2.1.length q.2.2.2] 104, blk b2 (pcells pf.k pf.g pf.n pf.i pf.c (.slice Af pf.b.length cf)) 123, rd (.slice A M c) 1 M (rs.map Bs.v), rowsC false rs, frameC w0 (MutF [])]) ((1, pf.b, Af, cf)) (⟨Nat.le_refl _, by simp only []; omega, by simp only []; omega, join_go h0 hs0 hdf (by omega)⟩) (fun a w hs => hs.sub xY xT) ?_
    rintro ⟨i, acc, Aa, ca⟩ ⟨hi, hic, hal, hj⟩
    try dsimp only at hi hic hal hj ⊢
    refine W328 ?_
    refine wlv (op_fieldAddr fo123_4 (lt_ rfl) rfl) rfl ?_
    refine W21 ?_
    refine W265 ?_
    refine WX.regs (L' := [(0, _), (2, _), (5, _), (6, _), (42, _)]) ?_
    refine W0 ?_
    refine WC.cond rfl (fun h4 => ?_) (fun h4 => ?_)
    ·
     refine W270 ?_
     refine W314 ?_
     refine W40 ?_
     refine W66 ?_
     refine W2 ?_
     refine WX.regs (L' := [(0, _), (2, _), (5, _), (6, _), (48, _)]) ?_
     refine W0 ?_
     refine WC.cond rfl (fun h5 => ?_) (fun h5 => ?_)
     ·
      refine W240 ?_
      refine W59 ?_
      refine W81 ?_
      refine W356 ?_
      refine W263 ?_
      refine W246 ?_
      refine W315 ?_
      obtain ⟨r, hrr⟩ : ∃ r, pf.c.toNat - i = r + 1 := ⟨pf.c.toNat - i - 1, by omega⟩
      exact Fin.ret3 xI ((none, 0, rc0, 0, 23)) (by rw [hj, hrr, jf_short (by rw [List.length_map]; omega)]) Tryz.results94 rfl (.cellN rfl ag104 xM xL) (.tmp rfl) (.tmp rfl) xT (by simp)
     ·
      have hlen : ¬ (rs.map Bs.s).length ≤ i := by rw [List.length_map]; omega
      obtain ⟨ri, hri⟩ : ∃ ri, rs[i]? = some ri := ⟨rs[i]'(by omega), List.getElem?_eq_getElem _⟩
      have hmi : ri ∈ rs := List.mem_of_getElem? hri
      refine W274 ?_
      refine WL.dup (c := rowsC false rs) (d := rd (.slice ri.A ri.s.length ri.c) 1 ri.s.length (bvs ri.s)) xM (by rfl) (by simp) (rowsC_get (r := ri) hmi) ?_
      refine W244 ?_
      refine W95 ?_
      refine W141 ?_
      refine wlx (op_call (f63_spec ri.A ri.s.length ri.c ri.s rfl) ca63 (lt_ rfl) rfl) rfl ?_
      rintro ⟨Ap, cp, mp, pp, ep⟩ ⟨hdp, hmp⟩
      dsimp only at hdp hmp
      subst hmp
      dsimp only
      refine W296 ?_
      refine wl1 (op_alloc ti123 (lt_ rfl)) rfl fun b3 => ?_
      refine W91 ?_
      refine W271 ?_
      refine WX.regs (L' := [(0, _), (2, _), (5, _), (6, _), (7, _), (8, _)]) ?_
      refine W0 ?_
      refine W254 ?_
      refine W240 ?_
      refine W256 ?_
      refine W241 ?_
      refine WX.regs (L' := [(0, _), (2, _), (5, _), (6, _), (7, _), (8, _), (58, _)]) ?_
      refine W0 ?_
      refine WC.cond rfl (fun h6 => ?_) (fun h6 => ?_)
      ·
       refine W240 ?_
       refine W59 ?_
       refine W4 ?_
       refine W81 ?_
       refine W356 ?_
       refine W275 ?_
       refine W246 ?_
       refine W315 ?_
       obtain ⟨r, hrr⟩ : ∃ r, pf.c.toNat - i = r + 1 := ⟨pf.c.toNat - i - 1, by omega⟩
       exact Fin.ret3 xI ((none, 0, rc0, 0, ep)) (by rw [hj, hrr, jf_err hlen (ss_at hri) hdp (by omega)]) Tryz.results94 rfl (.cellN rfl ag104 xM xL) (.tmp rfl) (.tmp rfl) xT (by simp)
      ·
       obtain rfl : ep = 0 := by omega
       obtain ⟨hchkp, hlp⟩ := dec_fine hdp
       unfold Pt.chk at hchkp
       obtain ⟨_, _, _, _, _, hbp⟩ := chk_ok hchkp
       refine W301 ?_
       refine WA.take (i := 0) rfl (by kernel_rfl) (fun _ _ _ h => h) rfl (op_fieldAddr fo123_3 (lt_ rfl) rfl) xT ?_
       refine WA.take (i := 1) rfl (by kernel_rfl) (fun _ _ _ h => h) rfl (op_load1 fl3 (lt_ rfl) rfl xM rfl) xT ?_
       refine W60 ?_
       refine WA.take (i := 3) rfl (by kernel_rfl) (fun _ _ _ h => h) rfl (op_neq (lt_ rfl) rfl rfl) xT ?_
       refine W51 ?_
       refine WA.split (t := 68) rfl (fun g68 => ?_) (fun g68 => ?_)
       ·
        refine WA.skipG (i := 5) rfl (by kernel_rfl) (fun _ _ _ h => h) rfl rfl rfl xI rfl (by decide) xT ?_
        refine WA.skipG (i := 6) rfl (by kernel_rfl) (fun _ _ _ h => h) rfl rfl rfl xI rfl (by decide) xT ?_
        refine WA.skipG (i := 7) rfl (by kernel_rfl) (fun _ _ _ h => h) rfl rfl rfl xI rfl (by decide) xT ?_
        refine WA.skipG (i := 8) rfl (by kernel_rfl) (fun _ _ _ h => h) rfl rfl rfl xI rfl (by decide) xT ?_
        refine WA.skipG (i := 9) rfl (by kernel_rfl) (fun _ _ _ h => h) rfl rfl rfl xI rfl (by decide) xT ?_
        refine WA.take (i := 10) rfl (by kernel_rfl) (fun _ _ _ h => h) rfl (op_pickT (lt_ rfl) rfl rfl) xT ?_
        refine W122 ?_
        refine W193 ?_
        refine W194 ?_
        refine W195 ?_
        refine WA.skipG (i := 15) rfl (by kernel_rfl) (fun _ _ _ h => h) rfl rfl rfl xI rfl (by decide) xT ?_
        refine WA.skipG (i := 16) rfl (by kernel_rfl) (fun _ _ _ h => h) rfl rfl rfl xI rfl (by decide) xT ?_
        refine WA.take (i := 17) rfl (by kernel_rfl) (fun _ _ _ h => h) rfl (op_pickT (lt_ rfl) rfl rfl) xT ?_
        refine W100 ?_
        refine W19 ?_
        refine WX.regs (L' := [(0, _), (2, _), (5, _), (6, _), (7, _), (63, _)]) ?_
        refine W353 ?_
        refine W59 ?_
        refine W81 ?_
        refine W356 ?_
        refine W275 ?_
        refine W246 ?_
        refine W315 ?_
        obtain ⟨r, hrr⟩ : ∃ r, pf.c.toNat - i = r + 1 := ⟨pf.c.toNat - i - 1, by omega⟩
        exact Fin.ret3 xI ((none, 0, rc0, 0, 30)) (by rw [hj, hrr, jf_bad hlen (ss_at hri) hdp (by unfold jbad; omega)]) Tryz.results94 rfl (.cellN rfl ag104 xM xL) (.tmp rfl) (.tmp rfl) xT (by simp)
       ·
        refine WA.takeG (i := 5) rfl (by kernel_rfl) (fun _ _ _ h => h) rfl rfl rfl (op_loadAll ag123 (lt_ rfl) rfl xM xL) xT ?_
        refine WA.takeG (i := 7) rfl (by kernel_rfl) (fun _ _ _ h => h) rfl rfl rfl (op_loadAll ag123 (lt_ rfl) rfl xM xL) xT ?_
        refine WA.stepGx (i := 6) (by kernel_rfl) rfl rfl rfl rfl (op_call (f103_spec _ _ _ _ _ _) ca103 (lt_ rfl) rfl) (fun _ r => xT) ?_
        rintro _ _
        refine WA.stepGx (i := 8) (by kernel_rfl) rfl rfl rfl rfl (op_call (f103_spec _ _ _ _ _ _) ca103 (lt_ rfl) rfl) (fun _ r => xT) ?_
        rintro _ _
        refine WA.takeG (i := 9) rfl (by kernel_rfl) (fun _ _ _ h => h) rfl rfl rfl (op_neqkey (by decide) rfl rfl) xT ?_
        refine WA.take (i := 10) rfl (by kernel_rfl) (fun _ _ _ h => h) rfl (op_pickF (lt_ rfl) rfl rfl) xT ?_
        refine W122 ?_
        refine WA.split (t := 75) rfl (fun g75 => ?_) (fun g75 => ?_)
        ·
         refine W193 ?_
         refine W194 ?_
         refine W195 ?_
         refine WA.skipG (i := 15) rfl (by kernel_rfl) (fun _ _ _ h => h) rfl rfl rfl xI rfl (by decide) xT ?_
         refine WA.skipG (i := 16) rfl (by kernel_rfl) (fun _ _ _ h => h) rfl rfl rfl xI rfl (by decide) xT ?_
         refine WA.take (i := 17) rfl (by kernel_rfl) (fun _ _ _ h => h) rfl (op_pickT (lt_ rfl) rfl rfl) xT ?_
         refine W100 ?_
         refine W19 ?_
         refine WX.regs (L' := [(0, _), (2, _), (5, _), (6, _), (7, _), (63, _)]) ?_
         refine W353 ?_
         refine W59 ?_
         refine W81 ?_
         refine W356 ?_
         refine W275 ?_
         refine W246 ?_
         refine W315 ?_
         obtain ⟨r, hrr⟩ : ∃ r, pf.c.toNat - i = r + 1 := ⟨pf.c.toNat - i - 1, by omega⟩
         exact Fin.ret3 xI ((none, 0, rc0, 0, 30)) (by rw [hj, hrr, jf_bad hlen (ss_at hri) hdp (by unfold jbad; omega)]) Tryz.results94 rfl (.cellN rfl ag104 xM xL) (.tmp rfl) (.tmp rfl) xT (by simp)
        ·
         refine WA.takeG (i := 12) rfl (by kernel_rfl) (fun _ _ _ h => h) rfl rfl rfl (op_fieldAddr fo123_4 (lt_ rfl) rfl) xT ?_
         refine WA.takeG (i := 13) rfl (by kernel_rfl) (fun _ _ _ h => h) rfl rfl rfl (op_load1 fl3 (lt_ rfl) rfl xM rfl) xT ?_
         refine WA.takeG (i := 14) rfl (by kernel_rfl) (fun _ _ _ h => h) rfl rfl rfl (op_fieldAddr fo123_4 (lt_ rfl) rfl) xT ?_
         refine WA.takeG (i := 15) rfl (by kernel_rfl) (fun _ _ _ h => h) rfl rfl rfl (op_load1 fl3 (lt_ rfl) rfl xM rfl) xT ?_
         refine WA.takeG (i := 16) rfl (by kernel_rfl) (fun _ _ _ h => h) rfl rfl rfl (op_neq (lt_ rfl) rfl rfl) xT ?_
         refine WA.take (i := 17) rfl (by kernel_rfl) (fun _ _ _ h => h) rfl (op_pickF (lt_ rfl) rfl rfl) xT ?_
         refine W100 ?_
         refine W19 ?_
         refine WX.regs (L' := [(0, _), (2, _), (5, _), (6, _), (7, _), (63, _)]) ?_
         refine W0 ?_
         refine WC.cond rfl (fun h7 => ?_) (fun h7 => ?_)
         ·
          refine W240 ?_
          refine W59 ?_
          refine W81 ?_
          refine W356 ?_
          refine W275 ?_
          refine W246 ?_
          refine W315 ?_
          obtain ⟨r, hrr⟩ : ∃ r, pf.c.toNat - i = r + 1 := ⟨pf.c.toNat - i - 1, by omega⟩
          exact Fin.ret3 xI ((none, 0, rc0, 0, 30)) (by rw [hj, hrr, jf_bad hlen (ss_at hri) hdp (by unfold jbad; omega)]) Tryz.results94 rfl (.cellN rfl ag104 xM xL) (.tmp rfl) (.tmp rfl) xT (by simp)
         ·
          refine W291 ?_
          refine W0 ?_
          refine W3 ?_
          refine W114 ?_
          refine W52 ?_
          refine W126 ?_
          refine W52 ?_
          refine wl2 (op_append Tryz.underlying30 ti5 rfl (by decide) (lt_ rfl) rfl rfl xK xS (bvs_one _) (by omega) (by omega)) rfl fun A1 c1 => ?_
          refine W114 ?_
          refine W136 ?_
          refine W252 ?_
          refine WX.blkEq (b := b1) [.int .i64 pf.k, .int .i64 pf.g, .int .i64 pf.n, .slice A1 (acc.length + pp.b.length) c1] xK (by rfl) ?_
          refine WX.ownEq (v := .slice A1 (acc.length + pp.b.length) c1) _ xK (bvs_append acc pp.b).symm ?_
          rw [← List.length_append]
          refine WX.regs (L' := [(0, _), (2, _), (5, _), (6, _)]) ?_
          refine W352 ?_
          refine WX.regs (L' := [(0, _), (2, _), (5, _), (6, _)]) ?_
          have hsi := ss_at hri
          obtain ⟨r, hrr⟩ : ∃ r, pf.c.toNat - i = r + 1 := ⟨pf.c.toNat - i - 1, by omega⟩
          have hrr2 : pf.c.toNat - (i + 1) = r := by omega
          have hnb : ¬ jbad pf pp i := by unfold jbad; omega
          refine WX.meet ((i + 1, acc ++ pp.b, A1, c1)) ⟨⟨by simp only []; omega, by simp only []; omega, by simp only [List.length_append]; omega, by rw [hj, hrr]; exact (jf_next hlen hsi hdp hnb).trans (by rw [hrr2])⟩, by simp only []; omega⟩ (fun a w hs => hs.sub xY xT)
    ·
     refine W264 ?_
     refine W327 ?_
     refine WC.drawn (Hs := [blk b2 (pcells pf.k pf.g pf.n pf.i pf.c (.slice Af pf.b.length cf)) 123]) mo 999 ?_
     refine WA.take (i := 1) rfl (by kernel_rfl) (fun _ _ _ h => h) rfl (op_fieldAddr fo123_4 (lt_ rfl) rfl) xT ?_
     refine W130 ?_
     refine WA.stepv (i := 0) (by kernel_rfl) rfl rfl (op_loadAll ag104 (lt_ rfl) rfl xM xL) (fun _ => xT) ?_
     refine WA.stepo (i := 3) (by kernel_rfl) rfl rfl (op_storeAll sz104 rfl rfl xK xL xO xL) (fun _ => xT) ?_
     refine W101 ?_
     refine WA.take (i := 5) rfl (by kernel_rfl) (fun _ _ _ h => h) rfl (op_assign (lt_ rfl) rfl) xT ?_
     refine W19 ?_
     refine W47 ?_
     refine W242 ?_
     exact Fin.ret3 xI ((Aa, ca, ⟨pf.k, pf.g, pf.n, acc⟩, pf.c, 0)) (by rw [hj, show pf.c.toNat - i = 0 by omega]; rfl) Tryz.results94 rfl (.cellN rfl ag104 xM xL) (.tmp rfl) (.tmp rfl) xT (by simp)
set_option maxHeartbeats 400000 in
set_option maxRecDepth 10000 in
theorem f100_spec (A : Option Addr) (M c : Nat) (rs : List Bs) (hM : rs.length = M) :
  Spec Tryz.prog 100 [.slice A M c] [] [rd (.slice A M c) 1 M (rs.map Bs.v), rowsC false rs] (R := Option Addr × Nat × Rcd × Int × Int)
   (fun q => q.2.2 = join (rs.map Bs.s))
   (fun q => .tuple #[.agg #[.int .i64 q.2.2.1.k, .int .i64 q.2.2.1.g, .int .i64 q.2.2.1.n, .slice q.1 q.2.2.1.p.length q.2.1], .int .i64 q.2.2.2.1, .int .i64 q.2.2.2.2])
   (fun q => [own (.slice q.1 q.2.2.1.p.length q.2.1) 5 1 q.2.2.1.p.length (bvs q.2.2.1.p)]) := by
 refine Spec.intro Tryz.func100 Tryz.ntmps100 rfl (by simp) (by simp) fun w0 => ?_
 refine W240 ?_
 refine wl1 (op_alloc ti144 (lt_ rfl)) rfl fun b1 => ?_
 refine W251 ?_
 refine W63 ?_
 refine W282 ?_
 refine W40 ?_
 refine W42 ?_
 refine W2 ?_
 refine WX.regs (L' := [(0, _), (2, _), (13, _)]) ?_
 refine W0 ?_
 refine WC.cond rfl (fun h1 => ?_) (fun h1 => ?_)
 ·
  refine W240 ?_
  refine W59 ?_
  refine W92 ?_
  refine W356 ?_
  refine W263 ?_
  exact Fin.ret3 xI ((none, 0, rc0, 0, 4)) (Eq.symm (by unfold join; rw [if_pos (by rw [List.length_map]; omega)])) Tryz.results100 rfl (.cellN rfl ag144 xM xL) (.tmp rfl) (.tmp rfl) xT (by simp)
 ·
  have hM1 : 0 < M := by omega
  have h0 : ¬ (rs.map Bs.s).length = 0 := by rw [List.length_map]; omega
  obtain ⟨r0, hr0⟩ : ∃ r0, rs[0]? = some r0 := ⟨rs[0]'(by omega), List.getElem?_eq_getElem _⟩
  have hm0 : r0 ∈ rs := List.mem_of_getElem? hr0
  refine W274 ?_
  refine WL.dup (c := rowsC false rs) (d := rd (.slice r0.A r0.s.length r0.c) 1 r0.s.length (bvs r0.s)) xM (by rfl) (by simp) (rowsC_get (r := r0) hm0) ?_
  refine W4 ?_
  refine wlv (op_index Tryz.underlying36 sz30 (lt_ rfl) rfl rfl (by omega) (by omega) (by decide) (Src.rd xM)) rfl ?_
  refine wlv (op_loadS fl30 (lt_ rfl) rfl (Src.rd xM) (rows_at hr0)) rfl ?_
  refine wlx (op_call (f75_spec r0.A r0.s.length r0.c r0.s rfl) ca75 (lt_ rfl) rfl) rfl ?_
  rintro ⟨Af, cf, mf, pf, ef⟩ ⟨hdf, hmf⟩
  dsimp only at hdf hmf
  subst hmf
  dsimp only
  refine W296 ?_
  refine wl1 (op_alloc ti139 (lt_ rfl)) rfl fun b2 => ?_
  refine W75 ?_
  refine W271 ?_
  refine WX.regs (L' := [(0, _), (2, _), (5, _), (6, _)]) ?_
  refine W332 ?_
  refine WX.regs (L' := [(0, _), (2, _), (5, _), (6, _), (23, _)]) ?_
  refine W0 ?_
  refine WC.cond rfl (fun h2 => ?_) (fun h2 => ?_)
  ·
   refine W240 ?_
   refine W59 ?_
   refine W4 ?_
   refine W92 ?_
   refine W356 ?_
   refine W263 ?_
   exact Fin.ret3 xI ((none, 0, rc0, 0, ef)) (Eq.symm (join_first h0 (ss_at hr0) hdf (by omega))) Tryz.results100 rfl (.cellN rfl ag144 xM xL) (.tmp rfl) (.tmp rfl) xT (by simp)
  ·
   obtain rfl : ef = 0 := by omega
   obtain ⟨hchk, hl0⟩ := dec_fine hdf
   unfold Pt.chk at hchk
   obtain ⟨hff, hc1, hc2, hi1, hi2, hb2⟩ := chk_ok hchk
   have hs0 := ss_at hr0
   refine W262 ?_
   refine W259 ?_
   refine wlv (op_fieldAddr fo139_3 (lt_ rfl) rfl) rfl ?_
   refine W21 ?_
   refine W24 ?_
   refine W2 ?_
   refine WX.regs (L' := [(0, _), (2, _), (5, _), (28, _)]) ?_
   refine W0 ?_
   refine WC.cond rfl (fun h3 => ?_) (fun h3 => ?_)
   ·
    refine W240 ?_
    refine W59 ?_
    refine W92 ?_
    refine W356 ?_
    refine W263 ?_
    exact Fin.ret3 xI ((none, 0, rc0, 0, 30)) (Eq.symm (join_seq h0 hs0 hdf (by omega))) Tryz.results100 rfl (.cellN rfl ag144 xM xL) (.tmp rfl) (.tmp rfl) xT (by simp)
   ·
    refine W274 ?_
    refine wlv (op_fieldAddr fo139_0 (lt_ rfl) rfl) rfl ?_
    refine W21 ?_
    refine W317 ?_
    refine wlv (op_fieldAddr fo139_2 (lt_ rfl) rfl) rfl ?_
    refine W21 ?_
    refine wlv (op_fieldAddr fo139_5 (lt_ rfl) rfl) rfl ?_
    refine W52 ?_
    refine wlv (op_build (cs := [.int .i64 pf.k, .int .i64 pf.g, .int .i64 pf.n, .slice Af pf.b.length cf]) (pv := [(0, _), (1, _), (2, _), (3, _)]) (lt_ rfl) rfl (by kernel_rfl)) rfl ?_
    refine wl1 (op_alloc ti144 (lt_ rfl)) rfl fun b3 => ?_
    refine W92 ?_
    refine W252 ?_
    refine WX.regs (L' := [(0, _), (2, _), (5, _), (7, _)]) ?_
    refine W310 ?_
    refine WX.regs (L' := [(0, _), (2, _), (5, _), (7, _), (8, _)]) ?_
    refine W294 ?_
    refine WC.loop (X := Nat × List UInt8 × Option Addr × Nat) (fun q => pf.c.toNat - q.1) (fun q => 1 ≤ q.1 ∧ q.1 ≤ pf.c.toNat ∧ q.2.1.length ≤ 224 * q.1 ∧ join (rs.map Bs.s) = jf (rs.map Bs.s) pf (pf.c.toNat - q.1) q.1 q.2.1) (fun q => [(0, .slice A M c), (2, .pointer (some ⟨b1, 0, none⟩)), (5, .pointer (some ⟨b2, 0, none⟩)), (7, .pointer (some ⟨b3, 0, none⟩)), (8, .int .i64 (q.1 : Int))]) (fun q => [own (.slice q.2.2.1 q.2.1.length q.2.2.2) 5 1 q.2.1.length (bvs q.2.1), blk b3 [.int .i64 pf.k, .int .i64 pf.g, .int .i64 pf.n, .slice q.2.2.1 q.2.1.length q.2.2.2] 144, blk b2 (pcells pf.k pf.g pf.n pf.i pf.c (.slice Af pf.b.length cf)) 139, blk b1 [.int .i64 0, .int .i64 0, .int .i64 0, .slice none 0 0] 144, rd (.slice A M c) 1 M (rs.map Bs.v), rowsC false rs, frameC w0 (MutF [])]) ((1, pf.b, Af, cf)) (⟨Nat.le_refl _, by simp only []; omega, by simp only []; omega, join_go h0 hs0 hdf (by omega)⟩) (fun a w hs => hs.sub xY xT) ?_
    rintro ⟨i, acc, Aa, ca⟩ ⟨hi, hic, hal, hj⟩
    try dsimp only at hi hic hal hj ⊢
    refine W328 ?_
    refine wlv (op_fieldAddr fo139_4 (lt_ rfl) rfl) rfl ?_
    refine W21 ?_
    refine W265 ?_
    refine WX.regs (L' := [(0, _), (2, _), (5, _), (7, _), (8, _), (42, _)]) ?_
    refine W0 ?_
    refine WC.cond rfl (fun h4 => ?_) (fun h4 => ?_)
    ·
     refine W270 ?_
     refine W314 ?_
     refine W40 ?_
     refine W66 ?_
     refine W2 ?_
     refine WX.regs (L' := [(0, _), (2, _), (5, _), (7, _), (8, _), (48, _)]) ?_
     refine W0 ?_
     refine WC.cond rfl (fun h5 => ?_) (fun h5 => ?_)
     ·
      refine W240 ?_
      refine W59 ?_
      refine W92 ?_
      refine W356 ?_
      refine W263 ?_
      refine W246 ?_
      refine W315 ?_
      obtain ⟨r, hrr⟩ : ∃ r, pf.c.toNat - i = r + 1 := ⟨pf.c.toNat - i - 1, by omega⟩
      exact Fin.ret3 xI ((none, 0, rc0, 0, 23)) (by rw [hj, hrr, jf_short (by rw [List.length_map]; omega)]) Tryz.results100 rfl (.cellN rfl ag144 xM xL) (.tmp rfl) (.tmp rfl) xT (by simp)
     ·
      have hlen : ¬ (rs.map Bs.s).length ≤ i := by rw [List.length_map]; omega
      obtain ⟨ri, hri⟩ : ∃ ri, rs[i]? = some ri := ⟨rs[i]'(by omega), List.getElem?_eq_getElem _⟩
      have hmi : ri ∈ rs := List.mem_of_getElem? hri
      refine W274 ?_
      refine WL.dup (c := rowsC false rs) (d := rd (.slice ri.A ri.s.length ri.c) 1 ri.s.length (bvs ri.s)) xM (by rfl) (by simp) (rowsC_get (r := ri) hmi) ?_
      refine W244 ?_
      refine W95 ?_
      refine W141 ?_
      refine wlx (op_call (f75_spec ri.A ri.s.length ri.c ri.s rfl) ca75 (lt_ rfl) rfl) rfl ?_
      rintro ⟨Ap, cp, mp, pp, ep⟩ ⟨hdp, hmp⟩
      dsimp only at hdp hmp
      subst hmp
      dsimp only
      refine W296 ?_
      refine wl1 (op_alloc ti139 (lt_ rfl)) rfl fun b4 => ?_
      refine W75 ?_
      refine W271 ?_
      refine WX.regs (L' := [(0, _), (2, _), (5, _), (7, _), (8, _), (9, _), (10, _)]) ?_
      refine W332 ?_
      refine WX.regs (L' := [(0, _), (2, _), (5, _), (7, _), (8, _), (9, _), (10, _), (59, _)]) ?_
      refine W0 ?_
      refine WC.cond rfl (fun h6 => ?_) (fun h6 => ?_)
      ·
       refine W240 ?_
       refine W59 ?_
       refine W4 ?_
       refine W92 ?_
       refine W356 ?_
       refine W263 ?_
       refine W246 ?_
       refine W315 ?_
       obtain ⟨r, hrr⟩ : ∃ r, pf.c.toNat - i = r + 1 := ⟨pf.c.toNat - i - 1, by omega⟩
       exact Fin.ret3 xI ((none, 0, rc0, 0, ep)) (by rw [hj, hrr, jf_err hlen (ss_at hri) hdp (by omega)]) Tryz.results100 rfl (.cellN rfl ag144 xM xL) (.tmp rfl) (.tmp rfl) xT (by simp)
      ·
       obtain rfl : ep = 0 := by omega
       obtain ⟨hchkp, hlp⟩ := dec_fine hdp
       unfold Pt.chk at hchkp
       obtain ⟨_, _, _, _, _, hbp⟩ := chk_ok hchkp
       refine W262 ?_
       refine W259 ?_
       refine wlv (op_fieldAddr fo139_3 (lt_ rfl) rfl) rfl ?_
       refine W21 ?_
       refine W256 ?_
       refine W4 ?_
       refine WL.split (t := 66) rfl (fun g66 => ?_) (fun g66 => ?_)
       ·
        refine W320 ?_
        refine W4 ?_
        refine W320 ?_
        refine W4 ?_
        refine W320 ?_
        refine W4 ?_
        refine W320 ?_
        refine W2 ?_
        refine W169 ?_
        refine W353 ?_
        refine W59 ?_
        refine W92 ?_
        refine W356 ?_
        refine W263 ?_
        refine W246 ?_
        refine W315 ?_
        obtain ⟨r, hrr⟩ : ∃ r, pf.c.toNat - i = r + 1 := ⟨pf.c.toNat - i - 1, by omega⟩
        exact Fin.ret3 xI ((none, 0, rc0, 0, 30)) (by rw [hj, hrr, jf_bad hlen (ss_at hri) hdp (by unfold jbad; omega)]) Tryz.results100 rfl (.cellN rfl ag144 xM xL) (.tmp rfl) (.tmp rfl) xT (by simp)
       ·
        refine W124 ?_
        refine W28 ?_
        refine W124 ?_
        refine W28 ?_
        refine W44 ?_
        refine W15 ?_
        refine W4 ?_
        refine WL.split (t := 73) rfl (fun g73 => ?_) (fun g73 => ?_)
        ·
         refine W320 ?_
         refine W4 ?_
         refine W320 ?_
         refine W4 ?_
         refine W320 ?_
         refine W2 ?_
         refine W169 ?_
         refine W353 ?_
         refine W59 ?_
         refine W92 ?_
         refine W356 ?_
         refine W263 ?_
         refine W246 ?_
         refine W315 ?_
         obtain ⟨r, hrr⟩ : ∃ r, pf.c.toNat - i = r + 1 := ⟨pf.c.toNat - i - 1, by omega⟩
         exact Fin.ret3 xI ((none, 0, rc0, 0, 30)) (by rw [hj, hrr, jf_bad hlen (ss_at hri) hdp (by unfold jbad; omega)]) Tryz.results100 rfl (.cellN rfl ag144 xM xL) (.tmp rfl) (.tmp rfl) xT (by simp)
        ·
         refine wlgv (op_fieldAddr fo139_0 (lt_ rfl) rfl) rfl rfl rfl ?_
         refine W28 ?_
         refine wlgv (op_fieldAddr fo144_0 (lt_ rfl) rfl) rfl rfl rfl ?_
         refine W28 ?_
         refine W44 ?_
         refine W15 ?_
         refine W4 ?_
         refine WL.split (t := 80) rfl (fun g80 => ?_) (fun g80 => ?_)
         ·
          refine W320 ?_
          refine W4 ?_
          refine W320 ?_
          refine W2 ?_
          refine W169 ?_
          refine W353 ?_
          refine W59 ?_
          refine W92 ?_
          refine W356 ?_
          refine W263 ?_
          refine W246 ?_
          refine W315 ?_
          obtain ⟨r, hrr⟩ : ∃ r, pf.c.toNat - i = r + 1 := ⟨pf.c.toNat - i - 1, by omega⟩
          exact Fin.ret3 xI ((none, 0, rc0, 0, 30)) (by rw [hj, hrr, jf_bad hlen (ss_at hri) hdp (by unfold jbad; omega)]) Tryz.results100 rfl (.cellN rfl ag144 xM xL) (.tmp rfl) (.tmp rfl) xT (by simp)
         ·
          refine wlgv (op_fieldAddr fo139_1 (lt_ rfl) rfl) rfl rfl rfl ?_
          refine W28 ?_
          refine wlgv (op_fieldAddr fo144_1 (lt_ rfl) rfl) rfl rfl rfl ?_
          refine W28 ?_
          refine W44 ?_
          refine W15 ?_
          refine W4 ?_
          refine WL.split (t := 87) rfl (fun g87 => ?_) (fun g87 => ?_)
          ·
           refine W320 ?_
           refine W2 ?_
           refine W169 ?_
           refine W353 ?_
           refine W59 ?_
           refine W92 ?_
           refine W356 ?_
           refine W263 ?_
           refine W246 ?_
           refine W315 ?_
           obtain ⟨r, hrr⟩ : ∃ r, pf.c.toNat - i = r + 1 := ⟨pf.c.toNat - i - 1, by omega⟩
           exact Fin.ret3 xI ((none, 0, rc0, 0, 30)) (by rw [hj, hrr, jf_bad hlen (ss_at hri) hdp (by unfold jbad; omega)]) Tryz.results100 rfl (.cellN rfl ag144 xM xL) (.tmp rfl) (.tmp rfl) xT (by simp)
          ·
           refine wlgv (op_fieldAddr fo139_2 (lt_ rfl) rfl) rfl rfl rfl ?_
           refine W28 ?_
           refine wlgv (op_fieldAddr fo144_2 (lt_ rfl) rfl) rfl rfl rfl ?_
           refine W28 ?_
           refine W44 ?_
           refine W285 ?_
           refine W169 ?_
           refine W0 ?_
           refine WC.cond rfl (fun h7 => ?_) (fun h7 => ?_)
           ·
            refine W240 ?_
            refine W59 ?_
            refine W92 ?_
            refine W356 ?_
            refine W263 ?_
            refine W246 ?_
            refine W315 ?_
            obtain ⟨r, hrr⟩ : ∃ r, pf.c.toNat - i = r + 1 := ⟨pf.c.toNat - i - 1, by omega⟩
            exact Fin.ret3 xI ((none, 0, rc0, 0, 30)) (by rw [hj, hrr, jf_bad hlen (ss_at hri) hdp (by unfold jbad; omega)]) Tryz.results100 rfl (.cellN rfl ag144 xM xL) (.tmp rfl) (.tmp rfl) xT (by simp)
           ·
            refine W262 ?_
            refine W3 ?_
            refine wlv (op_fieldAddr fo144_3 (lt_ rfl) rfl) rfl ?_
            refine W52 ?_
            refine wlv (op_fieldAddr fo139_5 (lt_ rfl) rfl) rfl ?_
            refine W52 ?_
            refine wl2 (op_append Tryz.underlying30 ti5 rfl (by decide) (lt_ rfl) rfl rfl xK xS (bvs_one _) (by omega) (by omega)) rfl fun A1 c1 => ?_
            refine wlv (op_fieldAddr fo144_3 (lt_ rfl) rfl) rfl ?_
            refine W136 ?_
            refine W252 ?_
            refine WX.blkEq (b := b3) [.int .i64 pf.k, .int .i64 pf.g, .int .i64 pf.n, .slice A1 (acc.length + pp.b.length) c1] xK (by rfl) ?_
            refine WX.ownEq (v := .slice A1 (acc.length + pp.b.length) c1) _ xK (bvs_append acc pp.b).symm ?_
            rw [← List.length_append]
            refine WX.regs (L' := [(0, _), (2, _), (5, _), (7, _), (8, _)]) ?_
            refine W352 ?_
            refine WX.regs (L' := [(0, _), (2, _), (5, _), (7, _), (8, _)]) ?_
            have hsi := ss_at hri
            obtain ⟨r, hrr⟩ : ∃ r, pf.c.toNat - i = r + 1 := ⟨pf.c.toNat - i - 1, by omega⟩
            have hrr2 : pf.c.toNat - (i + 1) = r := by omega
            have hnb : ¬ jbad pf pp i := by unfold jbad; omega
            refine WX.meet ((i + 1, acc ++ pp.b, A1, c1)) ⟨⟨by simp only []; omega, by simp only []; omega, by simp only [List.length_append]; omega, by rw [hj, hrr]; exact (jf_next hlen hsi hdp hnb).trans (by rw [hrr2])⟩, by simp only []; omega⟩ (fun a w hs => hs.sub xY xT)
    ·
     refine W264 ?_
     refine W327 ?_
     refine WC.drawn (Hs := [blk b3 [.int .i64 pf.k, .int .i64 pf.g, .int .i64 pf.n, .slice Aa acc.length ca] 144, blk b2 (pcells pf.k pf.g pf.n pf.i pf.c (.slice Af pf.b.length cf)) 139]) mo 999 ?_
     refine WA.take (i := 0) rfl (by kernel_rfl) (fun _ _ _ h => h) rfl (op_loadAll ag144 (lt_ rfl) rfl xM xL) xT ?_
     refine WA.take (i := 1) rfl (by kernel_rfl) (fun _ _ _ h => h) rfl (op_fieldAddr fo139_4 (lt_ rfl) rfl) xT ?_
     refine W130 ?_
     refine WA.stepo (i := 3) (by kernel_rfl) rfl rfl (op_storeAll sz144 rfl rfl xK xL xO xL) (fun _ => xT) ?_
     refine W101 ?_
     refine WA.take (i := 5) rfl (by kernel_rfl) (fun _ _ _ h => h) rfl (op_assign (lt_ rfl) rfl) xT ?_
     refine W19 ?_
     refine W47 ?_
     refine W242 ?_
     exact Fin.ret3 xI ((Aa, ca, ⟨pf.k, pf.g, pf.n, acc⟩, pf.c, 0)) (by rw [hj, show pf.c.toNat - i = 0 by omega]; rfl) Tryz.results100 rfl (.cellN rfl ag144 xM xL) (.tmp rfl) (.tmp rfl) xT (by simp)
end Go.Proofs.YtkjlbedebmffgaaGreat.Sx
namespace Go.Proofs.YtkjlbedebmffgaaGreat.Sx
open Go.RowKit Go.Proofs.YtkjlbedebmffgaaGreat.Ty
attribute [local irreducible] blk own rd rx frameC
def Rs.r (r : Rs) : Rcd := ⟨r.k, r.g, r.n, r.b.s⟩
theorem jf_ok {ss : List (List UInt8)} {f : Pt} : ∀ {r i : Nat} {acc : List UInt8} {q : Rcd} {c : Int}, jf ss f r i acc = (q, c, 0) → c = f.c ∧ (i ≤ ss.length → i + r ≤ ss.length) := by
 intro r
 induction r with
 | zero =>
  intro i acc q c h
  unfold jf at h
  cases h
  exact ⟨rfl, fun h => h⟩
 | succ r ih =>
  intro i acc q c h
  unfold jf at h
  split at h
  ·cases h
  ·split at h
   ·rename_i h1 h2
    simp only [Prod.mk.injEq] at h
    exact absurd h.2.2 h2
   ·split at h
    ·cases h
    ·have := ih h
     exact ⟨this.1, fun _ => by have := this.2 (by omega); omega⟩
theorem join_ok {ss : List (List UInt8)} {q : Rcd} {c : Int} (h : (q, c, 0) = join ss) : 1 ≤ c ∧ c ≤ ss.length := by
 have h := h.symm
 unfold join at h
 split at h
 ·cases h
 ·split at h
  ·rename_i h1 h2
   simp only [Prod.mk.injEq] at h
   exact absurd h.2.2 h2
  ·split at h
   ·cases h
   ·rename_i h1 h2 h3
    have h4 := jf_ok h
    have h5 := dec_fine (bs := ss.getD 0 []) (p := (dec (ss.getD 0 [])).1) (by rw [← Decidable.not_not.1 h2])
    have h6 := h5.1
    unfold Pt.chk at h6
    obtain ⟨_, h7, h8, _⟩ := chk_ok h6
    have h9 := h4.2 (by omega)
    omega
def scanF (ss : List (List UInt8)) (g n : Int) : Nat → Nat → List Rcd → List Rcd × Int × Int
 | 0, at_, acc => (acc, (at_ : Int), 0)
 | fuel + 1, at_, acc =>
  if ¬ at_ < ss.length then (acc, (at_ : Int), 0)
  else if ¬ (join (ss.drop at_)).2.2 = 0 then (acc, (at_ : Int), (join (ss.drop at_)).2.2)
  else if ¬ ((join (ss.drop at_)).1.g = g ∧ (join (ss.drop at_)).1.n = n + acc.length) then (acc, (at_ : Int), 30)
  else scanF ss g n fuel (at_ + (join (ss.drop at_)).2.1.toNat) (acc ++ [(join (ss.drop at_)).1])
def scan (g n : Int) (ss : List (List UInt8)) : List Rcd × Int × Int := if ¬ fineP 0 g n then ([], 0, 2) else scanF ss g n ss.length 0 []
def salvF (ss : List (List UInt8)) : Nat → Nat → List Rcd → List Rcd
 | 0, _, acc => acc
 | fuel + 1, at_, acc =>
  if ¬ at_ < ss.length then acc
  else if ¬ (join (ss.drop at_)).2.2 = 0 then salvF ss fuel (at_ + 1) acc
  else salvF ss fuel (at_ + (join (ss.drop at_)).2.1.toNat) (acc ++ [(join (ss.drop at_)).1])
def salv (ss : List (List UInt8)) : List Rcd := salvF ss ss.length 0 []
section
variable {ss : List (List UInt8)} {g n : Int} {fuel at_ : Nat} {acc : List Rcd} {q : Rcd} {c e : Int}
theorem scanF_end (h : ¬ at_ < ss.length) : scanF ss g n fuel at_ acc = (acc, (at_ : Int), 0) := by
 cases fuel with
 | zero => rfl
 | succ f => unfold scanF; rw [if_pos h]
theorem scanF_err (h : at_ < ss.length) (hj : (q, c, e) = join (ss.drop at_)) (he : ¬ e = 0) : scanF ss g n (fuel + 1) at_ acc = (acc, (at_ : Int), e) := by
 unfold scanF; rw [← hj, if_neg (fun k => k h), if_pos he]
theorem scanF_seq (h : at_ < ss.length) (hj : (q, c, 0) = join (ss.drop at_)) (he : ¬ (q.g = g ∧ q.n = n + acc.length)) : scanF ss g n (fuel + 1) at_ acc = (acc, (at_ : Int), 30) := by
 unfold scanF; rw [← hj, if_neg (fun k => k h), if_neg (fun k => k rfl), if_pos he]
theorem scanF_go (h : at_ < ss.length) (hj : (q, c, 0) = join (ss.drop at_)) (he : q.g = g ∧ q.n = n + acc.length) : scanF ss g n (fuel + 1) at_ acc = scanF ss g n fuel (at_ + c.toNat) (acc ++ [q]) := by
 conv => lhs; unfold scanF
 rw [← hj, if_neg (fun k => k h), if_neg (fun k => k rfl), if_neg (fun k => k he)]
end
set_option maxHeartbeats 400000 in
set_option maxRecDepth 10000 in
theorem f65_spec (g n : Int) (A : Option Addr) (M c : Nat) (rs : List Bs) (hM : rs.length = M) (hMx : M ≤ 1000000) :
  Spec Tryz.prog 65 [.int .i64 g, .int .i64 n, .slice A M c] [] [rd (.slice A M c) 1 M (rs.map Bs.v), rowsC false rs] (R := Option Addr × Nat × List Rs × Int × Int)
   (fun q => (q.2.2.1.map Rs.r, q.2.2.2) = scan g n (rs.map Bs.s))
   (fun q => .tuple #[.slice q.1 q.2.2.1.length q.2.1, .int .i64 q.2.2.2.1, .int .i64 q.2.2.2.2])
   (fun q => [own (.slice q.1 q.2.2.1.length q.2.1) 104 4 q.2.2.1.length (q.2.2.1.flatMap Rs.cells), rowsC true (q.2.2.1.map Rs.b)]) := by
 refine Spec.intro Tryz.func65 Tryz.ntmps65 rfl (by simp) (by simp) fun w0 => ?_
 refine W240 ?_
 refine W266 ?_
 refine WX.regs (L' := [(0, _), (1, _), (2, _), (6, _), (7, _), (8, _)]) ?_
 refine W0 ?_
 refine WC.scope ?_
 refine W328 ?_
 refine wlx (op_call (f93_spec _ _) ca93 (lt_ rfl) rfl) rfl ?_
 rintro _ rfl
 refine W86 ?_
 refine W4 ?_
 refine WL.split (t := 15) rfl (fun g15 => ?_) (fun g15 => ?_)
 ·
  refine W302 ?_
  refine W2 ?_
  refine WX.regs (L' := [(0, _), (1, _), (2, _), (6, _), (7, _), (8, _), (19, _)]) ?_
  refine W353 ?_
  refine W266 ?_
  refine W43 ?_
  refine WX.nilown 104 4 ?_
  refine W45 ?_
  refine W263 ?_
  refine WX.scope_ret ?_
  exact Fin.ret3 xI ((none, 0, [], 0, 2)) (by unfold scan; rw [if_pos (by simp only [fineP]; omega)]; rfl) Tryz.results65 rfl (.tmp rfl) (.tmp rfl) (.tmp rfl) xT (by simp)
 ·
  refine W13 ?_
  refine wlgx (op_call (f93_spec _ _) ca93 (lt_ rfl) rfl) rfl rfl rfl ?_
  rintro _ rfl
  refine wlgv (op_notp (lt_ rfl) rfl) rfl rfl rfl ?_
  refine W285 ?_
  refine WX.regs (L' := [(0, _), (1, _), (2, _), (6, _), (7, _), (8, _), (19, _)]) ?_
  refine W0 ?_
  refine WC.cond rfl (fun h1 => ?_) (fun h1 => ?_)
  ·
   refine W240 ?_
   refine W266 ?_
   refine W43 ?_
   refine WX.nilown 104 4 ?_
   refine W45 ?_
   refine W263 ?_
   refine WX.scope_ret ?_
   exact Fin.ret3 xI ((none, 0, [], 0, 2)) (by unfold scan; rw [if_pos (by simp only [fineP]; omega)]; rfl) Tryz.results65 rfl (.tmp rfl) (.tmp rfl) (.tmp rfl) xT (by simp)
  ·
   refine W262 ?_
   refine W1 ?_
   refine WC.label ?_
   refine W0 ?_
   refine W254 ?_
   refine WC.nilrows true ?_
   refine WC.nilslice 104 4 ?_
   refine WC.loop (X := Nat × List Rs × Option Addr × Nat) (fun q => M - q.1) (fun q => q.1 ≤ M ∧ q.2.1.length ≤ q.1 ∧ ∃ fuel, M - q.1 ≤ fuel ∧ scan g n (rs.map Bs.s) = scanF (rs.map Bs.s) g n fuel q.1 (q.2.1.map Rs.r)) (fun q => [(0, .int .i64 g), (1, .int .i64 n), (2, .slice A M c), (6, .slice q.2.2.1 q.2.1.length q.2.2.2), (7, .int .i64 (q.1 : Int)), (8, .int .i64 0)]) (fun q => [own (.slice q.2.2.1 q.2.1.length q.2.2.2) 104 4 q.2.1.length (q.2.1.flatMap Rs.cells), rowsC true (q.2.1.map Rs.b), rd (.slice A M c) 1 M (rs.map Bs.v), rowsC false rs, frameC w0 (MutF [])]) ((0, [], none, 0)) (⟨Nat.zero_le _, Nat.le_refl _, M, Nat.le_refl _, by unfold scan; rw [if_neg (by simp only [fineP]; omega), List.length_map, hM]; rfl⟩) (fun a w hs => hs.sub xY xT) ?_
   rintro ⟨pos, l, Ao, co⟩ ⟨hp, hll, fuel, hfu, hsc⟩
   try dsimp only at hp hll hfu hsc ⊢
   refine W314 ?_
   refine W40 ?_
   refine W265 ?_
   refine WX.regs (L' := [(0, _), (1, _), (2, _), (6, _), (7, _), (8, _), (23, _)]) ?_
   refine W0 ?_
   refine WC.cond rfl (fun h2 => ?_) (fun h2 => ?_)
   ·
    have hlt : pos < (rs.map Bs.s).length := by rw [List.length_map]; omega
    obtain ⟨fu, rfl⟩ : ∃ fu, fuel = fu + 1 := ⟨fuel - 1, by omega⟩
    refine W262 ?_
    refine W11 ?_
    refine W240 ?_
    refine W340 ?_
    refine W244 ?_
    refine wlv (op_slice_l Tryz.underlying36 sz30 (lt_ rfl) rfl rfl (by omega) (by omega)) rfl ?_
    refine wlx (op_call (f94_spec _ (M - pos) _ (rs.drop pos) (by simp; omega)) ca94 (lt_ rfl) rfl) rfl ?_
    rintro ⟨Ar, cr, rec, cnt, e⟩ hj
    dsimp only at hj
    rw [List.map_drop] at hj
    dsimp only
    refine W296 ?_
    refine W20 ?_
    refine wl1 (op_alloc ti104 (lt_ rfl)) rfl fun b1 => ?_
    refine W81 ?_
    refine W305 ?_
    refine WX.regs (L' := [(0, _), (1, _), (2, _), (6, _), (7, _), (8, _), (9, _), (10, _), (11, _)]) ?_
    refine W0 ?_
    refine W254 ?_
    refine W240 ?_
    refine W256 ?_
    refine W241 ?_
    refine WX.regs (L' := [(0, _), (1, _), (2, _), (6, _), (7, _), (8, _), (9, _), (10, _), (11, _), (32, _)]) ?_
    refine W0 ?_
    refine WC.cond rfl (fun h3 => ?_) (fun h3 => ?_)
    ·
     refine W351 ?_
     refine W241 ?_
     refine W45 ?_
     refine W0 ?_
     refine WC.exit ?_
     refine WX.in_miss rfl ?_
     refine W12 ?_
     refine WX.in_miss rfl ?_
     refine W12 ?_
     refine W26 ?_
     refine W299 ?_
     refine W4 ?_
     refine W266 ?_
     refine W45 ?_
     refine W242 ?_
     refine WX.scope_ret ?_
     exact Fin.ret3 xI ((_, _, l, pos, _)) (by dsimp only; rw [hsc]; first | exact (scanF_end (by rw [List.length_map]; omega)).symm | exact (scanF_err hlt hj (by omega)).symm | exact (scanF_seq hlt hj (by rw [List.length_map]; omega)).symm) Tryz.results65 rfl (.tmp rfl) (.tmp rfl) (.tmp rfl) xT (by simp)
    ·
     obtain rfl : e = 0 := by omega
     obtain ⟨hc1, hc2⟩ := join_ok hj
     rw [List.length_drop, List.length_map] at hc2
     refine W240 ?_
     refine wlv (op_fieldAddr fo104_1 (lt_ rfl) rfl) rfl ?_
     refine W21 ?_
     refine W256 ?_
     refine W4 ?_
     refine WL.split (t := 41) rfl (fun g41 => ?_) (fun g41 => ?_)
     ·
      refine W255 ?_
      refine W302 ?_
      refine W241 ?_
      refine WX.regs (L' := [(0, _), (1, _), (2, _), (6, _), (7, _), (8, _), (9, _), (10, _), (36, _)]) ?_
      refine W362 ?_
      refine W283 ?_
      refine W45 ?_
      refine W0 ?_
      refine WC.exit ?_
      refine WX.in_miss rfl ?_
      refine W12 ?_
      refine WX.in_miss rfl ?_
      refine W12 ?_
      refine W26 ?_
      refine W299 ?_
      refine W4 ?_
      refine W266 ?_
      refine W45 ?_
      refine W242 ?_
      refine WX.scope_ret ?_
      exact Fin.ret3 xI ((_, _, l, pos, _)) (by dsimp only; rw [hsc]; first | exact (scanF_end (by rw [List.length_map]; omega)).symm | exact (scanF_err hlt hj (by omega)).symm | exact (scanF_seq hlt hj (by rw [List.length_map]; omega)).symm) Tryz.results65 rfl (.tmp rfl) (.tmp rfl) (.tmp rfl) xT (by simp)
     ·
      refine wlgv (op_fieldAddr fo104_2 (lt_ rfl) rfl) rfl rfl rfl ?_
      refine W28 ?_
      refine W345 ?_
      refine wlgv (op_len Tryz.underlying127 (lt_ rfl) rfl) rfl rfl rfl ?_
      refine W87 ?_
      refine W44 ?_
      refine W15 ?_
      refine W241 ?_
      refine WX.regs (L' := [(0, _), (1, _), (2, _), (6, _), (7, _), (8, _), (9, _), (10, _), (36, _)]) ?_
      refine W0 ?_
      refine WC.cond rfl (fun h4 => ?_) (fun h4 => ?_)
      ·
       refine W283 ?_
       refine W45 ?_
       refine W0 ?_
       refine WC.exit ?_
       refine WX.in_miss rfl ?_
       refine W12 ?_
       refine WX.in_miss rfl ?_
       refine W12 ?_
       refine W26 ?_
       refine W299 ?_
       refine W4 ?_
       refine W266 ?_
       refine W45 ?_
       refine W242 ?_
       refine WX.scope_ret ?_
       exact Fin.ret3 xI ((_, _, l, pos, _)) (by dsimp only; rw [hsc]; first | exact (scanF_end (by rw [List.length_map]; omega)).symm | exact (scanF_err hlt hj (by omega)).symm | exact (scanF_seq hlt hj (by rw [List.length_map]; omega)).symm) Tryz.results65 rfl (.tmp rfl) (.tmp rfl) (.tmp rfl) xT (by simp)
      ·
       refine W291 ?_
       refine W261 ?_
       refine wlv (op_loadAll ag104 (lt_ rfl) rfl xM xL) rfl ?_
       refine wl1 (op_lit1 Tryz.underlying127 ti104 rfl (by decide) (lt_ rfl) rfl rfl) rfl fun b2 => ?_
       refine wl2 (op_append Tryz.underlying127 ti104 rfl (by decide) (lt_ rfl) rfl rfl xK xS (by rfl) (by omega) (by omega)) rfl fun A1 c1 => ?_
       refine W241 ?_
       refine WX.regs (L' := [(0, _), (1, _), (2, _), (6, _), (7, _), (8, _), (10, _)]) ?_
       refine W0 ?_
       refine W334 ?_
       refine W295 ?_
       refine WX.regs (L' := [(0, _), (1, _), (2, _), (6, _), (7, _), (8, _)]) ?_
       refine W18 ?_
       refine WX.ownEq (v := .slice A1 (l.length + 1) c1) ((l ++ [(⟨rec.k, rec.g, rec.n, ⟨Ar, cr, rec.p⟩⟩ : Rs)]).flatMap Rs.cells) xK (cells_push l ⟨rec.k, rec.g, rec.n, ⟨Ar, cr, rec.p⟩⟩) ?_
       refine W230 ?_
       rw [show l.length + 1 = (l ++ [(⟨rec.k, rec.g, rec.n, ⟨Ar, cr, rec.p⟩⟩ : Rs)]).length by simp]
       refine WX.meet ((pos + cnt.toNat, l ++ [(⟨rec.k, rec.g, rec.n, ⟨Ar, cr, rec.p⟩⟩ : Rs)], A1, c1)) ⟨⟨by simp only []; omega, by simp only [List.length_append, List.length_singleton]; omega, fu, by simp only []; omega, by rw [hsc, scanF_go hlt hj (by rw [List.length_map]; omega), List.map_append]; rfl⟩, by simp only []; omega⟩ (fun a w hs => hs.sub xY xT)
   ·
    refine W284 ?_
    refine W244 ?_
    refine W4 ?_
    refine W266 ?_
    refine W45 ?_
    refine W242 ?_
    refine WX.scope_ret ?_
    exact Fin.ret3 xI ((_, _, l, pos, _)) (by dsimp only; rw [hsc]; first | exact (scanF_end (by rw [List.length_map]; omega)).symm | exact (scanF_err hlt hj (by omega)).symm | exact (scanF_seq hlt hj (by rw [List.length_map]; omega)).symm) Tryz.results65 rfl (.tmp rfl) (.tmp rfl) (.tmp rfl) xT (by simp)
set_option maxHeartbeats 400000 in
set_option maxRecDepth 10000 in
theorem f84_spec (g n : Int) (A : Option Addr) (M c : Nat) (rs : List Bs) (hM : rs.length = M) (hMx : M ≤ 1000000) :
  Spec Tryz.prog 84 [.int .i64 g, .int .i64 n, .slice A M c] [] [rd (.slice A M c) 1 M (rs.map Bs.v), rowsC false rs] (R := Option Addr × Nat × List Rs × Int × Int)
   (fun q => (q.2.2.1.map Rs.r, q.2.2.2) = scan g n (rs.map Bs.s))
   (fun q => .tuple #[.slice q.1 q.2.2.1.length q.2.1, .int .i64 q.2.2.2.1, .int .i64 q.2.2.2.2])
   (fun q => [own (.slice q.1 q.2.2.1.length q.2.1) 144 4 q.2.2.1.length (q.2.2.1.flatMap Rs.cells), rowsC true (q.2.2.1.map Rs.b)]) := by
 refine Spec.intro Tryz.func84 Tryz.ntmps84 rfl (by simp) (by simp) fun w0 => ?_
 refine W240 ?_
 refine W266 ?_
 refine W111 ?_
 refine W269 ?_
 refine W244 ?_
 refine wlx (op_call (f98_spec _ _ _) ca98 (lt_ rfl) rfl) rfl ?_
 rintro _ rfl
 refine W86 ?_
 refine W2 ?_
 refine WX.regs (L' := [(0, _), (1, _), (2, _), (17, _)]) ?_
 refine W0 ?_
 refine WC.cond rfl (fun h1 => ?_) (fun h1 => ?_)
 ·
  refine W240 ?_
  refine W266 ?_
  refine W43 ?_
  refine WX.nilown 144 4 ?_
  refine W45 ?_
  refine W263 ?_
  exact Fin.ret3 xI ((none, 0, [], 0, 2)) (by unfold scan; rw [if_pos (by omega)]; rfl) Tryz.results84 rfl (.tmp rfl) (.tmp rfl) (.tmp rfl) xT (by simp)
 ·
  refine W274 ?_
  refine W241 ?_
  refine WX.regs (L' := [(0, _), (1, _), (2, _), (9, _)]) ?_
  refine W249 ?_
  refine W241 ?_
  refine WX.regs (L' := [(0, _), (1, _), (2, _), (9, _), (10, _)]) ?_
  refine W0 ?_
  refine W254 ?_
  simp only [fineP] at h1
  refine WC.nilrows true ?_
  refine WC.nilslice 144 4 ?_
  refine WC.loop (X := Nat × List Rs × Option Addr × Nat) (fun q => M - q.1) (fun q => q.1 ≤ M ∧ q.2.1.length ≤ q.1 ∧ ∃ fuel, M - q.1 ≤ fuel ∧ scan g n (rs.map Bs.s) = scanF (rs.map Bs.s) g n fuel q.1 (q.2.1.map Rs.r)) (fun q => [(0, .int .i64 g), (1, .int .i64 n), (2, .slice A M c), (9, .slice q.2.2.1 q.2.1.length q.2.2.2), (10, .int .i64 (q.1 : Int))]) (fun q => [own (.slice q.2.2.1 q.2.1.length q.2.2.2) 144 4 q.2.1.length (q.2.1.flatMap Rs.cells), rowsC true (q.2.1.map Rs.b), rd (.slice A M c) 1 M (rs.map Bs.v), rowsC false rs, frameC w0 (MutF [])]) ((0, [], none, 0)) (⟨Nat.zero_le _, Nat.le_refl _, M, Nat.le_refl _, by unfold scan; rw [if_neg (by simp only [fineP]; omega), List.length_map, hM]; rfl⟩) (fun a w hs => hs.sub xY xT) ?_
  rintro ⟨pos, l, Ao, co⟩ ⟨hp, hll, fuel, hfu, hsc⟩
  try dsimp only at hp hll hfu hsc ⊢
  refine W314 ?_
  refine W40 ?_
  refine W265 ?_
  refine WX.regs (L' := [(0, _), (1, _), (2, _), (9, _), (10, _), (21, _)]) ?_
  refine W0 ?_
  refine WC.cond rfl (fun h2 => ?_) (fun h2 => ?_)
  ·
   have hlt : pos < (rs.map Bs.s).length := by rw [List.length_map]; omega
   obtain ⟨fu, rfl⟩ : ∃ fu, fuel = fu + 1 := ⟨fuel - 1, by omega⟩
   refine W262 ?_
   refine W11 ?_
   refine W240 ?_
   refine W340 ?_
   refine W244 ?_
   refine wlv (op_slice_l Tryz.underlying36 sz30 (lt_ rfl) rfl rfl (by omega) (by omega)) rfl ?_
   refine wlx (op_call (f100_spec _ (M - pos) _ (rs.drop pos) (by simp; omega)) ca100 (lt_ rfl) rfl) rfl ?_
   rintro ⟨Ar, cr, rec, cnt, e⟩ hj
   dsimp only at hj
   rw [List.map_drop] at hj
   dsimp only
   refine W296 ?_
   refine W20 ?_
   refine wl1 (op_alloc ti144 (lt_ rfl)) rfl fun b1 => ?_
   refine W92 ?_
   refine W305 ?_
   refine WX.regs (L' := [(0, _), (1, _), (2, _), (9, _), (10, _), (11, _), (12, _), (13, _)]) ?_
   refine W332 ?_
   refine WX.regs (L' := [(0, _), (1, _), (2, _), (9, _), (10, _), (11, _), (12, _), (13, _), (31, _)]) ?_
   refine W0 ?_
   refine WC.cond rfl (fun h3 => ?_) (fun h3 => ?_)
   ·
    refine W240 ?_
    refine W244 ?_
    refine W4 ?_
    refine W266 ?_
    refine W45 ?_
    refine W263 ?_
    refine W246 ?_
    refine W246 ?_
    exact Fin.ret3 xI ((_, _, l, pos, _)) (by dsimp only; rw [hsc]; exact (scanF_err hlt hj (by omega)).symm) Tryz.results84 rfl (.tmp rfl) (.tmp rfl) (.tmp rfl) xT (by simp)
   ·
    obtain rfl : e = 0 := by omega
    obtain ⟨hc1, hc2⟩ := join_ok hj
    rw [List.length_drop, List.length_map] at hc2
    refine W262 ?_
    refine W259 ?_
    refine wlv (op_fieldAddr fo144_1 (lt_ rfl) rfl) rfl ?_
    refine W21 ?_
    refine W256 ?_
    refine W4 ?_
    refine WL.split (t := 39) rfl (fun g39 => ?_) (fun g39 => ?_)
    ·
     refine W255 ?_
     refine W302 ?_
     refine W2 ?_
     refine WX.regs (L' := [(0, _), (1, _), (2, _), (9, _), (10, _), (11, _), (12, _), (47, _)]) ?_
     refine W353 ?_
     refine W244 ?_
     refine W266 ?_
     refine W45 ?_
     refine W263 ?_
     refine W246 ?_
     refine W246 ?_
     exact Fin.ret3 xI ((_, _, l, pos, _)) (by dsimp only; rw [hsc]; exact (scanF_seq hlt hj (by rw [List.length_map]; omega)).symm) Tryz.results84 rfl (.tmp rfl) (.tmp rfl) (.tmp rfl) xT (by simp)
    ·
     refine wlgv (op_fieldAddr fo144_2 (lt_ rfl) rfl) rfl rfl rfl ?_
     refine W28 ?_
     refine W345 ?_
     refine wlgv (op_len Tryz.underlying149 (lt_ rfl) rfl) rfl rfl rfl ?_
     refine W87 ?_
     refine W44 ?_
     refine W285 ?_
     refine WX.regs (L' := [(0, _), (1, _), (2, _), (9, _), (10, _), (11, _), (12, _), (47, _)]) ?_
     refine W0 ?_
     refine WC.cond rfl (fun h4 => ?_) (fun h4 => ?_)
     ·
      refine W240 ?_
      refine W244 ?_
      refine W266 ?_
      refine W45 ?_
      refine W263 ?_
      refine W246 ?_
      refine W246 ?_
      exact Fin.ret3 xI ((_, _, l, pos, _)) (by dsimp only; rw [hsc]; exact (scanF_seq hlt hj (by rw [List.length_map]; omega)).symm) Tryz.results84 rfl (.tmp rfl) (.tmp rfl) (.tmp rfl) xT (by simp)
     ·
      refine W8 ?_
      refine W261 ?_
      refine wlv (op_loadAll ag144 (lt_ rfl) rfl xM xL) rfl ?_
      refine wl1 (op_lit1 Tryz.underlying149 ti144 rfl (by decide) (lt_ rfl) rfl rfl) rfl fun b2 => ?_
      refine wl2 (op_append Tryz.underlying149 ti144 rfl (by decide) (lt_ rfl) rfl rfl xK xS (by rfl) (by omega) (by omega)) rfl fun A1 c1 => ?_
      refine W241 ?_
      refine WX.regs (L' := [(0, _), (1, _), (2, _), (9, _), (10, _), (12, _)]) ?_
      refine W0 ?_
      refine W334 ?_
      refine W295 ?_
      refine WX.regs (L' := [(0, _), (1, _), (2, _), (9, _), (10, _)]) ?_
      refine W18 ?_
      refine WX.ownEq (v := .slice A1 (l.length + 1) c1) ((l ++ [(⟨rec.k, rec.g, rec.n, ⟨Ar, cr, rec.p⟩⟩ : Rs)]).flatMap Rs.cells) xK (cells_push l ⟨rec.k, rec.g, rec.n, ⟨Ar, cr, rec.p⟩⟩) ?_
      refine W230 ?_
      rw [show l.length + 1 = (l ++ [(⟨rec.k, rec.g, rec.n, ⟨Ar, cr, rec.p⟩⟩ : Rs)]).length by simp]
      refine WX.meet ((pos + cnt.toNat, l ++ [(⟨rec.k, rec.g, rec.n, ⟨Ar, cr, rec.p⟩⟩ : Rs)], A1, c1)) ⟨⟨by simp only []; omega, by simp only [List.length_append, List.length_singleton]; omega, fu, by simp only []; omega, by rw [hsc, scanF_go hlt hj (by rw [List.length_map]; omega), List.map_append]; rfl⟩, by simp only []; omega⟩ (fun a w hs => hs.sub xY xT)
  ·
   refine W284 ?_
   refine W244 ?_
   refine W266 ?_
   refine W45 ?_
   refine W242 ?_
   exact Fin.ret3 xI ((_, _, l, pos, _)) (by dsimp only; rw [hsc]; exact (scanF_end (by rw [List.length_map]; omega)).symm) Tryz.results84 rfl (.tmp rfl) (.tmp rfl) (.tmp rfl) xT (by simp)
end Go.Proofs.YtkjlbedebmffgaaGreat.Sx
namespace Go.Proofs.YtkjlbedebmffgaaGreat.Sx
open Go.RowKit Go.Proofs.YtkjlbedebmffgaaGreat.Ty
attribute [local irreducible] blk own rd rx frameC
theorem foldl_vl (bs : List UInt8) : ∀ a : Nat, bs.foldl (fun n x => n * 256 + x.toNat) a = a * 256 ^ bs.length + vl bs := by
 induction bs with
 | nil => intro a; simp [vl]
 | cons x bs ih =>
  intro a
  show bs.foldl _ (a * 256 + x.toNat) = _
  have h2 : vl (x :: bs) = (0 * 256 + x.toNat) * 256 ^ bs.length + vl bs := ih (0 * 256 + x.toNat)
  rw [ih, h2, List.length_cons, Nat.pow_succ, Nat.zero_mul, Nat.zero_add, Nat.add_mul, Nat.mul_assoc, Nat.mul_comm 256]
  omega
theorem vl_cons (x : UInt8) (bs : List UInt8) : vl (x :: bs) = x.toNat * 256 ^ bs.length + vl bs := by
 have := foldl_vl bs (0 * 256 + x.toNat)
 simpa [vl] using this
theorem vl_be (n k : Nat) : vl (be n k) = n % 256 ^ k := by
 induction k with
 | zero => simp [be, vl, Nat.mod_one]
 | succ k ih =>
  rw [be, vl_cons, ih, be_length, Nat.pow_succ, Nat.mod_mul]
  have : (UInt8.ofNat (n / 256 ^ k)).toNat = n / 256 ^ k % 256 := by simp
  rw [this, Nat.mul_comm (256 ^ k)]
  omega
theorem vl_be_lt {n k : Nat} (h : n < 256 ^ k) : vl (be n k) = n := by rw [vl_be, Nat.mod_eq_of_lt h]
theorem sealB_drop (x : List UInt8) (o : Nat) : (sealB x).drop (16 + o) = (sealR x).drop o := by
 unfold sealB
 rw [← List.drop_drop, List.drop_left' (by simp [sha_length])]
theorem sealB_take (x : List UInt8) : (sealB x).take 16 = (sha (sealR x)).take 16 := by
 unfold sealB
 rw [List.take_left' (by simp [sha_length])]
theorem sealR_eq (x : List UInt8) (h : x.length ≤ 240) : sealR x = x ++ List.replicate (240 - x.length) 0 := by
 unfold sealR
 rw [List.take_of_length_le (by simp; omega)]
section
variable (k g n i c : Nat) (bs : List UInt8)
theorem enc_drop (o : Nat) (h : bs.length ≤ 224) : (enc k g n i c bs).drop (16 + o) = (hdr k g n i c bs.length ++ (bs ++ List.replicate (224 - bs.length) 0)).drop o := by
 unfold enc
 rw [sealB_drop, sealR_eq _ (by simp [hdr_length]; omega), List.append_assoc]
 simp only [List.length_append, hdr_length]
 rw [show 240 - (16 + bs.length) = 224 - bs.length by omega]
theorem hdr_fld (r : List UInt8) (m : Nat) : ((hdr k g n i c m ++ r).drop 0).take 4 = be g 4 ∧ ((hdr k g n i c m ++ r).drop 4).take 4 = be n 4 ∧ ((hdr k g n i c m ++ r).drop 8).take 2 = be k 2
  ∧ ((hdr k g n i c m ++ r).drop 10).take 2 = be i 2 ∧ ((hdr k g n i c m ++ r).drop 12).take 2 = be c 2 ∧ ((hdr k g n i c m ++ r).drop 14).take 2 = be m 2 ∧ (hdr k g n i c m ++ r).drop 16 = r := by
 simp [hdr, be]
theorem dec_enc (hk : k < 65536) (hg : g < 2147483648) (hn : n < 2147483648) (hi : i < 65536) (hc : c < 65536) (h : bs.length ≤ 224) (hch : chk k g n i c bs.length = 0) :
  dec (enc k g n i c bs) = (⟨k, g, n, i, c, bs⟩, 0) := by
 have hf := hdr_fld k g n i c (bs ++ List.replicate (224 - bs.length) 0) bs.length
 have f16 : fld (enc k g n i c bs) 16 4 = g := by
  show vl (((enc k g n i c bs).drop (16 + 0)).take 4) = g
  rw [enc_drop _ _ _ _ _ _ _ h, hf.1, vl_be_lt (by omega)]
 have f20 : fld (enc k g n i c bs) 20 4 = n := by
  show vl (((enc k g n i c bs).drop (16 + 4)).take 4) = n
  rw [enc_drop _ _ _ _ _ _ _ h, hf.2.1, vl_be_lt (by omega)]
 have f24 : fld (enc k g n i c bs) 24 2 = k := by
  show vl (((enc k g n i c bs).drop (16 + 8)).take 2) = k
  rw [enc_drop _ _ _ _ _ _ _ h, hf.2.2.1, vl_be_lt (by omega)]
 have f26 : fld (enc k g n i c bs) 26 2 = i := by
  show vl (((enc k g n i c bs).drop (16 + 10)).take 2) = i
  rw [enc_drop _ _ _ _ _ _ _ h, hf.2.2.2.1, vl_be_lt (by omega)]
 have f28 : fld (enc k g n i c bs) 28 2 = c := by
  show vl (((enc k g n i c bs).drop (16 + 12)).take 2) = c
  rw [enc_drop _ _ _ _ _ _ _ h, hf.2.2.2.2.1, vl_be_lt (by omega)]
 have f30 : fld (enc k g n i c bs) 30 2 = bs.length := by
  show vl (((enc k g n i c bs).drop (16 + 14)).take 2) = bs.length
  rw [enc_drop _ _ _ _ _ _ _ h, hf.2.2.2.2.2.1, vl_be_lt (by omega)]
 have f32 : (enc k g n i c bs).drop 32 = bs ++ List.replicate (224 - bs.length) 0 := by
  show (enc k g n i c bs).drop (16 + 16) = _
  rw [enc_drop _ _ _ _ _ _ _ h, hf.2.2.2.2.2.2]
 have hp : decP (enc k g n i c bs) = ⟨k, g, n, i, c, bs⟩ := by
  unfold decP
  rw [f16, f20, f24, f26, f28, f30, f32, List.take_left' rfl]
 have hs : (sha ((enc k g n i c bs).drop 16)).take 16 = (enc k g n i c bs).take 16 := by
  unfold enc
  have h0 := sealB_drop (hdr k g n i c bs.length ++ bs) 0
  rw [Nat.add_zero, List.drop_zero] at h0
  rw [sealB_take, h0]
 have hbl : blank ((enc k g n i c bs).drop (32 + fld (enc k g n i c bs) 30 2)) = true := by
  rw [f30, ← List.drop_drop, f32, List.drop_left' rfl]
  simp [blank]
 rw [dec_ok (enc_length _ _ _ _ _ _) hs (by rw [f30]; omega) (by rw [hp]; exact hch) hbl, hp]
end
end Go.Proofs.YtkjlbedebmffgaaGreat.Sx
namespace Go.Proofs.YtkjlbedebmffgaaGreat.Sx
open Go.RowKit Go.Proofs.YtkjlbedebmffgaaGreat.Ty
attribute [local irreducible] blk own rd rx frameC
def sp (k g n : Int) (p : List UInt8) (i : Nat) : Pt := ⟨k, g, n, i, need p.length, chunk p i⟩
theorem dec_sect {k g n : Int} {p : List UInt8} {i : Nat} (hf : fineP k g n) (hp : p.length ≤ 131072) (hi : i < need p.length) : dec (sect k g n p i) = (sp k g n p i, 0) := by
 have hch := chk_part hf hp hi
 have hn := need_le hp
 have hcl := chunk_length p i
 simp only [fineP] at hf
 obtain ⟨k, rfl⟩ := Int.eq_ofNat_of_zero_le hf.1
 obtain ⟨g, rfl⟩ := Int.eq_ofNat_of_zero_le hf.2.2.1
 obtain ⟨n, rfl⟩ := Int.eq_ofNat_of_zero_le hf.2.2.2.2.1
 exact dec_enc k g n i (need p.length) (chunk p i) (by omega) (by omega) (by omega) (by omega) (by omega) (by omega) hch
theorem chunk_take (p : List UInt8) (i : Nat) : p.take (i * 224) ++ chunk p i = p.take ((i + 1) * 224) := by
 have e : chunk p i = (p.drop (i * 224)).take 224 := by
  unfold chunk
  rw [List.take_eq_take_iff, List.length_drop]
  omega
 rw [e, ← List.take_add]
 congr 1
 omega
theorem jf_sects {k g n : Int} {p : List UInt8} (hf : fineP k g n) (hp : p.length ≤ 131072) {ss : List (List UInt8)} (r : Nat) : ∀ (m i : Nat), (∀ j, i ≤ j → j < i + m → ss[j]? = some (sect k g n p j)) → i + m ≤ need p.length →
  jf ss (sp k g n p 0) (m + r) i (p.take (i * 224)) = jf ss (sp k g n p 0) r (i + m) (p.take ((i + m) * 224)) := by
 intro m
 induction m with
 | zero => intro i _ _; rw [Nat.zero_add, Nat.add_zero]
 | succ m ih =>
  intro i h hle
  have hi := h i (Nat.le_refl _) (by omega)
  have hlt := (List.getElem?_eq_some_iff.1 hi).1
  rw [show m + 1 + r = (m + r) + 1 by omega, jf_next (s := sect k g n p i) (p := sp k g n p i) (by omega) (by simp [List.getD_eq_getElem?_getD, hi]) (dec_sect hf hp (by omega)).symm (by unfold jbad sp; simp)]
  have hb : (sp k g n p i).b = chunk p i := rfl
  rw [hb, chunk_take, ih (i + 1) (fun j h1 h2 => h j (by omega) (by omega)) (by omega)]
  congr 1
  ·omega
  ·congr 2; omega
theorem join_sects {k g n : Int} {p : List UInt8} (hf : fineP k g n) (hp : p.length ≤ 131072) {ss : List (List UInt8)} (h : ∀ j, j < need p.length → ss[j]? = some (sect k g n p j)) : join ss = ((⟨k, g, n, p⟩ : Rcd), ((need p.length : Nat) : Int), (0 : Int)) := by
 have hn := need_le hp
 have h0 := h 0 (by omega)
 have hlt := (List.getElem?_eq_some_iff.1 h0).1
 have hb : (sp k g n p 0).b = p.take (1 * 224) := by
  have := chunk_take p 0
  simpa [sp] using this
 have hc : (sp k g n p 0).c = (need p.length : Nat) := rfl
 have hj := jf_sects hf hp (ss := ss) 0 (need p.length - 1) 1 (fun j _ h2 => h j (by omega)) (by omega)
 rw [join_go (s := sect k g n p 0) (p := sp k g n p 0) (by omega) (by simp [List.getD_eq_getElem?_getD, h0]) (dec_sect hf hp (by omega)).symm rfl, hb, hc, Int.toNat_natCast, ← Nat.add_zero (need p.length - 1), hj]
 have hall : (1 + (need p.length - 1)) * 224 ≥ p.length := by unfold need; omega
 rw [List.take_of_length_le hall]
 rfl
theorem sects_length (k g n : Int) (p : List UInt8) : (sects k g n p).length = need p.length := by simp [sects]
theorem sects_at {k g n : Int} {p : List UInt8} {j : Nat} (h : j < need p.length) : (sects k g n p)[j]? = some (sect k g n p j) := by simp [sects, h]
def recs (k g : Int) : Int → List (List UInt8) → List (List UInt8)
 | _, [] => []
 | n, p :: ps => sects k g n p ++ recs k g (n + 1) ps
def rcds (k g : Int) : Int → List (List UInt8) → List Rcd
 | _, [] => []
 | n, p :: ps => ⟨k, g, n, p⟩ :: rcds k g (n + 1) ps
def needs : List (List UInt8) → Nat
 | [] => 0
 | p :: ps => need p.length + needs ps
theorem rcds_length (k g n : Int) (ps : List (List UInt8)) : (rcds k g n ps).length = ps.length := by
 induction ps generalizing n with
 | nil => rfl
 | cons p ps ih => simp [rcds, ih]
theorem recs_length (k g n : Int) (ps : List (List UInt8)) : (recs k g n ps).length = needs ps := by
 induction ps generalizing n with
 | nil => rfl
 | cons p ps ih => simp [recs, needs, sects_length, ih]
theorem needs_le (ps : List (List UInt8)) : ps.length ≤ needs ps := by
 induction ps with
 | nil => exact Nat.le_refl _
 | cons p ps ih =>
  have : 1 ≤ need p.length := by unfold need; omega
  simp only [List.length_cons, needs]; omega
theorem needs_append (ps qs : List (List UInt8)) : needs (ps ++ qs) = needs ps + needs qs := by
 induction ps with
 | nil => simp [needs]
 | cons p ps ih => simp only [List.cons_append, needs, ih]; omega
theorem recs_append (k g n : Int) (ps qs : List (List UInt8)) : recs k g n (ps ++ qs) = recs k g n ps ++ recs k g (n + ps.length) qs := by
 induction ps generalizing n with
 | nil => simp [recs]
 | cons p ps ih =>
  simp only [List.cons_append, recs, ih, List.append_assoc, List.length_cons]
  congr 3
  omega
end Go.Proofs.YtkjlbedebmffgaaGreat.Sx
namespace Go.Proofs.YtkjlbedebmffgaaGreat.Sx
open Go.RowKit Go.ChangeMaps
theorem flat_at {α : Type} {f : α → List Value} {sz : Nat} (hf : ∀ a, (f a).length = sz) : ∀ (l : List α) (i : Nat) (a : α), l[i]? = some a → ((l.flatMap f).drop (i * sz)).take sz = f a := by
 intro l
 induction l with
 | nil => intro i a h; cases h
 | cons x l ih =>
  intro i a h
  cases i with
  | zero =>
   simp only [List.getElem?_cons_zero, Option.some.injEq] at h
   subst h
   rw [Nat.zero_mul, List.drop_zero, List.flatMap_cons, List.take_append_of_le_length (by rw [hf]; exact Nat.le_refl _), List.take_of_length_le (by rw [hf]; exact Nat.le_refl _)]
  | succ i =>
   rw [List.getElem?_cons_succ] at h
   rw [List.flatMap_cons, Nat.succ_mul, Nat.add_comm (i * sz), ← List.drop_drop, List.drop_left' (hf x)]
   exact ih i a h
theorem flat_len {α : Type} {f : α → List Value} {sz : Nat} (hf : ∀ a, (f a).length = sz) (l : List α) : (l.flatMap f).length = l.length * sz := by
 induction l with
 | nil => simp
 | cons x l ih => rw [List.flatMap_cons, List.length_append, hf, ih, List.length_cons, Nat.succ_mul]; omega
structure Sct where
 s : List UInt8
 h : s.length = 256
theorem Sct.ext' {a b : Sct} (h : a.s = b.s) : a = b := by cases a; cases b; cases h; rfl
instance : DecidableEq Sct := fun a b => if h : a.s = b.s then .isTrue (Sct.ext' h) else .isFalse fun e => h (e ▸ rfl)
def Sct.z : Sct := ⟨List.replicate 256 0, List.length_replicate ..⟩
def Sct.v (x : Sct) : Value := .agg (bvs x.s).toArray
section
variable {P : Program} {n : Fr} {L : List (Nat × Value)} {H : List Ch} {d : Nat} {ty : TypeId} {pos : String} {af : Array Edge} {g : Option (Nat × Bool)} {x y : Operand} {t e : TypeId} {yt : TypeId}
theorem run_partB {w : World} {l : List UInt8} {i : Nat} {c : UInt8} (hf : Flat P e) (h : l[i]? = some c) : (part e (bvs l).toArray (i * 1)).run P w = .ok (bv c) w := by
 have h' : (bvs l)[i]? = some (bv c) := by simp [bvs, h]
 simp [part, hf.isAgg, h']
theorem run_eqBytes {w : World} {dd : Nat} (he : P.underlying e = some (.int .u8)) (hf : Flat P e) {a b : List UInt8} (hl : a.length = b.length) : ∀ (m k : Nat), k + m ≤ a.length →
  (Op.eqItems (dd + 1) e 1 (bvs a).toArray (bvs b).toArray (List.range' k m)).run P w = .ok (decide ((a.drop k).take m = (b.drop k).take m)) w := by
 intro m
 induction m with
 | zero => intro k _; simp [Op.eqItems]
 | succ m ih =>
  intro k hk
  obtain ⟨ca, ha⟩ : ∃ c, a[k]? = some c := ⟨a[k]'(by omega), List.getElem?_eq_getElem _⟩
  obtain ⟨cb, hb⟩ : ∃ c, b[k]? = some c := ⟨b[k]'(by omega), List.getElem?_eq_getElem _⟩
  have da : (a.drop k).take (m + 1) = ca :: (a.drop (k + 1)).take m := by
   rw [List.drop_eq_getElem_cons (by omega), List.take_succ_cons, (List.getElem?_eq_some_iff.1 ha).2]
  have db : (b.drop k).take (m + 1) = cb :: (b.drop (k + 1)).take m := by
   rw [List.drop_eq_getElem_cons (by omega), List.take_succ_cons, (List.getElem?_eq_some_iff.1 hb).2]
  rw [List.range'_succ]
  simp only [Op.eqItems, Sem.run_bind, run_partB hf ha, run_partB hf hb, Result.andThen_ok, bv, run_equalIn_int w dd e .u8 .u8 _ _ he]
  rw [da, db]
  by_cases h : ca = cb
  ·subst h
   have h2 : (((ca.toNat : Int)) == ((ca.toNat : Int))) = true := by simp
   simp only [h2, Bool.not_true, Bool.false_eq_true, if_false, ih (k + 1) (by omega), List.cons.injEq, true_and]
  ·have h2 : (((ca.toNat : Int)) == ((cb.toNat : Int))) = false := by
    have : ¬ ((ca.toNat : Int) = (cb.toNat : Int)) := fun e => h (UInt8.toNat_inj.1 (by exact_mod_cast e))
    simpa using this
   simp [h2, h]
theorem op_eqlArr {a b : Sct} (hu : P.underlying t = some (.array 256 e)) (he : P.underlying e = some (.int .u8)) (hf : Flat P e) (hi : (P.info? e).isSome = true) (hc : P.cellsOf e = 1) (hg : P.eqGuardType P.depth t = false) (hn : d < n.n) (hx : evr L x = some a.v) (hy : evr L y = some b.v) :
  Val P ⟨some d, .binOp .eql t x y yt, ty, pos, af, g⟩ n L H d (.bool (decide (a = b))) :=
 Val.mk rfl hn fun ac w hs => by
  obtain ⟨ti, hti⟩ := Option.isSome_iff_exists.1 hi
  have h1 := run_equalIn_array (P := P) w 9999 (bvs a.s).toArray (bvs b.s).toArray hu hti
  rw [hc, List.range_eq_range', run_eqBytes he hf (by rw [a.h, b.h]) 256 0 (by have := a.h; omega)] at h1
  have h2 : (decide ((a.s.drop 0).take 256 = (b.s.drop 0).take 256)) = decide (a = b) := by
   rw [List.drop_zero, List.drop_zero, List.take_of_length_le (by rw [a.h]; exact Nat.le_refl _), List.take_of_length_le (by rw [b.h]; exact Nat.le_refl _)]
   rw [decide_eq_decide]
   exact ⟨Sct.ext', fun e => e ▸ rfl⟩
  rw [h2] at h1
  have h3 : ∀ X Y, (eqGuard .eql t X Y (.agg (bvs a.s).toArray) (.agg (bvs b.s).toArray)).run P w = .ok () w := fun X Y => run_eqGuard_agg (P := P) w .eql t X Y _ _ hg
  have h4 := run_eql_struct (P := P) w t (bvs a.s).toArray (bvs b.s).toArray
  rw [h1] at h4
  simp [execOp, hs.eval hx, hs.eval hy, Sct.v, h3, h4, Result.andThen]
end
structure Dk where
 n : Nat
 dur : Int → Sct
 pend : List (Int × Sct)
 ops : Int
 lim : Bool
 limit : Int
 down : Bool
def dmap (f : Int → Sct) (a : Int) : Option Value := if f a = Sct.z then none else some (f a).v
def wcs (p : Int × Sct) : List Value := .int .i64 p.1 :: bvs p.2.s
theorem wcs_length (p : Int × Sct) : (wcs p).length = 257 := by simp [wcs, bvs_length, p.2.h]
def dcells (D : Dk) (bm : Nat) (A : Option Addr) (c : Nat) : List Value := [.int .i64 (D.n : Int), .map (some bm), .slice A D.pend.length c, .int .i64 D.ops, .bool D.lim, .int .i64 D.limit, .bool D.down]
def put (f : Int → Sct) (a : Int) (x : Sct) (i : Int) : Sct := if i = a then x else f i
theorem dmap_put (f : Int → Sct) (a : Int) (x : Sct) (hx : ¬ x = Sct.z) : (fun i => if i = a then some x.v else dmap f i) = dmap (put f a x) := by
 funext i
 unfold dmap put
 by_cases h : i = a
 ·simp [h, hx]
 ·simp [h]
theorem dmap_del (f : Int → Sct) (a : Int) : (fun i => if i = a then none else dmap f i) = dmap (put f a Sct.z) := by
 funext i
 unfold dmap put
 by_cases h : i = a
 ·simp [h]
 ·simp [h]
theorem dmap_get (f : Int → Sct) (a : Int) : (dmap f a).getD Sct.z.v = (f a).v := by
 unfold dmap
 split
 ·rename_i h; rw [h]; rfl
 ·rfl
def applyW (f : Int → Sct) (l : List (Int × Sct)) : Int → Sct := l.foldl (fun g p => put g p.1 p.2) f
def Dk.vis (D : Dk) (a : Int) : Sct := applyW D.dur D.pend a
theorem applyW_append (f : Int → Sct) (l m : List (Int × Sct)) : applyW f (l ++ m) = applyW (applyW f l) m := by simp [applyW]
theorem applyW_none {l : List (Int × Sct)} {a : Int} (f : Int → Sct) (h : ∀ p ∈ l, ¬ p.1 = a) : applyW f l a = f a := by
 induction l generalizing f with
 | nil => rfl
 | cons p l ih =>
  show applyW (put f p.1 p.2) l a = f a
  rw [ih _ fun q hq => h q (List.mem_cons_of_mem _ hq)]
  unfold put
  rw [if_neg fun e => h p (List.mem_cons_self ..) e.symm]
theorem applyW_at {l : List (Int × Sct)} {a : Int} {i : Nat} {p : Int × Sct} (f : Int → Sct) (hp : l[i]? = some p) (ha : p.1 = a) (h : ∀ k q, i < k → l[k]? = some q → ¬ q.1 = a) : applyW f l a = p.2 := by
 have hlt := (List.getElem?_eq_some_iff.1 hp).1
 have e : l = l.take i ++ (p :: l.drop (i + 1)) := by
  conv => lhs; rw [← List.take_append_drop i l, List.drop_eq_getElem_cons hlt, (List.getElem?_eq_some_iff.1 hp).2]
 rw [e, applyW_append]
 show applyW (put _ p.1 p.2) _ a = _
 rw [applyW_none]
 ·simp [put, ha]
 ·intro q hq
  obtain ⟨k, hk⟩ := List.mem_iff_getElem?.1 hq
  rw [List.getElem?_drop] at hk
  exact h _ q (by omega) hk
def Dk.operate (D : Dk) : Dk × Int := if D.lim = true ∧ D.limit = 0 then ({ D with down := true }, 28) else ({ D with limit := IntKind.i64.wrap (D.limit - 1), ops := IntKind.i64.wrap (D.ops + 1) }, 0)
def Dk.write (D : Dk) (a : Int) (x : List UInt8) : Dk × Int :=
 if D.down then (D, 28) else if ¬ (0 ≤ a ∧ a < D.n) then (D, 8) else if h : x.length = 256 then
  (if D.operate.2 = 0 then ({ D.operate.1 with pend := D.pend ++ [(a, ⟨x, h⟩)] }, 0) else D.operate) else (D, 2)
def Dk.flush (D : Dk) : Dk × Int :=
 if D.down then (D, 28) else if D.operate.2 = 0 then ({ D.operate.1 with dur := applyW D.dur D.pend, pend := [] }, 0) else D.operate
def Dk.read (D : Dk) (a : Int) : List UInt8 × Int := if D.down then ([], 28) else if ¬ (0 ≤ a ∧ a < D.n) then ([], 8) else ((D.vis a).s, 0)
end Go.Proofs.YtkjlbedebmffgaaGreat.Sx
