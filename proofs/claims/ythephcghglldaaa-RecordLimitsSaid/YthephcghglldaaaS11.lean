import Derived.Test.YthephcghglldaaaS10
import Derived.Test.YthephcghglldaaaSn
set_option linter.unusedVariables false
set_option linter.unusedSimpArgs false
namespace Go.Proofs.Ythephcghglldaaa.Sx
open Go.RowKit Go.Proofs.Ythephcghglldaaa.Ty
attribute [local irreducible] blk own rd rx frameC

theorem ag95 : Agg Try.prog 95 2 := Agg.mk' Try.underlying95 rfl (by kernel_rfl)
def hdr (k g n i c m : Nat) : List UInt8 := be g 4 ++ (be n 4 ++ (be k 2 ++ (be i 2 ++ (be c 2 ++ be m 2))))
theorem hdr_length (k g n i c m : Nat) : (hdr k g n i c m).length = 16 := by simp [hdr]
def enc (k g n i c : Nat) (bs : List UInt8) : List UInt8 := sealB (hdr k g n i c bs.length ++ bs)
theorem enc_length (k g n i c : Nat) (bs : List UInt8) : (enc k g n i c bs).length = 256 := sealB_length _
def encP (k g n i c : Int) (bs : List UInt8) : List UInt8 := if chk k g n i c bs.length = 0 then enc k.toNat g.toNat n.toNat i.toNat c.toNat bs else []
/-! ### The bytes of a sector as they come -/
def fil (pre : List UInt8) : List UInt8 := pre ++ List.replicate (256 - pre.length) 0
theorem fil_length (pre : List UInt8) (h : pre.length ≤ 256) : (fil pre).length = 256 := by simp [fil]; omega
theorem pset_bvs (cur ys : List UInt8) (m : Nat) : pset (bvs cur) m (bvs ys) = bvs (cur.take m ++ ys ++ cur.drop (m + ys.length)) := by
  simp [pset, bvs]
theorem fil_app (pre ys : List UInt8) (m : Nat) (hm : pre.length = m) (h : m + ys.length ≤ 256) : pset (bvs (fil pre)) m (bvs ys) = bvs (fil (pre ++ ys)) := by
  subst hm
  rw [pset_bvs]
  unfold fil
  congr 1
  rw [List.take_left' rfl, List.drop_append, List.drop_eq_nil_of_le (by omega), List.nil_append, List.drop_replicate, List.length_append]
  congr 2
  omega
def fo : Nat → Nat | 0 => 1 | 1 => 2 | 2 => 0 | 3 => 3 | 4 => 4 | _ => 6
def fz : Nat → Nat | 0 => 4 | 1 => 4 | _ => 2
theorem fz_le (j : Nat) : 2 ≤ fz j ∧ fz j ≤ 4 := by
  match j with
  | 0 | 1 => decide
  | j + 2 => simp [fz]
def fv (k g n i c m : Nat) : Nat → Nat | 0 => g | 1 => n | 2 => k | 3 => i | 4 => c | _ => m
def hp (k g n i c m : Nat) : Nat → List UInt8
  | 0 => []
  | j + 1 => hp k g n i c m j ++ be (fv k g n i c m j) (fz j)
theorem hp_end (k g n i c m : Nat) : hp k g n i c m 6 = hdr k g n i c m := by simp [hp, hdr, fv, fz]
theorem hp_len (k g n i c m j : Nat) (h : j ≤ 6) : (hp k g n i c m j).length ≤ 16 := by
  have e : ∀ d, (hp k g n i c m j).length ≤ (hp k g n i c m (j + d)).length := by
    intro d
    induction d with
    | zero => exact Nat.le_refl _
    | succ d ih => exact Nat.le_trans ih (by rw [← Nat.add_assoc]; simp [hp])
  have h2 := e (6 - j)
  rw [Nat.add_sub_cancel' h, hp_end, hdr_length] at h2
  exact h2
def hdc (k g n i c : Int) (v : Value) (m : Int) : List Value := pcells k g n i c v ++ [.int .i64 m]
theorem hdc_at (k g n i c m : Nat) (v : Value) (j : Nat) (h : j < 6) : (hdc k g n i c v m)[fo j]? = some (.int .i64 (fv k g n i c m j : Nat)) := by
  match j, h with
  | 0, _ | 1, _ | 2, _ | 3, _ | 4, _ | 5, _ => rfl
def fcells (b : Nat) : List Value := [.pointer (some ⟨b, 1, none⟩), .int .i64 4, .pointer (some ⟨b, 2, none⟩), .int .i64 4, .pointer (some ⟨b, 0, none⟩), .int .i64 2, .pointer (some ⟨b, 3, none⟩), .int .i64 2, .pointer (some ⟨b, 4, none⟩), .int .i64 2, .pointer (some ⟨b, 6, none⟩), .int .i64 2]
theorem fcells_at (b j : Nat) (h : j < 6) : ((fcells b).drop (j * 2)).take 2 = [.pointer (some ⟨b, fo j, none⟩), .int .i64 ((fz j : Nat) : Int)] := by
  match j, h with
  | 0, _ | 1, _ | 2, _ | 3, _ | 4, _ | 5, _ => rfl
theorem be_take (n s : Nat) : ∀ r, r < s → (be n s).take (r + 1) = (be n s).take r ++ [UInt8.ofNat (n / 256 ^ (s - 1 - r))] := by
  induction s with
  | zero => intro r h; omega
  | succ s ih =>
    intro r h
    cases r with
    | zero => simp [be]
    | succ r =>
      simp only [be, List.take_succ_cons, List.cons_append]
      rw [ih r (by omega)]
      have : s + 1 - 1 - (r + 1) = s - 1 - r := by omega
      rw [this]
set_option maxHeartbeats 400000 in
set_option maxRecDepth 10000 in
theorem f19_spec (k g n i c : Int) (A : Option Addr) (m cap : Nat) :
    Spec Try.prog 19 [.agg (pcells k g n i c (.slice A m cap)).toArray] [] [] (R := Int) (fun r => r = chk k g n i c m) (fun r => .int .i64 r) (fun _ => []) := by
  have hw : 1 ≤ c ∧ c ≤ 586 → IntKind.i64.wrap (c - 1) = c - 1 := fun h => wrap_in (by omega)
  refine Spec.intro Try.func19 Try.ntmps19 rfl (by simp) (by simp) fun w0 => ?_
  refine WC.seq ?_
  refine WC.region ?_
  refine wl1 (op_box (by decide) rfl rfl) rfl fun b1 => ?_
  refine wlv (op_assign (by decide) rfl) rfl ?_
  refine WL.nil ?_
  refine WX.regs (L' := [(1, _)]) (by repeat (first | exact RS.nil | refine RS.cons rfl ?_)) ?_
  refine WX.next ?_
  refine WC.seq ?_
  refine WC.region ?_
  refine wlv (op_fieldAddr fo25_3 (by decide) rfl) rfl ?_
  refine wlv (op_load1 fl3 (by decide) rfl (by repeat (first | exact List.Mem.head _ | apply List.Mem.tail)) rfl) rfl ?_
  refine wlv (op_fieldAddr fo25_4 (by decide) rfl) rfl ?_
  refine wlv (op_load1 fl3 (by decide) rfl (by repeat (first | exact List.Mem.head _ | apply List.Mem.tail)) rfl) rfl ?_
  refine wlv (op_subw (by decide) rfl rfl) rfl ?_
  refine wlv (op_eql (by decide) rfl rfl) rfl ?_
  refine wlv (op_assign (by decide) rfl) rfl ?_
  refine WL.nil ?_
  refine WX.regs (L' := [(1, _), (3, _)]) (by repeat (first | exact RS.nil | refine RS.cons rfl ?_)) ?_
  refine WX.next ?_
  refine WC.seq ?_
  refine WC.region ?_
  refine wlv (op_fieldAddr fo25_5 (by decide) rfl) rfl ?_
  refine wlv (op_load1 fl22 (by decide) rfl (by repeat (first | exact List.Mem.head _ | apply List.Mem.tail)) rfl) rfl ?_
  refine wlv (op_len Try.underlying22 (by decide) rfl) rfl ?_
  refine wlv (op_assign (by decide) rfl) rfl ?_
  refine WL.nil ?_
  refine WX.regs (L' := [(1, _), (3, _), (4, _)]) (by repeat (first | exact RS.nil | refine RS.cons rfl ?_)) ?_
  refine WX.next ?_
  refine WC.seq ?_
  refine WC.block ?_
  refine WC.seq ?_
  refine WC.region ?_
  refine wlv (op_loadAll ag25 (by decide) rfl (by repeat (first | exact List.Mem.head _ | apply List.Mem.tail)) (by first | rfl | (simp [Value.cells]; done) | (simp [Value.cells]; omega))) rfl ?_
  refine wlx (op_call (f48_spec k g n i c (.slice A m cap)) ca48 (by decide) rfl (by apply Give.mk; (repeat (first | exact Takes.nil | exact Take.here | apply Takes.cons | apply Take.there)); repeat (first | exact Reads.nil | (apply Reads.rd; (focus (repeat (first | exact List.Mem.head _ | apply List.Mem.tail)); done)) | (apply Reads.own; (focus (repeat (first | exact List.Mem.head _ | apply List.Mem.tail)); done)) | (apply Reads.rx; (focus (repeat (first | exact List.Mem.head _ | apply List.Mem.tail)); done)) | (apply Reads.rows (e := false); (focus (repeat (first | exact List.Mem.head _ | apply List.Mem.tail)); done)) | (apply Reads.rows (e := true); (focus (repeat (first | exact List.Mem.head _ | apply List.Mem.tail)); done))))) rfl ?_
  rintro _ _
  refine wlx (op_call (f49_spec _ _ _) ca49 (by decide) rfl (by apply Give.mk; (repeat (first | exact Takes.nil | exact Take.here | apply Takes.cons | apply Take.there)); repeat (first | exact Reads.nil | (apply Reads.rd; (focus (repeat (first | exact List.Mem.head _ | apply List.Mem.tail)); done)) | (apply Reads.own; (focus (repeat (first | exact List.Mem.head _ | apply List.Mem.tail)); done)) | (apply Reads.rx; (focus (repeat (first | exact List.Mem.head _ | apply List.Mem.tail)); done)) | (apply Reads.rows (e := false); (focus (repeat (first | exact List.Mem.head _ | apply List.Mem.tail)); done)) | (apply Reads.rows (e := true); (focus (repeat (first | exact List.Mem.head _ | apply List.Mem.tail)); done))))) rfl ?_
  rintro _ rfl
  refine wlv (op_notp (by decide) rfl) rfl ?_
  refine wlv (op_move (by decide) rfl) rfl ?_
  refine WL.split (t := 19) rfl (fun g19 => ?_) (fun g19 => ?_)
  ·
    refine wlg_no rfl rfl rfl rfl rfl (by decide) ?_
    refine wlg_no rfl rfl rfl rfl rfl (by decide) ?_
    refine wlg_no rfl rfl rfl rfl rfl (by decide) ?_
    refine wlv (op_pickT (by decide) rfl rfl) rfl ?_
    refine wlv (op_move (by decide) rfl) rfl ?_
    refine wlg_no rfl rfl rfl rfl rfl (by decide) ?_
    refine wlg_no rfl rfl rfl rfl rfl (by decide) ?_
    refine wlg_no rfl rfl rfl rfl rfl (by decide) ?_
    refine wlv (op_pickT (by decide) rfl rfl) rfl ?_
    refine wlv (op_move (by decide) rfl) rfl ?_
    refine wlg_no rfl rfl rfl rfl rfl (by decide) ?_
    refine wlg_no rfl rfl rfl rfl rfl (by decide) ?_
    refine wlg_no rfl rfl rfl rfl rfl (by decide) ?_
    refine wlg_no rfl rfl rfl rfl rfl (by decide) ?_
    refine wlg_no rfl rfl rfl rfl rfl (by decide) ?_
    refine wlg_no rfl rfl rfl rfl rfl (by decide) ?_
    refine wlg_no rfl rfl rfl rfl rfl (by decide) ?_
    refine wlv (op_pickT (by decide) rfl rfl) rfl ?_
    refine wlv (op_assign (by decide) rfl) rfl ?_
    refine WL.nil ?_
    refine WX.regs (L' := [(1, _), (3, _), (4, _), (14, _)]) (by repeat (first | exact RS.nil | refine RS.cons rfl ?_)) ?_
    refine WX.next ?_
    refine WC.condT rfl ?_
    refine WC.seq ?_
    refine WC.region ?_
    refine wlv (op_assign (by decide) rfl) rfl ?_
    refine WL.nil ?_
    refine WX.regs (L' := [(2, _)]) (by repeat (first | exact RS.nil | refine RS.cons rfl ?_)) ?_
    refine WX.next ?_
    refine WC.ret ?_
    refine WX.in_ret ?_
    refine WX.then_ret ?_
    exact Fin.ret1 (by first | exact .inl rfl | exact .inr rfl) (_) (by (try simp only []); unfold chk; (try simp only [fineP] at *); repeat (split); all_goals omega) Try.results19 (.tmp rfl) (by repeat (first | exact Takes.nil | exact Take.here | apply Takes.cons | apply Take.there)) (by simp)
  ·
    refine wlgv (op_fieldAddr fo25_4 (by decide) rfl) rfl rfl rfl ?_
    refine wlgv (op_load1 fl3 (by decide) rfl (by repeat (first | exact List.Mem.head _ | apply List.Mem.tail)) rfl) rfl rfl rfl ?_
    refine wlgv (op_lss (by decide) rfl rfl) rfl rfl rfl ?_
    refine wlv (op_pickF (by decide) rfl rfl) rfl ?_
    refine wlv (op_move (by decide) rfl) rfl ?_
    refine WL.split (t := 24) rfl (fun g24 => ?_) (fun g24 => ?_)
    ·
      refine wlg_no rfl rfl rfl rfl rfl (by decide) ?_
      refine wlg_no rfl rfl rfl rfl rfl (by decide) ?_
      refine wlg_no rfl rfl rfl rfl rfl (by decide) ?_
      refine wlv (op_pickT (by decide) rfl rfl) rfl ?_
      refine wlv (op_move (by decide) rfl) rfl ?_
      refine wlg_no rfl rfl rfl rfl rfl (by decide) ?_
      refine wlg_no rfl rfl rfl rfl rfl (by decide) ?_
      refine wlg_no rfl rfl rfl rfl rfl (by decide) ?_
      refine wlg_no rfl rfl rfl rfl rfl (by decide) ?_
      refine wlg_no rfl rfl rfl rfl rfl (by decide) ?_
      refine wlg_no rfl rfl rfl rfl rfl (by decide) ?_
      refine wlg_no rfl rfl rfl rfl rfl (by decide) ?_
      refine wlv (op_pickT (by decide) rfl rfl) rfl ?_
      refine wlv (op_assign (by decide) rfl) rfl ?_
      refine WL.nil ?_
      refine WX.regs (L' := [(1, _), (3, _), (4, _), (14, _)]) (by repeat (first | exact RS.nil | refine RS.cons rfl ?_)) ?_
      refine WX.next ?_
      refine WC.condT rfl ?_
      refine WC.seq ?_
      refine WC.region ?_
      refine wlv (op_assign (by decide) rfl) rfl ?_
      refine WL.nil ?_
      refine WX.regs (L' := [(2, _)]) (by repeat (first | exact RS.nil | refine RS.cons rfl ?_)) ?_
      refine WX.next ?_
      refine WC.ret ?_
      refine WX.in_ret ?_
      refine WX.then_ret ?_
      exact Fin.ret1 (by first | exact .inl rfl | exact .inr rfl) (_) (by (try simp only []); unfold chk; (try simp only [fineP] at *); repeat (split); all_goals omega) Try.results19 (.tmp rfl) (by repeat (first | exact Takes.nil | exact Take.here | apply Takes.cons | apply Take.there)) (by simp)
    ·
      refine wlgv (op_fieldAddr fo25_4 (by decide) rfl) rfl rfl rfl ?_
      refine wlgv (op_load1 fl3 (by decide) rfl (by repeat (first | exact List.Mem.head _ | apply List.Mem.tail)) rfl) rfl rfl rfl ?_
      refine wlgv (op_gtr (by decide) rfl rfl) rfl rfl rfl ?_
      refine wlv (op_pickF (by decide) rfl rfl) rfl ?_
      refine wlv (op_move (by decide) rfl) rfl ?_
      refine WL.split (t := 29) rfl (fun g29 => ?_) (fun g29 => ?_)
      ·
        refine wlg_no rfl rfl rfl rfl rfl (by decide) ?_
        refine wlg_no rfl rfl rfl rfl rfl (by decide) ?_
        refine wlg_no rfl rfl rfl rfl rfl (by decide) ?_
        refine wlg_no rfl rfl rfl rfl rfl (by decide) ?_
        refine wlg_no rfl rfl rfl rfl rfl (by decide) ?_
        refine wlg_no rfl rfl rfl rfl rfl (by decide) ?_
        refine wlg_no rfl rfl rfl rfl rfl (by decide) ?_
        refine wlv (op_pickT (by decide) rfl rfl) rfl ?_
        refine wlv (op_assign (by decide) rfl) rfl ?_
        refine WL.nil ?_
        refine WX.regs (L' := [(1, _), (3, _), (4, _), (14, _)]) (by repeat (first | exact RS.nil | refine RS.cons rfl ?_)) ?_
        refine WX.next ?_
        refine WC.condT rfl ?_
        refine WC.seq ?_
        refine WC.region ?_
        refine wlv (op_assign (by decide) rfl) rfl ?_
        refine WL.nil ?_
        refine WX.regs (L' := [(2, _)]) (by repeat (first | exact RS.nil | refine RS.cons rfl ?_)) ?_
        refine WX.next ?_
        refine WC.ret ?_
        refine WX.in_ret ?_
        refine WX.then_ret ?_
        exact Fin.ret1 (by first | exact .inl rfl | exact .inr rfl) (_) (by (try simp only []); unfold chk; (try simp only [fineP] at *); repeat (split); all_goals omega) Try.results19 (.tmp rfl) (by repeat (first | exact Takes.nil | exact Take.here | apply Takes.cons | apply Take.there)) (by simp)
      ·
        refine wlgv (op_fieldAddr fo25_3 (by decide) rfl) rfl rfl rfl ?_
        refine wlgv (op_load1 fl3 (by decide) rfl (by repeat (first | exact List.Mem.head _ | apply List.Mem.tail)) rfl) rfl rfl rfl ?_
        refine wlgv (op_fieldAddr fo25_4 (by decide) rfl) rfl rfl rfl ?_
        refine wlgv (op_load1 fl3 (by decide) rfl (by repeat (first | exact List.Mem.head _ | apply List.Mem.tail)) rfl) rfl rfl rfl ?_
        refine wlgv (op_sub (by decide) rfl rfl (by omega)) rfl rfl rfl ?_
        refine wlgx (op_call (f50_spec _ _) ca50 (by decide) rfl (by apply Give.mk; (repeat (first | exact Takes.nil | exact Take.here | apply Takes.cons | apply Take.there)); repeat (first | exact Reads.nil | (apply Reads.rd; (focus (repeat (first | exact List.Mem.head _ | apply List.Mem.tail)); done)) | (apply Reads.own; (focus (repeat (first | exact List.Mem.head _ | apply List.Mem.tail)); done)) | (apply Reads.rx; (focus (repeat (first | exact List.Mem.head _ | apply List.Mem.tail)); done)) | (apply Reads.rows (e := false); (focus (repeat (first | exact List.Mem.head _ | apply List.Mem.tail)); done)) | (apply Reads.rows (e := true); (focus (repeat (first | exact List.Mem.head _ | apply List.Mem.tail)); done))))) rfl rfl rfl ?_
        rintro _ rfl
        refine wlgv (op_notp (by decide) rfl) rfl rfl rfl ?_
        refine wlv (op_pickF (by decide) rfl rfl) rfl ?_
        refine wlv (op_assign (by decide) rfl) rfl ?_
        refine WL.nil ?_
        refine WX.regs (L' := [(1, _), (3, _), (4, _), (14, _)]) (by repeat (first | exact RS.nil | refine RS.cons rfl ?_)) ?_
        refine WX.next ?_
        refine WC.cond rfl (fun h1 => ?_) (fun h1 => ?_)
        ·
          refine WC.seq ?_
          refine WC.region ?_
          refine wlv (op_assign (by decide) rfl) rfl ?_
          refine WL.nil ?_
          refine WX.regs (L' := [(2, _)]) (by repeat (first | exact RS.nil | refine RS.cons rfl ?_)) ?_
          refine WX.next ?_
          refine WC.ret ?_
          refine WX.in_ret ?_
          refine WX.then_ret ?_
          exact Fin.ret1 (by first | exact .inl rfl | exact .inr rfl) (_) (by (try simp only []); unfold chk; (try simp only [fineP] at *); repeat (split); all_goals omega) Try.results19 (.tmp rfl) (by repeat (first | exact Takes.nil | exact Take.here | apply Takes.cons | apply Take.there)) (by simp)
        ·
          refine WC.seq ?_
          refine WC.region ?_
          refine wlv (op_move (by decide) rfl) rfl ?_
          refine wlv (op_gtr (by decide) rfl rfl) rfl ?_
          refine wlv (op_assign (by decide) rfl) rfl ?_
          refine WL.nil ?_
          refine WX.regs (L' := [(1, _), (3, _), (4, _), (38, _)]) (by repeat (first | exact RS.nil | refine RS.cons rfl ?_)) ?_
          refine WX.next ?_
          refine WC.cond rfl (fun h2 => ?_) (fun h2 => ?_)
          ·
            refine WC.seq ?_
            refine WC.region ?_
            refine wlv (op_assign (by decide) rfl) rfl ?_
            refine WL.nil ?_
            refine WX.regs (L' := [(2, _)]) (by repeat (first | exact RS.nil | refine RS.cons rfl ?_)) ?_
            refine WX.next ?_
            refine WC.ret ?_
            refine WX.in_ret ?_
            refine WX.then_ret ?_
            exact Fin.ret1 (by first | exact .inl rfl | exact .inr rfl) (_) (by (try simp only []); unfold chk; (try simp only [fineP] at *); repeat (split); all_goals omega) Try.results19 (.tmp rfl) (by repeat (first | exact Takes.nil | exact Take.here | apply Takes.cons | apply Take.there)) (by simp)
          ·
            refine WC.seq ?_
            refine WC.region ?_
            refine wlv (op_move (by decide) rfl) rfl ?_
            refine wlv (op_lss (by decide) rfl rfl) rfl ?_
            refine wlv (op_move (by decide) rfl) rfl ?_
            refine WL.split (t := 44) rfl (fun g44 => ?_) (fun g44 => ?_)
            ·
              refine wlgv (op_move (by decide) rfl) rfl rfl rfl ?_
              refine wlgv (op_notp (by decide) rfl) rfl rfl rfl ?_
              refine wlv (op_pickT (by decide) rfl rfl) rfl ?_
              refine wlv (op_move (by decide) rfl) rfl ?_
              refine WL.split (t := 48) rfl (fun g48 => ?_) (fun g48 => ?_)
              ·
                refine wlg_no rfl rfl rfl rfl rfl (by decide) ?_
                refine wlg_no rfl rfl rfl rfl rfl (by decide) ?_
                refine wlg_undef rfl rfl rfl rfl (by decide) ?_
                refine wlg_undef rfl rfl rfl rfl (by decide) ?_
                refine wlg_undef rfl rfl rfl rfl (by decide) ?_
                refine wlg_no rfl rfl rfl rfl rfl (by decide) ?_
                refine wlg_no rfl rfl rfl rfl rfl (by decide) ?_
                refine wlg_undef rfl rfl rfl rfl (by decide) ?_
                refine wlg_undef rfl rfl rfl rfl (by decide) ?_
                refine wlg_no rfl rfl rfl rfl rfl (by decide) ?_
                refine wlv (op_pickT (by decide) rfl rfl) rfl ?_
                refine wlv (op_assign (by decide) rfl) rfl ?_
                refine WL.nil ?_
                refine WX.regs (L' := [(1, _), (3, _), (4, _), (41, _)]) (by repeat (first | exact RS.nil | refine RS.cons rfl ?_)) ?_
                refine WX.next ?_
                refine WC.condT rfl ?_
                refine WC.seq ?_
                refine WC.region ?_
                refine wlv (op_assign (by decide) rfl) rfl ?_
                refine WL.nil ?_
                refine WX.regs (L' := [(2, _)]) (by repeat (first | exact RS.nil | refine RS.cons rfl ?_)) ?_
                refine WX.next ?_
                refine WC.ret ?_
                refine WX.in_ret ?_
                refine WX.then_ret ?_
                exact Fin.ret1 (by first | exact .inl rfl | exact .inr rfl) (_) (by (try simp only []); unfold chk; (try simp only [fineP] at *); repeat (split); all_goals omega) Try.results19 (.tmp rfl) (by repeat (first | exact Takes.nil | exact Take.here | apply Takes.cons | apply Take.there)) (by simp)
              ·
                refine wlgv (op_move (by decide) rfl) rfl rfl rfl ?_
                refine wlgv (op_move (by decide) rfl) rfl rfl rfl ?_
                refine WL.split (t := 50) rfl (fun g50 => ?_) (fun g50 => ?_)
                ·
                  refine wlgv (op_fieldAddr fo25_4 (by decide) rfl) rfl rfl rfl ?_
                  refine wlgv (op_load1 fl3 (by decide) rfl (by repeat (first | exact List.Mem.head _ | apply List.Mem.tail)) rfl) rfl rfl rfl ?_
                  refine wlgv (op_gtr (by decide) rfl rfl) rfl rfl rfl ?_
                  refine wlgv (op_pickT (by decide) rfl rfl) rfl rfl rfl ?_
                  refine wlgv (op_move (by decide) rfl) rfl rfl rfl ?_
                  refine WL.split (t := 55) rfl (fun g55 => ?_) (fun g55 => ?_)
                  ·
                    refine wlgv (op_move (by decide) rfl) rfl rfl rfl ?_
                    refine wlgv (op_eql (by decide) rfl rfl) rfl rfl rfl ?_
                    refine wlgv (op_pickT (by decide) rfl rfl) rfl rfl rfl ?_
                    refine wlv (op_pickF (by decide) rfl rfl) rfl ?_
                    refine wlv (op_assign (by decide) rfl) rfl ?_
                    refine WL.nil ?_
                    refine WX.regs (L' := [(1, _), (3, _), (4, _), (41, _)]) (by repeat (first | exact RS.nil | refine RS.cons rfl ?_)) ?_
                    refine WX.next ?_
                    refine WC.cond rfl (fun h3 => ?_) (fun h3 => ?_)
                    ·
                      refine WC.seq ?_
                      refine WC.region ?_
                      refine wlv (op_assign (by decide) rfl) rfl ?_
                      refine WL.nil ?_
                      refine WX.regs (L' := [(2, _)]) (by repeat (first | exact RS.nil | refine RS.cons rfl ?_)) ?_
                      refine WX.next ?_
                      refine WC.ret ?_
                      refine WX.in_ret ?_
                      refine WX.then_ret ?_
                      exact Fin.ret1 (by first | exact .inl rfl | exact .inr rfl) (_) (by (try simp only []); unfold chk; (try simp only [fineP] at *); repeat (split); all_goals omega) Try.results19 (.tmp rfl) (by repeat (first | exact Takes.nil | exact Take.here | apply Takes.cons | apply Take.there)) (by simp)
                    ·
                      refine WC.seq ?_
                      refine WC.region ?_
                      refine wlv (op_move (by decide) rfl) rfl ?_
                      refine wlv (op_move (by decide) rfl) rfl ?_
                      refine WL.split (t := 62) rfl (fun g62 => ?_) (fun g62 => ?_)
                      ·
                        refine wlgv (op_fieldAddr fo25_3 (by decide) rfl) rfl rfl rfl ?_
                        refine wlgv (op_load1 fl3 (by decide) rfl (by repeat (first | exact List.Mem.head _ | apply List.Mem.tail)) rfl) rfl rfl rfl ?_
                        refine wlgv (op_mul (by decide) rfl rfl (by simp only [fineP] at *; omega)) rfl rfl rfl ?_
                        refine wlgv (op_move (by decide) rfl) rfl rfl rfl ?_
                        refine wlgv (op_add (by decide) rfl rfl (by simp only [fineP] at *; omega)) rfl rfl rfl ?_
                        refine wlgv (op_gtr (by decide) rfl rfl) rfl rfl rfl ?_
                        refine wlv (op_pickT (by decide) rfl rfl) rfl ?_
                        refine wlv (op_assign (by decide) rfl) rfl ?_
                        refine WL.nil ?_
                        refine WX.regs (L' := [(60, _)]) (by repeat (first | exact RS.nil | refine RS.cons rfl ?_)) ?_
                        refine WX.next ?_
                        refine WC.cond rfl (fun h4 => ?_) (fun h4 => ?_)
                        ·
                          refine WC.seq ?_
                          refine WC.region ?_
                          refine wlv (op_assign (by decide) rfl) rfl ?_
                          refine WL.nil ?_
                          refine WX.regs (L' := [(2, _)]) (by repeat (first | exact RS.nil | refine RS.cons rfl ?_)) ?_
                          refine WX.next ?_
                          refine WC.ret ?_
                          refine WX.in_ret ?_
                          refine WX.then_ret ?_
                          exact Fin.ret1 (by first | exact .inl rfl | exact .inr rfl) (_) (by (try simp only []); unfold chk; (try simp only [fineP] at *); repeat (split); all_goals omega) Try.results19 (.tmp rfl) (by repeat (first | exact Takes.nil | exact Take.here | apply Takes.cons | apply Take.there)) (by simp)
                        ·
                          refine WC.skip ?_
                          refine WX.in_normal ?_
                          refine WX.next ?_
                          refine WC.seq ?_
                          refine WC.region ?_
                          refine wlv (op_assign (by decide) rfl) rfl ?_
                          refine WL.nil ?_
                          refine WX.regs (L' := [(2, _)]) (by repeat (first | exact RS.nil | refine RS.cons rfl ?_)) ?_
                          refine WX.next ?_
                          refine WC.ret ?_
                          exact Fin.ret1 (by first | exact .inl rfl | exact .inr rfl) (_) (by (try simp only []); unfold chk; (try simp only [fineP] at *); repeat (split); all_goals omega) Try.results19 (.tmp rfl) (by repeat (first | exact Takes.nil | exact Take.here | apply Takes.cons | apply Take.there)) (by simp)
                      ·
                        refine wlg_no rfl rfl rfl rfl rfl (by decide) ?_
                        refine wlg_no rfl rfl rfl rfl rfl (by decide) ?_
                        refine wlg_no rfl rfl rfl rfl rfl (by decide) ?_
                        refine wlg_no rfl rfl rfl rfl rfl (by decide) ?_
                        refine wlg_no rfl rfl rfl rfl rfl (by decide) ?_
                        refine wlg_no rfl rfl rfl rfl rfl (by decide) ?_
                        refine wlv (op_pickF (by decide) rfl rfl) rfl ?_
                        refine wlv (op_assign (by decide) rfl) rfl ?_
                        refine WL.nil ?_
                        refine WX.regs (L' := [(60, _)]) (by repeat (first | exact RS.nil | refine RS.cons rfl ?_)) ?_
                        refine WX.next ?_
                        refine WC.condF rfl ?_
                        refine WC.skip ?_
                        refine WX.in_normal ?_
                        refine WX.next ?_
                        refine WC.seq ?_
                        refine WC.region ?_
                        refine wlv (op_assign (by decide) rfl) rfl ?_
                        refine WL.nil ?_
                        refine WX.regs (L' := [(2, _)]) (by repeat (first | exact RS.nil | refine RS.cons rfl ?_)) ?_
                        refine WX.next ?_
                        refine WC.ret ?_
                        exact Fin.ret1 (by first | exact .inl rfl | exact .inr rfl) (_) (by (try simp only []); unfold chk; (try simp only [fineP] at *); repeat (split); all_goals omega) Try.results19 (.tmp rfl) (by repeat (first | exact Takes.nil | exact Take.here | apply Takes.cons | apply Take.there)) (by simp)
                  ·
                    refine wlg_no rfl rfl rfl rfl rfl (by decide) ?_
                    refine wlg_no rfl rfl rfl rfl rfl (by decide) ?_
                    refine wlgv (op_pickF (by decide) rfl rfl) rfl rfl rfl ?_
                    refine wlv (op_pickF (by decide) rfl rfl) rfl ?_
                    refine wlv (op_assign (by decide) rfl) rfl ?_
                    refine WL.nil ?_
                    refine WX.regs (L' := [(1, _), (3, _), (4, _), (41, _)]) (by repeat (first | exact RS.nil | refine RS.cons rfl ?_)) ?_
                    refine WX.next ?_
                    refine WC.condF rfl ?_
                    refine WC.seq ?_
                    refine WC.region ?_
                    refine wlv (op_move (by decide) rfl) rfl ?_
                    refine wlv (op_move (by decide) rfl) rfl ?_
                    refine WL.split (t := 62) rfl (fun g62 => ?_) (fun g62 => ?_)
                    ·
                      refine wlgv (op_fieldAddr fo25_3 (by decide) rfl) rfl rfl rfl ?_
                      refine wlgv (op_load1 fl3 (by decide) rfl (by repeat (first | exact List.Mem.head _ | apply List.Mem.tail)) rfl) rfl rfl rfl ?_
                      refine wlgv (op_mul (by decide) rfl rfl (by simp only [fineP] at *; omega)) rfl rfl rfl ?_
                      refine wlgv (op_move (by decide) rfl) rfl rfl rfl ?_
                      refine wlgv (op_add (by decide) rfl rfl (by simp only [fineP] at *; omega)) rfl rfl rfl ?_
                      refine wlgv (op_gtr (by decide) rfl rfl) rfl rfl rfl ?_
                      refine wlv (op_pickT (by decide) rfl rfl) rfl ?_
                      refine wlv (op_assign (by decide) rfl) rfl ?_
                      refine WL.nil ?_
                      refine WX.regs (L' := [(60, _)]) (by repeat (first | exact RS.nil | refine RS.cons rfl ?_)) ?_
                      refine WX.next ?_
                      refine WC.cond rfl (fun h4 => ?_) (fun h4 => ?_)
                      ·
                        refine WC.seq ?_
                        refine WC.region ?_
                        refine wlv (op_assign (by decide) rfl) rfl ?_
                        refine WL.nil ?_
                        refine WX.regs (L' := [(2, _)]) (by repeat (first | exact RS.nil | refine RS.cons rfl ?_)) ?_
                        refine WX.next ?_
                        refine WC.ret ?_
                        refine WX.in_ret ?_
                        refine WX.then_ret ?_
                        exact Fin.ret1 (by first | exact .inl rfl | exact .inr rfl) (_) (by (try simp only []); unfold chk; (try simp only [fineP] at *); repeat (split); all_goals omega) Try.results19 (.tmp rfl) (by repeat (first | exact Takes.nil | exact Take.here | apply Takes.cons | apply Take.there)) (by simp)
                      ·
                        refine WC.skip ?_
                        refine WX.in_normal ?_
                        refine WX.next ?_
                        refine WC.seq ?_
                        refine WC.region ?_
                        refine wlv (op_assign (by decide) rfl) rfl ?_
                        refine WL.nil ?_
                        refine WX.regs (L' := [(2, _)]) (by repeat (first | exact RS.nil | refine RS.cons rfl ?_)) ?_
                        refine WX.next ?_
                        refine WC.ret ?_
                        exact Fin.ret1 (by first | exact .inl rfl | exact .inr rfl) (_) (by (try simp only []); unfold chk; (try simp only [fineP] at *); repeat (split); all_goals omega) Try.results19 (.tmp rfl) (by repeat (first | exact Takes.nil | exact Take.here | apply Takes.cons | apply Take.there)) (by simp)
                    ·
                      refine wlg_no rfl rfl rfl rfl rfl (by decide) ?_
                      refine wlg_no rfl rfl rfl rfl rfl (by decide) ?_
                      refine wlg_no rfl rfl rfl rfl rfl (by decide) ?_
                      refine wlg_no rfl rfl rfl rfl rfl (by decide) ?_
                      refine wlg_no rfl rfl rfl rfl rfl (by decide) ?_
                      refine wlg_no rfl rfl rfl rfl rfl (by decide) ?_
                      refine wlv (op_pickF (by decide) rfl rfl) rfl ?_
                      refine wlv (op_assign (by decide) rfl) rfl ?_
                      refine WL.nil ?_
                      refine WX.regs (L' := [(60, _)]) (by repeat (first | exact RS.nil | refine RS.cons rfl ?_)) ?_
                      refine WX.next ?_
                      refine WC.condF rfl ?_
                      refine WC.skip ?_
                      refine WX.in_normal ?_
                      refine WX.next ?_
                      refine WC.seq ?_
                      refine WC.region ?_
                      refine wlv (op_assign (by decide) rfl) rfl ?_
                      refine WL.nil ?_
                      refine WX.regs (L' := [(2, _)]) (by repeat (first | exact RS.nil | refine RS.cons rfl ?_)) ?_
                      refine WX.next ?_
                      refine WC.ret ?_
                      exact Fin.ret1 (by first | exact .inl rfl | exact .inr rfl) (_) (by (try simp only []); unfold chk; (try simp only [fineP] at *); repeat (split); all_goals omega) Try.results19 (.tmp rfl) (by repeat (first | exact Takes.nil | exact Take.here | apply Takes.cons | apply Take.there)) (by simp)
                ·
                  refine wlg_no rfl rfl rfl rfl rfl (by decide) ?_
                  refine wlg_no rfl rfl rfl rfl rfl (by decide) ?_
                  refine wlg_no rfl rfl rfl rfl rfl (by decide) ?_
                  refine wlgv (op_pickF (by decide) rfl rfl) rfl rfl rfl ?_
                  refine wlgv (op_move (by decide) rfl) rfl rfl rfl ?_
                  refine wlg_no rfl rfl rfl rfl rfl (by decide) ?_
                  refine wlg_no rfl rfl rfl rfl rfl (by decide) ?_
                  refine wlgv (op_pickF (by decide) rfl rfl) rfl rfl rfl ?_
                  refine wlv (op_pickF (by decide) rfl rfl) rfl ?_
                  refine wlv (op_assign (by decide) rfl) rfl ?_
                  refine WL.nil ?_
                  refine WX.regs (L' := [(1, _), (3, _), (4, _), (41, _)]) (by repeat (first | exact RS.nil | refine RS.cons rfl ?_)) ?_
                  refine WX.next ?_
                  refine WC.condF rfl ?_
                  refine WC.seq ?_
                  refine WC.region ?_
                  refine wlv (op_move (by decide) rfl) rfl ?_
                  refine wlv (op_move (by decide) rfl) rfl ?_
                  refine WL.split (t := 62) rfl (fun g62 => ?_) (fun g62 => ?_)
                  ·
                    refine wlgv (op_fieldAddr fo25_3 (by decide) rfl) rfl rfl rfl ?_
                    refine wlgv (op_load1 fl3 (by decide) rfl (by repeat (first | exact List.Mem.head _ | apply List.Mem.tail)) rfl) rfl rfl rfl ?_
                    refine wlgv (op_mul (by decide) rfl rfl (by simp only [fineP] at *; omega)) rfl rfl rfl ?_
                    refine wlgv (op_move (by decide) rfl) rfl rfl rfl ?_
                    refine wlgv (op_add (by decide) rfl rfl (by simp only [fineP] at *; omega)) rfl rfl rfl ?_
                    refine wlgv (op_gtr (by decide) rfl rfl) rfl rfl rfl ?_
                    refine wlv (op_pickT (by decide) rfl rfl) rfl ?_
                    refine wlv (op_assign (by decide) rfl) rfl ?_
                    refine WL.nil ?_
                    refine WX.regs (L' := [(60, _)]) (by repeat (first | exact RS.nil | refine RS.cons rfl ?_)) ?_
                    refine WX.next ?_
                    refine WC.cond rfl (fun h4 => ?_) (fun h4 => ?_)
                    ·
                      refine WC.seq ?_
                      refine WC.region ?_
                      refine wlv (op_assign (by decide) rfl) rfl ?_
                      refine WL.nil ?_
                      refine WX.regs (L' := [(2, _)]) (by repeat (first | exact RS.nil | refine RS.cons rfl ?_)) ?_
                      refine WX.next ?_
                      refine WC.ret ?_
                      refine WX.in_ret ?_
                      refine WX.then_ret ?_
                      exact Fin.ret1 (by first | exact .inl rfl | exact .inr rfl) (_) (by (try simp only []); unfold chk; (try simp only [fineP] at *); repeat (split); all_goals omega) Try.results19 (.tmp rfl) (by repeat (first | exact Takes.nil | exact Take.here | apply Takes.cons | apply Take.there)) (by simp)
                    ·
                      refine WC.skip ?_
                      refine WX.in_normal ?_
                      refine WX.next ?_
                      refine WC.seq ?_
                      refine WC.region ?_
                      refine wlv (op_assign (by decide) rfl) rfl ?_
                      refine WL.nil ?_
                      refine WX.regs (L' := [(2, _)]) (by repeat (first | exact RS.nil | refine RS.cons rfl ?_)) ?_
                      refine WX.next ?_
                      refine WC.ret ?_
                      exact Fin.ret1 (by first | exact .inl rfl | exact .inr rfl) (_) (by (try simp only []); unfold chk; (try simp only [fineP] at *); repeat (split); all_goals omega) Try.results19 (.tmp rfl) (by repeat (first | exact Takes.nil | exact Take.here | apply Takes.cons | apply Take.there)) (by simp)
                  ·
                    refine wlg_no rfl rfl rfl rfl rfl (by decide) ?_
                    refine wlg_no rfl rfl rfl rfl rfl (by decide) ?_
                    refine wlg_no rfl rfl rfl rfl rfl (by decide) ?_
                    refine wlg_no rfl rfl rfl rfl rfl (by decide) ?_
                    refine wlg_no rfl rfl rfl rfl rfl (by decide) ?_
                    refine wlg_no rfl rfl rfl rfl rfl (by decide) ?_
                    refine wlv (op_pickF (by decide) rfl rfl) rfl ?_
                    refine wlv (op_assign (by decide) rfl) rfl ?_
                    refine WL.nil ?_
                    refine WX.regs (L' := [(60, _)]) (by repeat (first | exact RS.nil | refine RS.cons rfl ?_)) ?_
                    refine WX.next ?_
                    refine WC.condF rfl ?_
                    refine WC.skip ?_
                    refine WX.in_normal ?_
                    refine WX.next ?_
                    refine WC.seq ?_
                    refine WC.region ?_
                    refine wlv (op_assign (by decide) rfl) rfl ?_
                    refine WL.nil ?_
                    refine WX.regs (L' := [(2, _)]) (by repeat (first | exact RS.nil | refine RS.cons rfl ?_)) ?_
                    refine WX.next ?_
                    refine WC.ret ?_
                    exact Fin.ret1 (by first | exact .inl rfl | exact .inr rfl) (_) (by (try simp only []); unfold chk; (try simp only [fineP] at *); repeat (split); all_goals omega) Try.results19 (.tmp rfl) (by repeat (first | exact Takes.nil | exact Take.here | apply Takes.cons | apply Take.there)) (by simp)
            ·
              refine wlg_no rfl rfl rfl rfl rfl (by decide) ?_
              refine wlg_no rfl rfl rfl rfl rfl (by decide) ?_
              refine wlv (op_pickF (by decide) rfl rfl) rfl ?_
              refine wlv (op_move (by decide) rfl) rfl ?_
              refine wlgv (op_move (by decide) rfl) rfl rfl rfl ?_
              refine wlgv (op_move (by decide) rfl) rfl rfl rfl ?_
              refine WL.split (t := 50) rfl (fun g50 => ?_) (fun g50 => ?_)
              ·
                refine wlgv (op_fieldAddr fo25_4 (by decide) rfl) rfl rfl rfl ?_
                refine wlgv (op_load1 fl3 (by decide) rfl (by repeat (first | exact List.Mem.head _ | apply List.Mem.tail)) rfl) rfl rfl rfl ?_
                refine wlgv (op_gtr (by decide) rfl rfl) rfl rfl rfl ?_
                refine wlgv (op_pickT (by decide) rfl rfl) rfl rfl rfl ?_
                refine wlgv (op_move (by decide) rfl) rfl rfl rfl ?_
                refine WL.split (t := 55) rfl (fun g55 => ?_) (fun g55 => ?_)
                ·
                  refine wlgv (op_move (by decide) rfl) rfl rfl rfl ?_
                  refine wlgv (op_eql (by decide) rfl rfl) rfl rfl rfl ?_
                  refine wlgv (op_pickT (by decide) rfl rfl) rfl rfl rfl ?_
                  refine wlv (op_pickF (by decide) rfl rfl) rfl ?_
                  refine wlv (op_assign (by decide) rfl) rfl ?_
                  refine WL.nil ?_
                  refine WX.regs (L' := [(1, _), (3, _), (4, _), (41, _)]) (by repeat (first | exact RS.nil | refine RS.cons rfl ?_)) ?_
                  refine WX.next ?_
                  refine WC.cond rfl (fun h3 => ?_) (fun h3 => ?_)
                  ·
                    refine WC.seq ?_
                    refine WC.region ?_
                    refine wlv (op_assign (by decide) rfl) rfl ?_
                    refine WL.nil ?_
                    refine WX.regs (L' := [(2, _)]) (by repeat (first | exact RS.nil | refine RS.cons rfl ?_)) ?_
                    refine WX.next ?_
                    refine WC.ret ?_
                    refine WX.in_ret ?_
                    refine WX.then_ret ?_
                    exact Fin.ret1 (by first | exact .inl rfl | exact .inr rfl) (_) (by (try simp only []); unfold chk; (try simp only [fineP] at *); repeat (split); all_goals omega) Try.results19 (.tmp rfl) (by repeat (first | exact Takes.nil | exact Take.here | apply Takes.cons | apply Take.there)) (by simp)
                  ·
                    refine WC.seq ?_
                    refine WC.region ?_
                    refine wlv (op_move (by decide) rfl) rfl ?_
                    refine wlv (op_move (by decide) rfl) rfl ?_
                    refine WL.split (t := 62) rfl (fun g62 => ?_) (fun g62 => ?_)
                    ·
                      refine wlgv (op_fieldAddr fo25_3 (by decide) rfl) rfl rfl rfl ?_
                      refine wlgv (op_load1 fl3 (by decide) rfl (by repeat (first | exact List.Mem.head _ | apply List.Mem.tail)) rfl) rfl rfl rfl ?_
                      refine wlgv (op_mul (by decide) rfl rfl (by simp only [fineP] at *; omega)) rfl rfl rfl ?_
                      refine wlgv (op_move (by decide) rfl) rfl rfl rfl ?_
                      refine wlgv (op_add (by decide) rfl rfl (by simp only [fineP] at *; omega)) rfl rfl rfl ?_
                      refine wlgv (op_gtr (by decide) rfl rfl) rfl rfl rfl ?_
                      refine wlv (op_pickT (by decide) rfl rfl) rfl ?_
                      refine wlv (op_assign (by decide) rfl) rfl ?_
                      refine WL.nil ?_
                      refine WX.regs (L' := [(60, _)]) (by repeat (first | exact RS.nil | refine RS.cons rfl ?_)) ?_
                      refine WX.next ?_
                      refine WC.cond rfl (fun h4 => ?_) (fun h4 => ?_)
                      ·
                        refine WC.seq ?_
                        refine WC.region ?_
                        refine wlv (op_assign (by decide) rfl) rfl ?_
                        refine WL.nil ?_
                        refine WX.regs (L' := [(2, _)]) (by repeat (first | exact RS.nil | refine RS.cons rfl ?_)) ?_
                        refine WX.next ?_
                        refine WC.ret ?_
                        refine WX.in_ret ?_
                        refine WX.then_ret ?_
                        exact Fin.ret1 (by first | exact .inl rfl | exact .inr rfl) (_) (by (try simp only []); unfold chk; (try simp only [fineP] at *); repeat (split); all_goals omega) Try.results19 (.tmp rfl) (by repeat (first | exact Takes.nil | exact Take.here | apply Takes.cons | apply Take.there)) (by simp)
                      ·
                        refine WC.skip ?_
                        refine WX.in_normal ?_
                        refine WX.next ?_
                        refine WC.seq ?_
                        refine WC.region ?_
                        refine wlv (op_assign (by decide) rfl) rfl ?_
                        refine WL.nil ?_
                        refine WX.regs (L' := [(2, _)]) (by repeat (first | exact RS.nil | refine RS.cons rfl ?_)) ?_
                        refine WX.next ?_
                        refine WC.ret ?_
                        exact Fin.ret1 (by first | exact .inl rfl | exact .inr rfl) (_) (by (try simp only []); unfold chk; (try simp only [fineP] at *); repeat (split); all_goals omega) Try.results19 (.tmp rfl) (by repeat (first | exact Takes.nil | exact Take.here | apply Takes.cons | apply Take.there)) (by simp)
                    ·
                      refine wlg_no rfl rfl rfl rfl rfl (by decide) ?_
                      refine wlg_no rfl rfl rfl rfl rfl (by decide) ?_
                      refine wlg_no rfl rfl rfl rfl rfl (by decide) ?_
                      refine wlg_no rfl rfl rfl rfl rfl (by decide) ?_
                      refine wlg_no rfl rfl rfl rfl rfl (by decide) ?_
                      refine wlg_no rfl rfl rfl rfl rfl (by decide) ?_
                      refine wlv (op_pickF (by decide) rfl rfl) rfl ?_
                      refine wlv (op_assign (by decide) rfl) rfl ?_
                      refine WL.nil ?_
                      refine WX.regs (L' := [(60, _)]) (by repeat (first | exact RS.nil | refine RS.cons rfl ?_)) ?_
                      refine WX.next ?_
                      refine WC.condF rfl ?_
                      refine WC.skip ?_
                      refine WX.in_normal ?_
                      refine WX.next ?_
                      refine WC.seq ?_
                      refine WC.region ?_
                      refine wlv (op_assign (by decide) rfl) rfl ?_
                      refine WL.nil ?_
                      refine WX.regs (L' := [(2, _)]) (by repeat (first | exact RS.nil | refine RS.cons rfl ?_)) ?_
                      refine WX.next ?_
                      refine WC.ret ?_
                      exact Fin.ret1 (by first | exact .inl rfl | exact .inr rfl) (_) (by (try simp only []); unfold chk; (try simp only [fineP] at *); repeat (split); all_goals omega) Try.results19 (.tmp rfl) (by repeat (first | exact Takes.nil | exact Take.here | apply Takes.cons | apply Take.there)) (by simp)
                ·
                  refine wlg_no rfl rfl rfl rfl rfl (by decide) ?_
                  refine wlg_no rfl rfl rfl rfl rfl (by decide) ?_
                  refine wlgv (op_pickF (by decide) rfl rfl) rfl rfl rfl ?_
                  refine wlv (op_pickF (by decide) rfl rfl) rfl ?_
                  refine wlv (op_assign (by decide) rfl) rfl ?_
                  refine WL.nil ?_
                  refine WX.regs (L' := [(1, _), (3, _), (4, _), (41, _)]) (by repeat (first | exact RS.nil | refine RS.cons rfl ?_)) ?_
                  refine WX.next ?_
                  refine WC.condF rfl ?_
                  refine WC.seq ?_
                  refine WC.region ?_
                  refine wlv (op_move (by decide) rfl) rfl ?_
                  refine wlv (op_move (by decide) rfl) rfl ?_
                  refine WL.split (t := 62) rfl (fun g62 => ?_) (fun g62 => ?_)
                  ·
                    refine wlgv (op_fieldAddr fo25_3 (by decide) rfl) rfl rfl rfl ?_
                    refine wlgv (op_load1 fl3 (by decide) rfl (by repeat (first | exact List.Mem.head _ | apply List.Mem.tail)) rfl) rfl rfl rfl ?_
                    refine wlgv (op_mul (by decide) rfl rfl (by simp only [fineP] at *; omega)) rfl rfl rfl ?_
                    refine wlgv (op_move (by decide) rfl) rfl rfl rfl ?_
                    refine wlgv (op_add (by decide) rfl rfl (by simp only [fineP] at *; omega)) rfl rfl rfl ?_
                    refine wlgv (op_gtr (by decide) rfl rfl) rfl rfl rfl ?_
                    refine wlv (op_pickT (by decide) rfl rfl) rfl ?_
                    refine wlv (op_assign (by decide) rfl) rfl ?_
                    refine WL.nil ?_
                    refine WX.regs (L' := [(60, _)]) (by repeat (first | exact RS.nil | refine RS.cons rfl ?_)) ?_
                    refine WX.next ?_
                    refine WC.cond rfl (fun h4 => ?_) (fun h4 => ?_)
                    ·
                      refine WC.seq ?_
                      refine WC.region ?_
                      refine wlv (op_assign (by decide) rfl) rfl ?_
                      refine WL.nil ?_
                      refine WX.regs (L' := [(2, _)]) (by repeat (first | exact RS.nil | refine RS.cons rfl ?_)) ?_
                      refine WX.next ?_
                      refine WC.ret ?_
                      refine WX.in_ret ?_
                      refine WX.then_ret ?_
                      exact Fin.ret1 (by first | exact .inl rfl | exact .inr rfl) (_) (by (try simp only []); unfold chk; (try simp only [fineP] at *); repeat (split); all_goals omega) Try.results19 (.tmp rfl) (by repeat (first | exact Takes.nil | exact Take.here | apply Takes.cons | apply Take.there)) (by simp)
                    ·
                      refine WC.skip ?_
                      refine WX.in_normal ?_
                      refine WX.next ?_
                      refine WC.seq ?_
                      refine WC.region ?_
                      refine wlv (op_assign (by decide) rfl) rfl ?_
                      refine WL.nil ?_
                      refine WX.regs (L' := [(2, _)]) (by repeat (first | exact RS.nil | refine RS.cons rfl ?_)) ?_
                      refine WX.next ?_
                      refine WC.ret ?_
                      exact Fin.ret1 (by first | exact .inl rfl | exact .inr rfl) (_) (by (try simp only []); unfold chk; (try simp only [fineP] at *); repeat (split); all_goals omega) Try.results19 (.tmp rfl) (by repeat (first | exact Takes.nil | exact Take.here | apply Takes.cons | apply Take.there)) (by simp)
                  ·
                    refine wlg_no rfl rfl rfl rfl rfl (by decide) ?_
                    refine wlg_no rfl rfl rfl rfl rfl (by decide) ?_
                    refine wlg_no rfl rfl rfl rfl rfl (by decide) ?_
                    refine wlg_no rfl rfl rfl rfl rfl (by decide) ?_
                    refine wlg_no rfl rfl rfl rfl rfl (by decide) ?_
                    refine wlg_no rfl rfl rfl rfl rfl (by decide) ?_
                    refine wlv (op_pickF (by decide) rfl rfl) rfl ?_
                    refine wlv (op_assign (by decide) rfl) rfl ?_
                    refine WL.nil ?_
                    refine WX.regs (L' := [(60, _)]) (by repeat (first | exact RS.nil | refine RS.cons rfl ?_)) ?_
                    refine WX.next ?_
                    refine WC.condF rfl ?_
                    refine WC.skip ?_
                    refine WX.in_normal ?_
                    refine WX.next ?_
                    refine WC.seq ?_
                    refine WC.region ?_
                    refine wlv (op_assign (by decide) rfl) rfl ?_
                    refine WL.nil ?_
                    refine WX.regs (L' := [(2, _)]) (by repeat (first | exact RS.nil | refine RS.cons rfl ?_)) ?_
                    refine WX.next ?_
                    refine WC.ret ?_
                    exact Fin.ret1 (by first | exact .inl rfl | exact .inr rfl) (_) (by (try simp only []); unfold chk; (try simp only [fineP] at *); repeat (split); all_goals omega) Try.results19 (.tmp rfl) (by repeat (first | exact Takes.nil | exact Take.here | apply Takes.cons | apply Take.there)) (by simp)
              ·
                refine wlg_no rfl rfl rfl rfl rfl (by decide) ?_
                refine wlg_no rfl rfl rfl rfl rfl (by decide) ?_
                refine wlg_no rfl rfl rfl rfl rfl (by decide) ?_
                refine wlgv (op_pickF (by decide) rfl rfl) rfl rfl rfl ?_
                refine wlgv (op_move (by decide) rfl) rfl rfl rfl ?_
                refine wlg_no rfl rfl rfl rfl rfl (by decide) ?_
                refine wlg_no rfl rfl rfl rfl rfl (by decide) ?_
                refine wlgv (op_pickF (by decide) rfl rfl) rfl rfl rfl ?_
                refine wlv (op_pickF (by decide) rfl rfl) rfl ?_
                refine wlv (op_assign (by decide) rfl) rfl ?_
                refine WL.nil ?_
                refine WX.regs (L' := [(1, _), (3, _), (4, _), (41, _)]) (by repeat (first | exact RS.nil | refine RS.cons rfl ?_)) ?_
                refine WX.next ?_
                refine WC.condF rfl ?_
                refine WC.seq ?_
                refine WC.region ?_
                refine wlv (op_move (by decide) rfl) rfl ?_
                refine wlv (op_move (by decide) rfl) rfl ?_
                refine WL.split (t := 62) rfl (fun g62 => ?_) (fun g62 => ?_)
                ·
                  refine wlgv (op_fieldAddr fo25_3 (by decide) rfl) rfl rfl rfl ?_
                  refine wlgv (op_load1 fl3 (by decide) rfl (by repeat (first | exact List.Mem.head _ | apply List.Mem.tail)) rfl) rfl rfl rfl ?_
                  refine wlgv (op_mul (by decide) rfl rfl (by simp only [fineP] at *; omega)) rfl rfl rfl ?_
                  refine wlgv (op_move (by decide) rfl) rfl rfl rfl ?_
                  refine wlgv (op_add (by decide) rfl rfl (by simp only [fineP] at *; omega)) rfl rfl rfl ?_
                  refine wlgv (op_gtr (by decide) rfl rfl) rfl rfl rfl ?_
                  refine wlv (op_pickT (by decide) rfl rfl) rfl ?_
                  refine wlv (op_assign (by decide) rfl) rfl ?_
                  refine WL.nil ?_
                  refine WX.regs (L' := [(60, _)]) (by repeat (first | exact RS.nil | refine RS.cons rfl ?_)) ?_
                  refine WX.next ?_
                  refine WC.cond rfl (fun h4 => ?_) (fun h4 => ?_)
                  ·
                    refine WC.seq ?_
                    refine WC.region ?_
                    refine wlv (op_assign (by decide) rfl) rfl ?_
                    refine WL.nil ?_
                    refine WX.regs (L' := [(2, _)]) (by repeat (first | exact RS.nil | refine RS.cons rfl ?_)) ?_
                    refine WX.next ?_
                    refine WC.ret ?_
                    refine WX.in_ret ?_
                    refine WX.then_ret ?_
                    exact Fin.ret1 (by first | exact .inl rfl | exact .inr rfl) (_) (by (try simp only []); unfold chk; (try simp only [fineP] at *); repeat (split); all_goals omega) Try.results19 (.tmp rfl) (by repeat (first | exact Takes.nil | exact Take.here | apply Takes.cons | apply Take.there)) (by simp)
                  ·
                    refine WC.skip ?_
                    refine WX.in_normal ?_
                    refine WX.next ?_
                    refine WC.seq ?_
                    refine WC.region ?_
                    refine wlv (op_assign (by decide) rfl) rfl ?_
                    refine WL.nil ?_
                    refine WX.regs (L' := [(2, _)]) (by repeat (first | exact RS.nil | refine RS.cons rfl ?_)) ?_
                    refine WX.next ?_
                    refine WC.ret ?_
                    exact Fin.ret1 (by first | exact .inl rfl | exact .inr rfl) (_) (by (try simp only []); unfold chk; (try simp only [fineP] at *); repeat (split); all_goals omega) Try.results19 (.tmp rfl) (by repeat (first | exact Takes.nil | exact Take.here | apply Takes.cons | apply Take.there)) (by simp)
                ·
                  refine wlg_no rfl rfl rfl rfl rfl (by decide) ?_
                  refine wlg_no rfl rfl rfl rfl rfl (by decide) ?_
                  refine wlg_no rfl rfl rfl rfl rfl (by decide) ?_
                  refine wlg_no rfl rfl rfl rfl rfl (by decide) ?_
                  refine wlg_no rfl rfl rfl rfl rfl (by decide) ?_
                  refine wlg_no rfl rfl rfl rfl rfl (by decide) ?_
                  refine wlv (op_pickF (by decide) rfl rfl) rfl ?_
                  refine wlv (op_assign (by decide) rfl) rfl ?_
                  refine WL.nil ?_
                  refine WX.regs (L' := [(60, _)]) (by repeat (first | exact RS.nil | refine RS.cons rfl ?_)) ?_
                  refine WX.next ?_
                  refine WC.condF rfl ?_
                  refine WC.skip ?_
                  refine WX.in_normal ?_
                  refine WX.next ?_
                  refine WC.seq ?_
                  refine WC.region ?_
                  refine wlv (op_assign (by decide) rfl) rfl ?_
                  refine WL.nil ?_
                  refine WX.regs (L' := [(2, _)]) (by repeat (first | exact RS.nil | refine RS.cons rfl ?_)) ?_
                  refine WX.next ?_
                  refine WC.ret ?_
                  exact Fin.ret1 (by first | exact .inl rfl | exact .inr rfl) (_) (by (try simp only []); unfold chk; (try simp only [fineP] at *); repeat (split); all_goals omega) Try.results19 (.tmp rfl) (by repeat (first | exact Takes.nil | exact Take.here | apply Takes.cons | apply Take.there)) (by simp)
set_option maxHeartbeats 400000 in
set_option maxRecDepth 10000 in
theorem f22_spec (k g n i c : Nat) (A : Option Addr) (m cap : Nat) (bs : List UInt8) (hm : bs.length = m) (hk : k < 65536) (hg : g < 2147483648) (hn : n < 2147483648) (hi : i < 65536) (hc : c < 65536) (h224 : m ≤ 224) :
    Spec Try.prog 22 [.agg (pcells k g n i c (.slice A m cap)).toArray] [] [rd (.slice A m cap) 1 m (bvs bs)] (R := Option Addr × Nat) (fun _ => True) (fun r => .slice r.1 256 r.2) (fun r => [own (.slice r.1 256 r.2) 5 1 256 (bvs (enc k g n i c bs))]) := by
  refine Spec.intro Try.func22 Try.ntmps22 rfl (by simp) (by simp) fun w0 => ?_
  refine WC.seq ?_
  refine WC.region ?_
  refine wl1 (op_box (by decide) rfl rfl) rfl fun b1 => ?_
  refine wlv (op_assign (by decide) rfl) rfl ?_
  refine WL.nil ?_
  refine WX.regs (L' := [(1, _)]) (by repeat (first | exact RS.nil | refine RS.cons rfl ?_)) ?_
  refine WX.next ?_
  refine WC.seq ?_
  refine WC.drawnH mo 999 ?_
  refine WA.take (i := 0) rfl (by kernel_rfl) (fun _ _ _ h => h) rfl (op_fieldAddr fo24_1 (by decide) rfl) (by repeat (first | exact Takes.nil | exact Take.here | apply Takes.cons | apply Take.there)) ?_
  refine WA.take (i := 1) rfl (by kernel_rfl) (fun _ _ _ h => h) rfl (op_load1 fl3 (by decide) rfl (by repeat (first | exact List.Mem.head _ | apply List.Mem.tail)) rfl) (by repeat (first | exact Takes.nil | exact Take.here | apply Takes.cons | apply Take.there)) ?_
  refine WA.take (i := 3) rfl (by kernel_rfl) (fun _ _ _ h => h) rfl (op_fieldAddr fo24_2 (by decide) rfl) (by repeat (first | exact Takes.nil | exact Take.here | apply Takes.cons | apply Take.there)) ?_
  refine WA.take (i := 4) rfl (by kernel_rfl) (fun _ _ _ h => h) rfl (op_load1 fl3 (by decide) rfl (by repeat (first | exact List.Mem.head _ | apply List.Mem.tail)) rfl) (by repeat (first | exact Takes.nil | exact Take.here | apply Takes.cons | apply Take.there)) ?_
  refine WA.stepx (i := 2) (by kernel_rfl) rfl rfl (op_call (f54_spec g 4 (by omega) (by decide)) ca54 (by decide) rfl (by apply Give.mk; (repeat (first | exact Takes.nil | exact Take.here | apply Takes.cons | apply Take.there)); repeat (first | exact Reads.nil | (apply Reads.rd; (focus (repeat (first | exact List.Mem.head _ | apply List.Mem.tail)); done)) | (apply Reads.own; (focus (repeat (first | exact List.Mem.head _ | apply List.Mem.tail)); done)) | (apply Reads.rx; (focus (repeat (first | exact List.Mem.head _ | apply List.Mem.tail)); done)) | (apply Reads.rows (e := false); (focus (repeat (first | exact List.Mem.head _ | apply List.Mem.tail)); done)) | (apply Reads.rows (e := true); (focus (repeat (first | exact List.Mem.head _ | apply List.Mem.tail)); done))))) (fun _ r => (by repeat (first | exact Takes.nil | exact Take.here | apply Takes.cons | apply Take.there))) ?_
  rintro ⟨D1, e1⟩ _
  refine WA.stepx (i := 5) (by kernel_rfl) rfl rfl (op_call (f54_spec n 4 (by omega) (by decide)) ca54 (by decide) rfl (by apply Give.mk; (repeat (first | exact Takes.nil | exact Take.here | apply Takes.cons | apply Take.there)); repeat (first | exact Reads.nil | (apply Reads.rd; (focus (repeat (first | exact List.Mem.head _ | apply List.Mem.tail)); done)) | (apply Reads.own; (focus (repeat (first | exact List.Mem.head _ | apply List.Mem.tail)); done)) | (apply Reads.rx; (focus (repeat (first | exact List.Mem.head _ | apply List.Mem.tail)); done)) | (apply Reads.rows (e := false); (focus (repeat (first | exact List.Mem.head _ | apply List.Mem.tail)); done)) | (apply Reads.rows (e := true); (focus (repeat (first | exact List.Mem.head _ | apply List.Mem.tail)); done))))) (fun _ r => (by repeat (first | exact Takes.nil | exact Take.here | apply Takes.cons | apply Take.there))) ?_
  rintro ⟨D2, e2⟩ _
  refine WA.step2 (i := 6) (by kernel_rfl) rfl rfl (op_append Try.underlying22 ti5 rfl (by decide) (by decide) rfl rfl (by repeat (first | exact Take.here | apply Take.there)) (by first | (apply Src.rd; (repeat (first | exact List.Mem.head _ | apply List.Mem.tail)); done) | (apply Src.own; (repeat (first | exact List.Mem.head _ | apply List.Mem.tail)); done) | (apply Src.rx; (repeat (first | exact List.Mem.head _ | apply List.Mem.tail)); done)) (by first | rfl | exact wvs_one _ | exact bvs_one _) (by omega) (by omega)) (fun _ A c => (by repeat (first | exact Takes.nil | exact Take.here | apply Takes.cons | apply Take.there))) fun A1 c1 => ?_
  refine WA.take (i := 7) rfl (by kernel_rfl) (fun _ _ _ h => h) rfl (op_assign (by decide) rfl) (by repeat (first | exact Takes.nil | exact Take.here | apply Takes.cons | apply Take.there)) ?_
  refine WA.done (by kernel_rfl) ?_
  refine WX.regs (L' := [(1, _), (3, _)]) (by repeat (first | exact RS.nil | refine RS.cons rfl ?_)) ?_
  refine WX.next ?_
  refine WC.seq ?_
  refine WC.drawn (Hs := [blk b1 (pcells k g n i c (.slice A m cap)) 24]) mo 999 ?_
  refine WA.take (i := 0) rfl (by kernel_rfl) (fun _ _ _ h => h) rfl (op_move (by decide) rfl) (by repeat (first | exact Takes.nil | exact Take.here | apply Takes.cons | apply Take.there)) ?_
  refine WA.take (i := 1) rfl (by kernel_rfl) (fun _ _ _ h => h) rfl (op_fieldAddr fo24_0 (by decide) rfl) (by repeat (first | exact Takes.nil | exact Take.here | apply Takes.cons | apply Take.there)) ?_
  refine WA.take (i := 2) rfl (by kernel_rfl) (fun _ _ _ h => h) rfl (op_load1 fl3 (by decide) rfl (by repeat (first | exact List.Mem.head _ | apply List.Mem.tail)) rfl) (by repeat (first | exact Takes.nil | exact Take.here | apply Takes.cons | apply Take.there)) ?_
  refine WA.take (i := 5) rfl (by kernel_rfl) (fun _ _ _ h => h) rfl (op_fieldAddr fo24_3 (by decide) rfl) (by repeat (first | exact Takes.nil | exact Take.here | apply Takes.cons | apply Take.there)) ?_
  refine WA.take (i := 6) rfl (by kernel_rfl) (fun _ _ _ h => h) rfl (op_load1 fl3 (by decide) rfl (by repeat (first | exact List.Mem.head _ | apply List.Mem.tail)) rfl) (by repeat (first | exact Takes.nil | exact Take.here | apply Takes.cons | apply Take.there)) ?_
  refine WA.stepx (i := 3) (by kernel_rfl) rfl rfl (op_call (f54_spec k 2 (by omega) (by decide)) ca54 (by decide) rfl (by apply Give.mk; (repeat (first | exact Takes.nil | exact Take.here | apply Takes.cons | apply Take.there)); repeat (first | exact Reads.nil | (apply Reads.rd; (focus (repeat (first | exact List.Mem.head _ | apply List.Mem.tail)); done)) | (apply Reads.own; (focus (repeat (first | exact List.Mem.head _ | apply List.Mem.tail)); done)) | (apply Reads.rx; (focus (repeat (first | exact List.Mem.head _ | apply List.Mem.tail)); done)) | (apply Reads.rows (e := false); (focus (repeat (first | exact List.Mem.head _ | apply List.Mem.tail)); done)) | (apply Reads.rows (e := true); (focus (repeat (first | exact List.Mem.head _ | apply List.Mem.tail)); done))))) (fun _ r => (by repeat (first | exact Takes.nil | exact Take.here | apply Takes.cons | apply Take.there))) ?_
  rintro ⟨D3, e3⟩ _
  refine WA.step2 (i := 4) (by kernel_rfl) rfl rfl (op_append Try.underlying22 ti5 rfl (by decide) (by decide) rfl rfl (by repeat (first | exact Take.here | apply Take.there)) (by first | (apply Src.rd; (repeat (first | exact List.Mem.head _ | apply List.Mem.tail)); done) | (apply Src.own; (repeat (first | exact List.Mem.head _ | apply List.Mem.tail)); done) | (apply Src.rx; (repeat (first | exact List.Mem.head _ | apply List.Mem.tail)); done)) (by first | rfl | exact wvs_one _ | exact bvs_one _) (by omega) (by omega)) (fun _ A c => (by repeat (first | exact Takes.nil | exact Take.here | apply Takes.cons | apply Take.there))) fun A2 c2 => ?_
  refine WA.stepx (i := 7) (by kernel_rfl) rfl rfl (op_call (f54_spec i 2 (by omega) (by decide)) ca54 (by decide) rfl (by apply Give.mk; (repeat (first | exact Takes.nil | exact Take.here | apply Takes.cons | apply Take.there)); repeat (first | exact Reads.nil | (apply Reads.rd; (focus (repeat (first | exact List.Mem.head _ | apply List.Mem.tail)); done)) | (apply Reads.own; (focus (repeat (first | exact List.Mem.head _ | apply List.Mem.tail)); done)) | (apply Reads.rx; (focus (repeat (first | exact List.Mem.head _ | apply List.Mem.tail)); done)) | (apply Reads.rows (e := false); (focus (repeat (first | exact List.Mem.head _ | apply List.Mem.tail)); done)) | (apply Reads.rows (e := true); (focus (repeat (first | exact List.Mem.head _ | apply List.Mem.tail)); done))))) (fun _ r => (by repeat (first | exact Takes.nil | exact Take.here | apply Takes.cons | apply Take.there))) ?_
  rintro ⟨D4, e4⟩ _
  refine WA.step2 (i := 8) (by kernel_rfl) rfl rfl (op_append Try.underlying22 ti5 rfl (by decide) (by decide) rfl rfl (by repeat (first | exact Take.here | apply Take.there)) (by first | (apply Src.rd; (repeat (first | exact List.Mem.head _ | apply List.Mem.tail)); done) | (apply Src.own; (repeat (first | exact List.Mem.head _ | apply List.Mem.tail)); done) | (apply Src.rx; (repeat (first | exact List.Mem.head _ | apply List.Mem.tail)); done)) (by first | rfl | exact wvs_one _ | exact bvs_one _) (by omega) (by omega)) (fun _ A c => (by repeat (first | exact Takes.nil | exact Take.here | apply Takes.cons | apply Take.there))) fun A3 c3 => ?_
  refine WA.take (i := 9) rfl (by kernel_rfl) (fun _ _ _ h => h) rfl (op_assign (by decide) rfl) (by repeat (first | exact Takes.nil | exact Take.here | apply Takes.cons | apply Take.there)) ?_
  refine WA.done (by kernel_rfl) ?_
  refine WX.regs (L' := [(1, _), (3, _)]) (by repeat (first | exact RS.nil | refine RS.cons rfl ?_)) ?_
  refine WX.next ?_
  refine WC.seq ?_
  refine WC.drawn (Hs := [blk b1 (pcells k g n i c (.slice A m cap)) 24]) mo 999 ?_
  refine WA.take (i := 0) rfl (by kernel_rfl) (fun _ _ _ h => h) rfl (op_move (by decide) rfl) (by repeat (first | exact Takes.nil | exact Take.here | apply Takes.cons | apply Take.there)) ?_
  refine WA.take (i := 1) rfl (by kernel_rfl) (fun _ _ _ h => h) rfl (op_fieldAddr fo24_4 (by decide) rfl) (by repeat (first | exact Takes.nil | exact Take.here | apply Takes.cons | apply Take.there)) ?_
  refine WA.take (i := 2) rfl (by kernel_rfl) (fun _ _ _ h => h) rfl (op_load1 fl3 (by decide) rfl (by repeat (first | exact List.Mem.head _ | apply List.Mem.tail)) rfl) (by repeat (first | exact Takes.nil | exact Take.here | apply Takes.cons | apply Take.there)) ?_
  refine WA.take (i := 5) rfl (by kernel_rfl) (fun _ _ _ h => h) rfl (op_fieldAddr fo24_5 (by decide) rfl) (by repeat (first | exact Takes.nil | exact Take.here | apply Takes.cons | apply Take.there)) ?_
  refine WA.take (i := 6) rfl (by kernel_rfl) (fun _ _ _ h => h) rfl (op_load1 fl22 (by decide) rfl (by repeat (first | exact List.Mem.head _ | apply List.Mem.tail)) rfl) (by repeat (first | exact Takes.nil | exact Take.here | apply Takes.cons | apply Take.there)) ?_
  refine WA.take (i := 7) rfl (by kernel_rfl) (fun _ _ _ h => h) rfl (op_len Try.underlying22 (by decide) rfl) (by repeat (first | exact Takes.nil | exact Take.here | apply Takes.cons | apply Take.there)) ?_
  refine WA.stepx (i := 3) (by kernel_rfl) rfl rfl (op_call (f54_spec c 2 (by omega) (by decide)) ca54 (by decide) rfl (by apply Give.mk; (repeat (first | exact Takes.nil | exact Take.here | apply Takes.cons | apply Take.there)); repeat (first | exact Reads.nil | (apply Reads.rd; (focus (repeat (first | exact List.Mem.head _ | apply List.Mem.tail)); done)) | (apply Reads.own; (focus (repeat (first | exact List.Mem.head _ | apply List.Mem.tail)); done)) | (apply Reads.rx; (focus (repeat (first | exact List.Mem.head _ | apply List.Mem.tail)); done)) | (apply Reads.rows (e := false); (focus (repeat (first | exact List.Mem.head _ | apply List.Mem.tail)); done)) | (apply Reads.rows (e := true); (focus (repeat (first | exact List.Mem.head _ | apply List.Mem.tail)); done))))) (fun _ r => (by repeat (first | exact Takes.nil | exact Take.here | apply Takes.cons | apply Take.there))) ?_
  rintro ⟨D5, e5⟩ _
  refine WA.step2 (i := 4) (by kernel_rfl) rfl rfl (op_append Try.underlying22 ti5 rfl (by decide) (by decide) rfl rfl (by repeat (first | exact Take.here | apply Take.there)) (by first | (apply Src.rd; (repeat (first | exact List.Mem.head _ | apply List.Mem.tail)); done) | (apply Src.own; (repeat (first | exact List.Mem.head _ | apply List.Mem.tail)); done) | (apply Src.rx; (repeat (first | exact List.Mem.head _ | apply List.Mem.tail)); done)) (by first | rfl | exact wvs_one _ | exact bvs_one _) (by omega) (by omega)) (fun _ A c => (by repeat (first | exact Takes.nil | exact Take.here | apply Takes.cons | apply Take.there))) fun A4 c4 => ?_
  refine WA.stepx (i := 8) (by kernel_rfl) rfl rfl (op_call (f54_spec m 2 (by omega) (by decide)) ca54 (by decide) rfl (by apply Give.mk; (repeat (first | exact Takes.nil | exact Take.here | apply Takes.cons | apply Take.there)); repeat (first | exact Reads.nil | (apply Reads.rd; (focus (repeat (first | exact List.Mem.head _ | apply List.Mem.tail)); done)) | (apply Reads.own; (focus (repeat (first | exact List.Mem.head _ | apply List.Mem.tail)); done)) | (apply Reads.rx; (focus (repeat (first | exact List.Mem.head _ | apply List.Mem.tail)); done)) | (apply Reads.rows (e := false); (focus (repeat (first | exact List.Mem.head _ | apply List.Mem.tail)); done)) | (apply Reads.rows (e := true); (focus (repeat (first | exact List.Mem.head _ | apply List.Mem.tail)); done))))) (fun _ r => (by repeat (first | exact Takes.nil | exact Take.here | apply Takes.cons | apply Take.there))) ?_
  rintro ⟨D6, e6⟩ _
  refine WA.step2 (i := 9) (by kernel_rfl) rfl rfl (op_append Try.underlying22 ti5 rfl (by decide) (by decide) rfl rfl (by repeat (first | exact Take.here | apply Take.there)) (by first | (apply Src.rd; (repeat (first | exact List.Mem.head _ | apply List.Mem.tail)); done) | (apply Src.own; (repeat (first | exact List.Mem.head _ | apply List.Mem.tail)); done) | (apply Src.rx; (repeat (first | exact List.Mem.head _ | apply List.Mem.tail)); done)) (by first | rfl | exact wvs_one _ | exact bvs_one _) (by omega) (by omega)) (fun _ A c => (by repeat (first | exact Takes.nil | exact Take.here | apply Takes.cons | apply Take.there))) fun A5 c5 => ?_
  refine WA.take (i := 10) rfl (by kernel_rfl) (fun _ _ _ h => h) rfl (op_assign (by decide) rfl) (by repeat (first | exact Takes.nil | exact Take.here | apply Takes.cons | apply Take.there)) ?_
  refine WA.done (by kernel_rfl) ?_
  refine WX.regs (L' := [(1, _), (3, _)]) (by repeat (first | exact RS.nil | refine RS.cons rfl ?_)) ?_
  refine WX.next ?_
  refine WC.seq ?_
  refine WC.region ?_
  refine wlv (op_move (by decide) rfl) rfl ?_
  refine wlv (op_fieldAddr fo24_5 (by decide) rfl) rfl ?_
  refine wlv (op_load1 fl22 (by decide) rfl (by repeat (first | exact List.Mem.head _ | apply List.Mem.tail)) rfl) rfl ?_
  refine wl2 (op_append Try.underlying22 ti5 rfl (by decide) (by decide) rfl rfl (by repeat (first | exact Take.here | apply Take.there)) (by first | (apply Src.rd; (repeat (first | exact List.Mem.head _ | apply List.Mem.tail)); done) | (apply Src.own; (repeat (first | exact List.Mem.head _ | apply List.Mem.tail)); done) | (apply Src.rx; (repeat (first | exact List.Mem.head _ | apply List.Mem.tail)); done)) (by first | rfl | exact wvs_one _ | exact bvs_one _) (by omega) (by omega)) rfl fun A6 c6 => ?_
  rw [show bvs (be g 4) ++ bvs (be n 4) ++ bvs (be k 2) ++ bvs (be i 2) ++ bvs (be c 2) ++ bvs (be m 2) ++ bvs bs = bvs (be g 4 ++ be n 4 ++ be k 2 ++ be i 2 ++ be c 2 ++ be m 2 ++ bs) by simp only [bvs_append]]
  refine wlx (op_call (f55_spec _ (4 + 4 + 2 + 2 + 2 + 2 + m) _ (be g 4 ++ be n 4 ++ be k 2 ++ be i 2 ++ be c 2 ++ be m 2 ++ bs) (by simp; omega) (by omega)) ca55 (by decide) rfl (by apply Give.mk; (repeat (first | exact Takes.nil | exact Take.here | apply Takes.cons | apply Take.there)); repeat (first | exact Reads.nil | (apply Reads.rd; (focus (repeat (first | exact List.Mem.head _ | apply List.Mem.tail)); done)) | (apply Reads.own; (focus (repeat (first | exact List.Mem.head _ | apply List.Mem.tail)); done)) | (apply Reads.rx; (focus (repeat (first | exact List.Mem.head _ | apply List.Mem.tail)); done)) | (apply Reads.rows (e := false); (focus (repeat (first | exact List.Mem.head _ | apply List.Mem.tail)); done)) | (apply Reads.rows (e := true); (focus (repeat (first | exact List.Mem.head _ | apply List.Mem.tail)); done))))) rfl ?_
  rintro ⟨D7, e7⟩ _
  rw [show sealB (be g 4 ++ be n 4 ++ be k 2 ++ be i 2 ++ be c 2 ++ be m 2 ++ bs) = enc k g n i c bs by unfold enc hdr; rw [hm]; simp only [List.append_assoc]]
  refine wlv (op_assign (by decide) rfl) rfl ?_
  refine WL.nil ?_
  refine WX.regs (L' := [(2, _)]) (by repeat (first | exact RS.nil | refine RS.cons rfl ?_)) ?_
  refine WX.next ?_
  refine WC.ret ?_
  exact Fin.ret1 (by first | exact .inl rfl | exact .inr rfl) ((D7, e7)) (trivial) Try.results22 (.tmp rfl) (by repeat (first | exact Takes.nil | exact Take.here | apply Takes.cons | apply Take.there)) (by simp)
set_option maxHeartbeats 400000 in
set_option maxRecDepth 10000 in
theorem f46_spec (b : Nat) :
    Spec Try.prog 46 [.pointer (some ⟨b, 0, none⟩)] [] [] (R := Unit) (fun _ => True) (fun _ => .agg (fcells b).toArray) (fun _ => []) := by
  refine Spec.intro Try.func46 Try.ntmps46 rfl (by simp) (by simp) fun w0 => ?_
  refine WC.seq ?_
  refine WC.region ?_
  refine wl1 (op_alloc ti96 (by decide)) rfl fun b1 => ?_
  refine WL.nil ?_
  refine WX.regs (L' := [(0, _), (2, _)]) (by repeat (first | exact RS.nil | refine RS.cons rfl ?_)) ?_
  refine WX.next ?_
  refine WC.seq ?_
  refine WC.drawnH mo 30 ?_
  refine WA.take (i := 0) rfl (by kernel_rfl) (fun _ _ _ h => h) rfl (op_move (by decide) rfl) (by repeat (first | exact Takes.nil | exact Take.here | apply Takes.cons | apply Take.there)) ?_
  refine WA.take (i := 1) rfl (by kernel_rfl) (fun _ _ _ h => h) rfl (op_nilCheck (by decide) rfl) (by repeat (first | exact Takes.nil | exact Take.here | apply Takes.cons | apply Take.there)) ?_
  refine WA.take (i := 2) rfl (by kernel_rfl) (fun _ _ _ h => h) rfl (op_fieldAddr fo93_0 (by decide) rfl) (by repeat (first | exact Takes.nil | exact Take.here | apply Takes.cons | apply Take.there)) ?_
  refine WA.take (i := 3) rfl (by kernel_rfl) (fun _ _ _ h => h) rfl (op_fieldAddr fo25_1 (by decide) rfl) (by repeat (first | exact Takes.nil | exact Take.here | apply Takes.cons | apply Take.there)) ?_
  refine WA.take (i := 4) rfl (by kernel_rfl) (fun _ _ _ h => h) rfl (op_build (cs := [.pointer (some ⟨b, 1, none⟩), .int .i64 4]) (pv := [(0, _), (1, _)]) (by decide) rfl (by kernel_rfl)) (by repeat (first | exact Takes.nil | exact Take.here | apply Takes.cons | apply Take.there)) ?_
  refine WA.take (i := 5) rfl (by kernel_rfl) (fun _ _ _ h => h) rfl (op_move (by decide) rfl) (by repeat (first | exact Takes.nil | exact Take.here | apply Takes.cons | apply Take.there)) ?_
  refine WA.take (i := 6) rfl (by kernel_rfl) (fun _ _ _ h => h) rfl (op_nilCheck (by decide) rfl) (by repeat (first | exact Takes.nil | exact Take.here | apply Takes.cons | apply Take.there)) ?_
  refine WA.take (i := 7) rfl (by kernel_rfl) (fun _ _ _ h => h) rfl (op_fieldAddr fo93_0 (by decide) rfl) (by repeat (first | exact Takes.nil | exact Take.here | apply Takes.cons | apply Take.there)) ?_
  refine WA.take (i := 8) rfl (by kernel_rfl) (fun _ _ _ h => h) rfl (op_fieldAddr fo25_2 (by decide) rfl) (by repeat (first | exact Takes.nil | exact Take.here | apply Takes.cons | apply Take.there)) ?_
  refine WA.take (i := 9) rfl (by kernel_rfl) (fun _ _ _ h => h) rfl (op_build (cs := [.pointer (some ⟨b, 2, none⟩), .int .i64 4]) (pv := [(0, _), (1, _)]) (by decide) rfl (by kernel_rfl)) (by repeat (first | exact Takes.nil | exact Take.here | apply Takes.cons | apply Take.there)) ?_
  refine WA.take (i := 10) rfl (by kernel_rfl) (fun _ _ _ h => h) rfl (op_move (by decide) rfl) (by repeat (first | exact Takes.nil | exact Take.here | apply Takes.cons | apply Take.there)) ?_
  refine WA.take (i := 11) rfl (by kernel_rfl) (fun _ _ _ h => h) rfl (op_nilCheck (by decide) rfl) (by repeat (first | exact Takes.nil | exact Take.here | apply Takes.cons | apply Take.there)) ?_
  refine WA.take (i := 12) rfl (by kernel_rfl) (fun _ _ _ h => h) rfl (op_fieldAddr fo93_0 (by decide) rfl) (by repeat (first | exact Takes.nil | exact Take.here | apply Takes.cons | apply Take.there)) ?_
  refine WA.take (i := 13) rfl (by kernel_rfl) (fun _ _ _ h => h) rfl (op_fieldAddr fo25_0 (by decide) rfl) (by repeat (first | exact Takes.nil | exact Take.here | apply Takes.cons | apply Take.there)) ?_
  refine WA.take (i := 14) rfl (by kernel_rfl) (fun _ _ _ h => h) rfl (op_build (cs := [.pointer (some ⟨b, 0, none⟩), .int .i64 2]) (pv := [(0, _), (1, _)]) (by decide) rfl (by kernel_rfl)) (by repeat (first | exact Takes.nil | exact Take.here | apply Takes.cons | apply Take.there)) ?_
  refine WA.take (i := 15) rfl (by kernel_rfl) (fun _ _ _ h => h) rfl (op_move (by decide) rfl) (by repeat (first | exact Takes.nil | exact Take.here | apply Takes.cons | apply Take.there)) ?_
  refine WA.take (i := 16) rfl (by kernel_rfl) (fun _ _ _ h => h) rfl (op_nilCheck (by decide) rfl) (by repeat (first | exact Takes.nil | exact Take.here | apply Takes.cons | apply Take.there)) ?_
  refine WA.take (i := 17) rfl (by kernel_rfl) (fun _ _ _ h => h) rfl (op_fieldAddr fo93_0 (by decide) rfl) (by repeat (first | exact Takes.nil | exact Take.here | apply Takes.cons | apply Take.there)) ?_
  refine WA.take (i := 18) rfl (by kernel_rfl) (fun _ _ _ h => h) rfl (op_fieldAddr fo25_3 (by decide) rfl) (by repeat (first | exact Takes.nil | exact Take.here | apply Takes.cons | apply Take.there)) ?_
  refine WA.take (i := 19) rfl (by kernel_rfl) (fun _ _ _ h => h) rfl (op_build (cs := [.pointer (some ⟨b, 3, none⟩), .int .i64 2]) (pv := [(0, _), (1, _)]) (by decide) rfl (by kernel_rfl)) (by repeat (first | exact Takes.nil | exact Take.here | apply Takes.cons | apply Take.there)) ?_
  refine WA.take (i := 20) rfl (by kernel_rfl) (fun _ _ _ h => h) rfl (op_move (by decide) rfl) (by repeat (first | exact Takes.nil | exact Take.here | apply Takes.cons | apply Take.there)) ?_
  refine WA.take (i := 21) rfl (by kernel_rfl) (fun _ _ _ h => h) rfl (op_nilCheck (by decide) rfl) (by repeat (first | exact Takes.nil | exact Take.here | apply Takes.cons | apply Take.there)) ?_
  refine WA.take (i := 22) rfl (by kernel_rfl) (fun _ _ _ h => h) rfl (op_fieldAddr fo93_0 (by decide) rfl) (by repeat (first | exact Takes.nil | exact Take.here | apply Takes.cons | apply Take.there)) ?_
  refine WA.take (i := 23) rfl (by kernel_rfl) (fun _ _ _ h => h) rfl (op_fieldAddr fo25_4 (by decide) rfl) (by repeat (first | exact Takes.nil | exact Take.here | apply Takes.cons | apply Take.there)) ?_
  refine WA.take (i := 24) rfl (by kernel_rfl) (fun _ _ _ h => h) rfl (op_build (cs := [.pointer (some ⟨b, 4, none⟩), .int .i64 2]) (pv := [(0, _), (1, _)]) (by decide) rfl (by kernel_rfl)) (by repeat (first | exact Takes.nil | exact Take.here | apply Takes.cons | apply Take.there)) ?_
  refine WA.take (i := 25) rfl (by kernel_rfl) (fun _ _ _ h => h) rfl (op_move (by decide) rfl) (by repeat (first | exact Takes.nil | exact Take.here | apply Takes.cons | apply Take.there)) ?_
  refine WA.take (i := 26) rfl (by kernel_rfl) (fun _ _ _ h => h) rfl (op_nilCheck (by decide) rfl) (by repeat (first | exact Takes.nil | exact Take.here | apply Takes.cons | apply Take.there)) ?_
  refine WA.take (i := 27) rfl (by kernel_rfl) (fun _ _ _ h => h) rfl (op_fieldAddr fo93_1 (by decide) rfl) (by repeat (first | exact Takes.nil | exact Take.here | apply Takes.cons | apply Take.there)) ?_
  refine WA.take (i := 28) rfl (by kernel_rfl) (fun _ _ _ h => h) rfl (op_build (cs := [.pointer (some ⟨b, 6, none⟩), .int .i64 2]) (pv := [(0, _), (1, _)]) (by decide) rfl (by kernel_rfl)) (by repeat (first | exact Takes.nil | exact Take.here | apply Takes.cons | apply Take.there)) ?_
  refine WA.take (i := 29) rfl (by kernel_rfl) (fun _ _ _ h => h) rfl (op_build (cs := (fcells b)) (pv := [(0, _), (1, _), (2, _), (3, _), (4, _), (5, _)]) (by decide) rfl (by kernel_rfl)) (by repeat (first | exact Takes.nil | exact Take.here | apply Takes.cons | apply Take.there)) ?_
  refine WA.stepo (G := []) (i := 30) (by kernel_rfl) rfl rfl (op_storeAll sz96 rfl rfl (by repeat (first | exact Take.here | apply Take.there)) (by first | rfl | (simp [Value.cells]; done) | (simp [Value.cells]; omega)) (by first | rfl | exact wvs_one _ | exact bvs_one _) (by first | rfl | (simp [Value.cells]; done) | (simp [Value.cells]; omega))) (fun h => absurd rfl h) ?_
  refine WA.done (by kernel_rfl) ?_
  refine WX.regs (L' := [(2, _)]) (by repeat (first | exact RS.nil | refine RS.cons rfl ?_)) ?_
  refine WX.next ?_
  refine WC.ret ?_
  exact Fin.ret1 (by first | exact .inl rfl | exact .inr rfl) (()) (trivial) Try.results46 (.cellN rfl ag96 (by repeat (first | exact List.Mem.head _ | apply List.Mem.tail)) (by first | rfl | (simp [Value.cells]; done) | (simp [Value.cells]; omega))) (by repeat (first | exact Takes.nil | exact Take.here | apply Takes.cons | apply Take.there)) (by simp)
end Go.Proofs.Ythephcghglldaaa.Sx
