-- Written by this session's own program (wip/tools/myprint.py), which runs the kit's print with turns of its own: not a text of the kit's print.sh.
import Derived.Test.YtcofjbbflcnaaaaPx0
import Derived.Lib.SliceRun
import Derived.Laws.CopyOwn
import Derived.Deep.RegionLaw
import Derived.Test.YtcofjbbflcnaaaaPar
import Derived.Test.YtcofjbbflcnaaaaWvA
namespace Go.Proofs.Ytcofjbbflcnaaaa.P
open Go.RowKit Go.Proofs.YtcofjbbflcnaaaaW.PrintWords Go.Proofs.YtcofjbbflcnaaaaW.PrintLast Go.Proofs.YtcofjbbflcnaaaaW.PrintMore
attribute [local go_sem] max2_int min2_int max_two min_two max_three min_three max_four min_four   -- for this text's walks alone
set_option linter.unusedVariables false
set_option linter.unusedSimpArgs false

/-! ### cadence_woven: function 62 (by hand) -/
-- IMPORT Derived.Lib.SliceRun
-- IMPORT Derived.Laws.CopyOwn
-- IMPORT Derived.Deep.RegionLaw
-- IMPORT Derived.Test.YtcofjbbflcnaaaaPar
-- IMPORT Derived.Test.YtcofjbbflcnaaaaWvA
/-- rows of parity p below place at come from fr, the others stay -/
def wvMix (wd p at_ : Nat) (cur fr : List Int) : List Int := (List.range cur.length).map fun i => if i < at_ ∧ i / wd % 2 = p then fr.getD i 0 else cur.getD i 0
theorem wvMix_len (wd p at_ : Nat) (cur fr : List Int) : (wvMix wd p at_ cur fr).length = cur.length := by simp [wvMix]
theorem wvMix_get (wd p at_ : Nat) (cur fr : List Int) (i : Nat) (hi : i < cur.length) : (wvMix wd p at_ cur fr)[i]? = some (if i < at_ ∧ i / wd % 2 = p then fr.getD i 0 else cur.getD i 0) := by
  simp [wvMix, hi]
theorem wvMix_zero (wd p at_ : Nat) (cur fr : List Int) (h : at_ = wd * p) (hp : p < 2) (hw : 0 < wd) : wvMix wd p at_ cur fr = cur := by
  subst h
  apply List.ext_getElem?
  intro i
  by_cases hi : i < cur.length
  · rw [wvMix_get _ _ _ _ _ _ hi]
    have hn : ¬ (i < wd * p ∧ i / wd % 2 = p) := by
      rintro ⟨h1, h2⟩
      have h3 : i / wd < p := Nat.div_lt_of_lt_mul h1
      generalize i / wd = z at h2 h3
      omega
    rw [if_neg hn]
    simp [List.getD, hi]
  · rw [List.getElem?_eq_none (by rw [wvMix_len]; omega), List.getElem?_eq_none (by omega)]
theorem wv_step (wd p q h : Nat) (cur fr : List Int) (hw : 0 < wd) (hl : cur.length = fr.length) (hN : fr.length = wd * h) (hq : q % 2 = p) (hlt : q < h) :
    splice (wvCells (wvMix wd p (wd * q) cur fr)) (wd * q) (wvCells ((fr.drop (wd * q)).take wd)) = wvCells (wvMix wd p (wd * (q + 2)) cur fr) := by
  have h1 : wd * q + wd ≤ fr.length := by rw [hN, ← Nat.mul_succ]; exact Nat.mul_le_mul_left _ hlt
  have hlen : ((fr.drop (wd * q)).take wd).length = wd := by rw [List.length_take, List.length_drop]; omega
  unfold splice wvCells
  rw [← List.map_take, List.length_map, hlen, ← List.map_drop, ← List.map_append, ← List.map_append]
  congr 1
  apply List.ext_getElem?
  intro i
  have hm : wd * (q + 2) = wd * q + wd + wd := by rw [Nat.mul_add]; omega
  by_cases c1 : i < wd * q
  · rw [List.getElem?_append_left (by rw [List.length_take, wvMix_len]; omega), List.getElem?_take_of_lt c1, wvMix_get _ _ _ _ _ _ (by omega), wvMix_get _ _ _ _ _ _ (by omega)]
    simp [c1, show i < wd * (q + 2) by omega]
  · rw [List.getElem?_append_right (by rw [List.length_take, wvMix_len]; omega), List.length_take, wvMix_len, Nat.min_eq_left (by omega)]
    by_cases c2 : i < wd * q + wd
    · rw [List.getElem?_append_left (by rw [hlen]; omega), List.getElem?_take_of_lt (by omega), List.getElem?_drop, wvMix_get _ _ _ _ _ _ (by omega)]
      have hd : i / wd = q := Nat.div_eq_of_lt_le (by rw [Nat.mul_comm]; omega) (by rw [Nat.mul_comm, Nat.mul_succ]; omega)
      rw [if_pos ⟨by omega, by rw [hd]; exact hq⟩, show wd * q + (i - wd * q) = i by omega]
      have : i < fr.length := by omega
      simp [List.getD, this]
    · rw [List.getElem?_append_right (by rw [hlen]; omega), hlen, List.getElem?_drop, show wd * q + wd + (i - wd * q - wd) = i by omega]
      by_cases c3 : i < cur.length
      · rw [wvMix_get _ _ _ _ _ _ c3, wvMix_get _ _ _ _ _ _ c3, if_neg (by omega)]
        by_cases c4 : i < wd * (q + 2)
        · have hd : i / wd = q + 1 := Nat.div_eq_of_lt_le (by rw [Nat.mul_comm, Nat.mul_succ]; omega) (by rw [Nat.mul_comm, show q + 1 + 1 = q + 2 from rfl]; omega)
          rw [if_neg (by rw [hd]; omega)]
        · rw [if_neg (by omega)]
      · rw [List.getElem?_eq_none (by rw [wvMix_len]; omega), List.getElem?_eq_none (by rw [wvMix_len]; omega)]

/-- copy over a row that is known whole, as one step of a region; nothing but the row turns -/
theorem step_copy_set {P : Program} {ops : Array Oper} {o : Oper} {a : Act} {w : World} {K : Act → World → Prop} {Q : Exit → Act → World → Prop} {E : Prop} (hgd : o.guard = none) (d s : Operand) (dT sT : TypeId)
    (ho : o.op = .call { callee := .builtin .copy, args := #[d, s], argTypes := #[dT, sT] }) (elem : TypeId) (hu : P.underlying dT = some (.slice elem)) (hsz : (P.info? elem).map (·.size) = some 1)
    (g off : Nat) (ad : Addr) (dLen dCap sLen sCap : Nat) (hd : a.eval d = .slice (some ⟨g, off, none⟩) dLen dCap) (hs : a.eval s = .slice (some ad) sLen sCap)
    (cur : List Value) (t : TypeId) (hg : w.heap[g]? = some (.cells cur.toArray t (0, 0))) (cs : List Value) (hn : cs.length = Nat.min sLen dLen)
    (hsrc : ∀ j v, cs[j]? = some v → w.cell? (ad.add j) = some v)
    (hfit : off + cs.length ≤ cur.length) (h1 : ∀ v ∈ cs, v.oneCell' = true)
    (h : K (a.put o.dst (goInt cs.length)) (w.setRow g (splice cur off cs).toArray)) :
    if Region.wanted o (yielded ops a.tmps) = true then Oper.wp P o a w K Q else E := by
  have hw : Region.wanted o (yielded ops a.tmps) = true := by simp [Region.wanted, hgd]
  rw [if_pos hw]
  have hrun := run_copy_row (P := P) w dT sT o.type elem g off dLen dCap ad sLen sCap cur.toArray t cs hu hsz hg hn hsrc (by simpa using hfit) h1
  unfold Oper.wp
  simp [execOp, ho, resolve, invoke, builtin, hd, hs, hrun, Result.andThen]
  exact (by simpa [splice] using h : K (a.put o.dst (goInt cs.length)) (w.setRow g (cur.take off ++ (cs ++ cur.drop (off + cs.length))).toArray))
theorem wv_size5 (W : World) : (sizeOf 5).run Try.prog W = .ok 1 W := by
  obtain ⟨i, hi, _⟩ := Option.map_eq_some_iff.1 info5
  rw [run_sizeOf W hi, show Try.prog.cellsOf 5 = 1 by kernel_rfl]
theorem wv_cut (W : World) (ad : Addr) (n cap a d : Nat) (h : a + d ≤ cap) (hd : 0 < d) :
    (Instr.slice 50 (.slice (some ad) n cap) (some (.int .i64 (a : Int))) (some (.int .i64 ((a : Int) + (d : Int)))) none).run Try.prog W = .ok (.slice (some (ad.add a)) d (cap - a)) W := by
  rw [run_slice_lh W 50 (some ad) n cap (by kernel_rfl) .i64 .i64 (a : Int) ((a : Int) + (d : Int)) (by omega) (by omega) (by omega)]
  rw [show Try.prog.elem 50 = 5 by kernel_rfl, wv_size5]
  simp only [Result.andThen, sliced, Int.toNat_natCast, Nat.mul_one]
  rw [show ((a : Int) + (d : Int)).toNat = a + d by omega, show a + d - a = d by omega]
  simp only [if_neg (show ¬ cap = a by omega), Option.map_some]
theorem wv_src {w : World} {ad : Addr} {fr : List Int} (h : ∀ j, j < fr.length → w.cell? (ad.add j) = some (.int .u8 (fr.getD j 0))) (a d : Nat) (hd : a + d ≤ fr.length) (j : Nat) (v : Value) (hj : (wvCells ((fr.drop a).take d))[j]? = some v) : w.cell? ((ad.add a).add j) = some v := by
  unfold wvCells at hj
  rw [List.getElem?_map] at hj
  by_cases c : j < d
  · rw [List.getElem?_take_of_lt c, List.getElem?_drop] at hj
    rw [add_add, h (a + j) (by omega)]
    rw [List.getElem?_eq_getElem (by omega)] at hj
    simp only [Option.map_some] at hj
    rw [← hj, List.getD_eq_getElem?_getD, List.getElem?_eq_getElem (by omega)]
    rfl
  · rw [List.getElem?_eq_none (by rw [List.length_take]; omega)] at hj
    cases hj
/-- block g holds l; the other blocks are w's -/
def WvI (w0 w wr : World) (g : Nat) (l : List Int) : Prop := wr.heap[g]? = some (.cells (wvCells l).toArray 5 (0, 0)) ∧ (∀ k, k ≠ g → wr.heap[k]? = w.heap[k]?) ∧ wr.heap.size = w.heap.size ∧ Below w0.heap.size w0 wr
theorem WvI.drewN {w0 w wr : World} {g : Nat} {l : List Int} (h : WvI w0 w wr g l) (n : Nat) : WvI w0 w (wr.drewN n) g l := ⟨h.1, h.2.1, h.2.2.1, pw_below_drewN h.2.2.2 n⟩
theorem WvI.drew {w0 w wr : World} {g : Nat} {l : List Int} (h : WvI w0 w wr g l) : WvI w0 w wr.drew g l := ⟨h.1, h.2.1, h.2.2.1, below_drew1 h.2.2.2⟩
theorem WvI.src {w0 w wr : World} {g : Nat} {l : List Int} (h : WvI w0 w wr g l) {a : Addr} {v : Value} (ha : a.block ≠ g) (hc : w.cell? a = some v) : wr.cell? a = some v := by
  rw [← hc]
  unfold World.cell?
  rw [h.2.1 _ ha]
/-- the copy of the loop's round, as one step of its region -/
theorem step_wv {P : Program} {ops : Array Oper} {o : Oper} {a : Act} {W w0 w : World} {K : Act → World → Prop} {Q : Exit → Act → World → Prop} {E : Prop} (hgd : o.guard = none) (d s : Operand) (dT sT : TypeId)
    (ho : o.op = .call { callee := .builtin .copy, args := #[d, s], argTypes := #[dT, sT] }) (elem : TypeId) (hu : P.underlying dT = some (.slice elem)) (hsz : (P.info? elem).map (·.size) = some 1)
    (g : Nat) (ad : Addr) (c1 c2 wd p q h N : Nat) (cur fr : List Int) (hgb : w0.heap.size ≤ g) (hI : WvI w0 w W g (wvMix wd p (wd * q) cur fr))
    (hd : a.eval d = .slice (some ⟨g, wd * q, none⟩) wd c1) (hs : a.eval s = .slice (some (ad.add (wd * q))) wd c2)
    (hsrc : ∀ j, j < fr.length → w.cell? (ad.add j) = some (.int .u8 (fr.getD j 0))) (hne : ad.block ≠ g) (hN1 : cur.length = N) (hN2 : fr.length = N) (hNh : N = wd * h) (hw : 0 < wd) (hq : q % 2 = p) (hlt : q < h)
    (hK : ∀ w4 n, WvI w0 w w4 g (wvMix wd p (wd * (q + 2)) cur fr) → K (a.put o.dst (goInt n)) w4) :
    if Region.wanted o (yielded ops a.tmps) = true then Oper.wp P o a W K Q else E := by
  have h1 : wd * q + wd ≤ N := by rw [hNh, ← Nat.mul_succ]; exact Nat.mul_le_mul_left _ hlt
  have hlen : (wvCells ((fr.drop (wd * q)).take wd)).length = wd := by rw [wvCells_len, List.length_take, List.length_drop]; omega
  have hst := wv_step wd p q h cur fr hw (by omega) (by omega) hq hlt
  refine step_copy_set hgd d s dT sT ho elem hu hsz g (wd * q) (ad.add (wd * q)) wd c1 wd c2 hd hs _ 5 hI.1 (wvCells ((fr.drop (wd * q)).take wd)) (by rw [hlen]; exact (Nat.min_self _).symm) ?_ ?_ ?_ ?_
  · refine wv_src (ad := ad) (fun j hj => ?_) (wd * q) wd (by omega)
    exact hI.src (by rw [add_block]; exact hne) (hsrc j hj)
  · rw [hlen, wvCells_len, wvMix_len]; omega
  · intro v hv
    obtain ⟨x, _, rfl⟩ := List.mem_map.1 hv
    rfl
  · refine hK _ _ ⟨?_, ?_, ?_, below_setRow hI.2.2.2 hgb _⟩
    · rw [← hst]
      simpa using setRow_heap W g _ _ 5 _ hI.1
    · intro k hk
      rw [setRow_other W g k _ hk, hI.2.1 k hk]
    · rw [← hI.2.2.1]; simp [World.setRow]
set_option maxHeartbeats 4000000 in
set_option maxRecDepth 100000 in
theorem wv_lines (w0 w : World) (g : Nat) (cur fr : List Int) (ad : Addr) (c N wd p h : Nat) (hB : Below w0.heap.size w0 w) (hgb : w0.heap.size ≤ g) (hblk : w.heap[g]? = some (.cells (wvCells cur).toArray 5 (0, 0)))
    (hsrc : ∀ j, j < fr.length → w.cell? (ad.add j) = some (.int .u8 (fr.getD j 0))) (hne : ad.block ≠ g) (hN1 : cur.length = N) (hN2 : fr.length = N) (hc : N ≤ c) (hNh : N = wd * h) (hw : 0 < wd) (hp : p < 2) (hmax : N ≤ 1099511627776) (hh : 0 < h) :
    Calls Try.prog 78 #[.slice (some ⟨g, 0, none⟩) N N, .slice (some ad) N c, .int .i64 wd, .int .i64 p] w fun e w' => e = .returned (.tuple #[]) ∧ w'.heap[g]? = some (.cells (wvCells (wvMix wd p N cur fr)).toArray 5 (0, 0)) ∧ (∀ k, k ≠ g → w'.heap[k]? = w.heap[k]?) ∧ w'.heap.size = w.heap.size ∧ Below w0.heap.size w0 w' := by
  have hwd : wd ≤ N := by rw [hNh]; exact Nat.le_mul_of_pos_right _ hh
  have hpw : IntKind.i64.wrap ((p : Int) * (wd : Int)) = ((wd * p : Nat) : Int) := by
    have : wd * p ≤ wd * 1 := Nat.mul_le_mul_left _ (by omega)
    rw [IntKind.wrap_i64]
    have e : (p : Int) * (wd : Int) = ((wd * p : Nat) : Int) := by rw [Int.natCast_mul, Int.mul_comm]
    rw [e]; omega
  have H0 := Aside0.mk (wvMix_zero wd p (wd * p) cur fr rfl hp hw)
  have HNh := Aside0.mk hNh
  have HB := Aside0.mk hB
  have HBL := Aside0.mk hblk
  have HS := Aside0.mk hsrc
  have HN1 := Aside0.mk hN1
  have HN2 := Aside0.mk hN2
  have HNE := Aside0.mk hne
  have HI := Aside0.mk (show WvI w0 w w g (wvMix wd p (wd * p) cur fr) from by rw [H0.out]; exact ⟨hblk, fun _ _ => rfl, rfl, hB⟩)
  clear hB hblk hsrc hN1 hN2 hNh hne H0
  have i0 : (0 : Int) ≤ (p : Int) := by omega
  have hwN : wd ≤ 1099511627776 := by omega
  obtain ⟨a0, ha0⟩ : ∃ a0, a0 = wd * p := ⟨_, rfl⟩
  have hpw' : IntKind.i64.wrap ((p : Int) * (wd : Int)) = (a0 : Int) := by rw [ha0]; exact hpw
  have hp1 : a0 ≤ wd := by rw [ha0]; exact Nat.le_trans (Nat.mul_le_mul_left _ (show p ≤ 1 by omega)) (by omega)
  have HA0 := Aside0.mk ha0
  clear ha0 hpw
  go_enter Try.func78, Try.ntmps78
  go_wp2
  go_loopg [8] h (fun z s8 wr => ∃ q a1 : Nat, s8 = .int .i64 (a1 : Int) ∧ Aside0 (a1 = wd * q) ∧ q % 2 = p ∧ h - q ≤ z ∧ q ≤ h + 1 ∧ Aside0 (WvI w0 w wr g (wvMix wd p (wd * q) cur fr)))
  case atStart => exact ⟨p, a0, rfl, HA0, by omega, by omega, by omega, HI⟩
  case round =>
    obtain ⟨q, a1, rfl, HA1, hq, hqz, hqh, HI⟩ := hrel
    by_cases hlt : q < h
    · have b1 : a1 + wd ≤ N := by rw [HA1.out, HNh.out, ← Nat.mul_succ]; exact Nat.mul_le_mul_left _ hlt
      have b2 : a1 < N := by omega
      have hltb : decide ((a1 : Int) < (N : Int)) = true := decide_eq_true (by omega)
      have hltn : decide (a1 < N) = true := decide_eq_true b2
      have hs1 := fun W => wv_cut W ⟨g, 0, none⟩ N N a1 wd b1 hw
      have hs2 := fun W => wv_cut W ad N c a1 wd (by omega) hw
      simp only [add_plain, Nat.zero_add] at hs1
      have hwr : IntKind.i64.wrap ((a1 : Int) + (wd : Int)) = (a1 : Int) + (wd : Int) := by rw [IntKind.wrap_i64]; omega
      go_wp2
      go_region_law (refine step_wv rfl (.tmp 25) (.tmp 31) 50 50 rfl 5 Try.underlying50 (by kernel_rfl) (w0 := w0) (w := w) g ad (N - a1) (c - a1) wd p q h N cur fr hgb (by first | exact HI.out | exact HI.out.drew | exact HI.out.drewN _) (by rw [← HA1.out]; simp [Act.eval, Act.put]) (by rw [← HA1.out]; simp [Act.eval, Act.put]) HS.out HNE.out HN1.out HN2.out HNh.out hw hq hlt ?_; intro w4 n4 hI4)
      have HI4 := Aside0.mk hI4
      clear hI4 hs1 hs2 hwr
      go_wp2
      go_roundg (h - (q + 2))
      case measure => omega
      case rel => exact ⟨q + 2, a1 + 2 * wd, by first | rfl | go_num, ⟨by rw [HA1.out, Nat.mul_add, Nat.mul_comm 2 wd]⟩, by omega, by omega, by omega, HI4⟩
    · have b1 : N ≤ a1 := by rw [HA1.out, HNh.out]; exact Nat.mul_le_mul_left _ (by omega)
      have hltb : decide ((a1 : Int) < (N : Int)) = false := decide_eq_false (by omega)
      have hltn : decide (a1 < N) = false := decide_eq_false (by omega)
      go_wp2
      refine bodyPost_end (results_none rfl _ _ _) rfl ?_
      have hm : wvMix wd p (wd * q) cur fr = wvMix wd p N cur fr := by
        rw [← HA1.out]
        unfold wvMix
        refine List.map_congr_left fun i hi => ?_
        have hi2 := List.mem_range.1 hi
        rw [HN1.out] at hi2
        simp only [show i < a1 by omega, show i < N by omega]
      have hz := HI.out
      rw [hm] at hz
      exact ⟨rfl, hz⟩
/-- three planes in blocks of their own; the other elder blocks are w's -/
def WvF (w0 w wr : World) (g2 g3 g4 : Nat) (l2 l3 l4 : List Int) : Prop :=
  wr.heap[g2]? = some (.cells (wvCells l2).toArray 5 (0, 0)) ∧ wr.heap[g3]? = some (.cells (wvCells l3).toArray 5 (0, 0)) ∧ wr.heap[g4]? = some (.cells (wvCells l4).toArray 5 (0, 0)) ∧
  (∀ k, k < w.heap.size → k ≠ g2 → k ≠ g3 → k ≠ g4 → wr.heap[k]? = w.heap[k]?) ∧ w.heap.size ≤ wr.heap.size ∧ Below w0.heap.size w0 wr
theorem WvF.below {w0 w wr w1 : World} {g2 g3 g4 : Nat} {l2 l3 l4 : List Int} (h : WvF w0 w wr g2 g3 g4 l2 l3 l4) (hb : Below wr.heap.size wr w1) (h0 : w0.heap.size ≤ wr.heap.size) : WvF w0 w w1 g2 g3 g4 l2 l3 l4 :=
  ⟨blk_below h.1 hb, blk_below h.2.1 hb, blk_below h.2.2.1 hb, fun k hk a b c => (hb.block k (Nat.lt_of_lt_of_le hk h.2.2.2.2.1)).trans (h.2.2.2.1 k hk a b c), Nat.le_trans h.2.2.2.2.1 hb.size, below_then h.2.2.2.2.2 h0 hb⟩
theorem WvF.b2 {w0 w wr : World} {g2 g3 g4 : Nat} {l2 l3 l4 : List Int} (h : WvF w0 w wr g2 g3 g4 l2 l3 l4) : wr.heap[g2]? = some (.cells (wvCells l2).toArray 5 (0, 0)) := h.1
theorem WvF.b3 {w0 w wr : World} {g2 g3 g4 : Nat} {l2 l3 l4 : List Int} (h : WvF w0 w wr g2 g3 g4 l2 l3 l4) : wr.heap[g3]? = some (.cells (wvCells l3).toArray 5 (0, 0)) := h.2.1
theorem WvF.b4 {w0 w wr : World} {g2 g3 g4 : Nat} {l2 l3 l4 : List Int} (h : WvF w0 w wr g2 g3 g4 l2 l3 l4) : wr.heap[g4]? = some (.cells (wvCells l4).toArray 5 (0, 0)) := h.2.2.1
theorem WvF.bel {w0 w wr : World} {g2 g3 g4 : Nat} {l2 l3 l4 : List Int} (h : WvF w0 w wr g2 g3 g4 l2 l3 l4) : Below w0.heap.size w0 wr := h.2.2.2.2.2
theorem WvF.cell {w0 w wr : World} {g2 g3 g4 : Nat} {l2 l3 l4 : List Int} (h : WvF w0 w wr g2 g3 g4 l2 l3 l4) {a : Addr} {v : Value} (hc : w.cell? a = some v) (a2 : a.block ≠ g2) (a3 : a.block ≠ g3) (a4 : a.block ≠ g4) : wr.cell? a = some v := by
  rw [← hc]
  unfold World.cell?
  rw [h.2.2.2.1 _ (World.block_lt_of_cell? w _ hc) a2 a3 a4]
/-- what lines does to the first, the second, the third plane -/
theorem WvF.turn2 {w0 w wr w1 : World} {g2 g3 g4 : Nat} {l2 l3 l4 l : List Int} (h : WvF w0 w wr g2 g3 g4 l2 l3 l4) (n3 : g3 ≠ g2) (n4 : g4 ≠ g2) (hb : w1.heap[g2]? = some (.cells (wvCells l).toArray 5 (0, 0))) (ho : ∀ k, k ≠ g2 → w1.heap[k]? = wr.heap[k]?) (hs : w1.heap.size = wr.heap.size) (hB : Below w0.heap.size w0 w1) : WvF w0 w w1 g2 g3 g4 l l3 l4 :=
  ⟨hb, (ho _ n3).trans h.2.1, (ho _ n4).trans h.2.2.1, fun k hk a b c => (ho k a).trans (h.2.2.2.1 k hk a b c), by rw [hs]; exact h.2.2.2.2.1, hB⟩
theorem WvF.turn3 {w0 w wr w1 : World} {g2 g3 g4 : Nat} {l2 l3 l4 l : List Int} (h : WvF w0 w wr g2 g3 g4 l2 l3 l4) (n2 : g2 ≠ g3) (n4 : g4 ≠ g3) (hb : w1.heap[g3]? = some (.cells (wvCells l).toArray 5 (0, 0))) (ho : ∀ k, k ≠ g3 → w1.heap[k]? = wr.heap[k]?) (hs : w1.heap.size = wr.heap.size) (hB : Below w0.heap.size w0 w1) : WvF w0 w w1 g2 g3 g4 l2 l l4 :=
  ⟨(ho _ n2).trans h.1, hb, (ho _ n4).trans h.2.2.1, fun k hk a b c => (ho k b).trans (h.2.2.2.1 k hk a b c), by rw [hs]; exact h.2.2.2.2.1, hB⟩
theorem WvF.turn4 {w0 w wr w1 : World} {g2 g3 g4 : Nat} {l2 l3 l4 l : List Int} (h : WvF w0 w wr g2 g3 g4 l2 l3 l4) (n2 : g2 ≠ g4) (n3 : g3 ≠ g4) (hb : w1.heap[g4]? = some (.cells (wvCells l).toArray 5 (0, 0))) (ho : ∀ k, k ≠ g4 → w1.heap[k]? = wr.heap[k]?) (hs : w1.heap.size = wr.heap.size) (hB : Below w0.heap.size w0 w1) : WvF w0 w w1 g2 g3 g4 l2 l3 l :=
  ⟨(ho _ n2).trans h.1, (ho _ n3).trans h.2.1, hb, fun k hk a b c => (ho k c).trans (h.2.2.2.1 k hk a b c), by rw [hs]; exact h.2.2.2.2.1, hB⟩
/-- a plane of a frame that is read -/
structure WvS (w0 : World) (ad : Addr) (l : List Int) (N c : Nat) : Prop where
  len : l.length = N
  cap : N ≤ c
  rd : ∀ j, j < l.length → w0.cell? (ad.add j) = some (.int .u8 (l.getD j 0))
  old : ad.block < w0.heap.size
theorem WvS.now {w0 w : World} {ad : Addr} {l : List Int} {N c : Nat} (h : WvS w0 ad l N c) (hb : Below w0.heap.size w0 w) : ∀ j, j < l.length → w.cell? (ad.add j) = some (.int .u8 (l.getD j 0)) := fun j hj => (hb.cell (World.block_lt_of_cell? _ _ (h.rd j hj))).trans (h.rd j hj)
def wvBox (x y : Int) (v2 v3 v4 : Value) : Array Value := #[.int .i64 x, .int .i64 y, v2, v3, v4]
set_option maxHeartbeats 4000000 in
set_option maxRecDepth 100000 in
theorem wv_field (w0 w : World) (g2 g3 g4 : Nat) (l2 l3 l4 f2 f3 f4 : List Int) (a2 a3 a4 : Addr) (c2 c3 c4 W V H N M p : Nat) (y W' y' : Int) (hF : WvF w0 w w g2 g3 g4 l2 l3 l4) (h0 : w0.heap.size ≤ w.heap.size)
    (e2 : w0.heap.size ≤ g2) (e3 : w0.heap.size ≤ g3) (e4 : w0.heap.size ≤ g4) (n23 : g2 ≠ g3) (n24 : g2 ≠ g4) (n34 : g3 ≠ g4)
    (s2 : WvS w0 a2 f2 N c2) (s3 : WvS w0 a3 f3 M c3) (s4 : WvS w0 a4 f4 M c4) (hl2 : l2.length = N) (hl3 : l3.length = M) (hl4 : l4.length = M)
    (hWV : W = 2 * V) (hN : N = W * (2 * H)) (hM : M = V * H) (hV : 0 < V) (hH : 0 < H) (hp : p < 2) (hmax : N ≤ 1099511627776) :
    Calls Try.prog 74 #[.agg #[.int .i64 W, .int .i64 y, .slice (some ⟨g2, 0, none⟩) N N, .slice (some ⟨g3, 0, none⟩) M M, .slice (some ⟨g4, 0, none⟩) M M], .agg #[.int .i64 W', .int .i64 y', .slice (some a2) N c2, .slice (some a3) M c3, .slice (some a4) M c4], .int .i64 p] w
      fun e w' => e = .returned (.tuple #[]) ∧ WvF w0 w w' g2 g3 g4 (wvMix W p N l2 f2) (wvMix V p M l3 f3) (wvMix V p M l4 f4) := by
  have hMN : M ≤ N := by
    rw [hN, hM, hWV]
    have : V * H ≤ V * (2 * H) := Nat.mul_le_mul_left _ (by omega)
    have h3 : V * (2 * H) ≤ 2 * V * (2 * H) := Nat.mul_le_mul_right _ (by omega)
    omega
  have hW1 : W ≤ N := by rw [hN]; exact Nat.le_mul_of_pos_right _ (by omega)
  have hWp : 0 < W := by omega
  have q1 : (W : Int).tdiv 2 = (V : Int) := by rw [Int.tdiv_eq_ediv_of_nonneg (by omega)]; omega
  have q2 : (W : Int) / 2 = (V : Int) := by omega
  have q3 : IntKind.i64.wrap (V : Int) = (V : Int) := by rw [IntKind.wrap_i64]; omega
  have hg2 : g2 < w.heap.size := blk_lt hF.1
  have hg3 : g3 < w.heap.size := blk_lt hF.2.1
  have hg4 : g4 < w.heap.size := blk_lt hF.2.2.1
  have HF := Aside0.mk hF
  have HWV := Aside0.mk hWV
  have HN := Aside0.mk hN
  have HM := Aside0.mk hM
  have S2 := Aside0.mk s2
  have S3 := Aside0.mk s3
  have S4 := Aside0.mk s4
  have L2 := Aside0.mk hl2
  have L3 := Aside0.mk hl3
  have L4 := Aside0.mk hl4
  have hMm : M ≤ 1099511627776 := by omega
  clear hF hWV hN hM s2 s3 s4 hl2 hl3 hl4
  go_enter Try.func74, Try.ntmps74
  go_wp2_with (first
    | ((with_reducible refine gate_dst (N := 3) rfl ?_); refine box_event ?hg (N := 3) ?hd (cs := #[.int .i64 W, .int .i64 y, .slice (some ⟨g2, 0, none⟩) N N, .slice (some ⟨g3, 0, none⟩) M M, .slice (some ⟨g4, 0, none⟩) M M]) (t := 52) ?hr ?_; (case hd => rfl); (case hg => rfl); (case hr => first | (go_simp; done) | (go_simp; rfl)); intro ga hga w1 hbox hb; have HF1 := Aside0.mk (HF.out.below hb h0); have BA := Aside0.mk hbox; have na2 : ga ≠ g2 := (by omega); have na3 : ga ≠ g3 := (by omega); have na4 : ga ≠ g4 := (by omega); have h01 : w0.heap.size ≤ w1.heap.size := Nat.le_trans h0 hb.size; have EA := Aside0.mk (show w.heap.size ≤ ga from Nat.le_of_eq hga.symm); have LA := blk_lt hbox; clear hga hbox hb)
    | ((with_reducible refine gate_dst (N := 4) rfl ?_); refine box_event ?hg (N := 4) ?hd (cs := #[.int .i64 W', .int .i64 y', .slice (some a2) N c2, .slice (some a3) M c3, .slice (some a4) M c4]) (t := 52) ?hr ?_; (case hd => rfl); (case hg => rfl); (case hr => first | (go_simp; done) | (go_simp; rfl)); intro gb hgb w2 hbox hb; have HF2 := Aside0.mk (HF1.out.below hb h01); have BB := Aside0.mk hbox; have BA2 := Aside0.mk (blk_below BA.out hb); have nb2 : gb ≠ g2 := (by have := blk_lt HF1.out.b2; omega); have nb3 : gb ≠ g3 := (by have := blk_lt HF1.out.b3; omega); have nb4 : gb ≠ g4 := (by have := blk_lt HF1.out.b4; omega); have h02 : w0.heap.size ≤ w2.heap.size := Nat.le_trans h01 hb.size; clear hgb hbox hb; have ka0 : w2.cell? ⟨ga, 0, none⟩ = some (.int .i64 W) := (blk_cell BA2.out 0).trans rfl; have ka2 : w2.cell? ⟨ga, 2, none⟩ = some (.slice (some ⟨g2, 0, none⟩) N N) := (blk_cell BA2.out 2).trans rfl; have kb2 : w2.cell? ⟨gb, 2, none⟩ = some (.slice (some a2) N c2) := (blk_cell BB.out 2).trans rfl)
    | (go_at_call 78; (with_reducible refine (wv_lines w0 _ g2 l2 f2 a2 c2 N W p (2 * H) HF2.out.bel e2 HF2.out.b2 (S2.out.now HF2.out.bel) (by have := S2.out.old; omega) L2.out S2.out.len S2.out.cap HN.out hWp hp hmax (by omega)).mono ?_); rintro e w3 ⟨rfl, hb, ho, hs, hB⟩; have HF3 := Aside0.mk (HF2.out.turn2 (Ne.symm n23) (Ne.symm n24) hb ho hs hB); have BA3 := Aside0.mk ((ho _ na2).trans BA2.out); have BB3 := Aside0.mk ((ho _ nb2).trans BB.out); clear hb ho hs hB ka0 ka2 kb2; have ka0 : w3.cell? ⟨ga, 0, none⟩ = some (.int .i64 W) := (blk_cell BA3.out 0).trans rfl; have ka3 : w3.cell? ⟨ga, 3, none⟩ = some (.slice (some ⟨g3, 0, none⟩) M M) := (blk_cell BA3.out 3).trans rfl; have kb3 : w3.cell? ⟨gb, 3, none⟩ = some (.slice (some a3) M c3) := (blk_cell BB3.out 3).trans rfl)
    | (go_at_call 78; (with_reducible refine (wv_lines w0 _ g3 l3 f3 a3 c3 M V p H HF3.out.bel e3 HF3.out.b3 (S3.out.now HF3.out.bel) (by have := S3.out.old; omega) L3.out S3.out.len S3.out.cap HM.out hV hp hMm hH).mono ?_); rintro e w4 ⟨rfl, hb, ho, hs, hB⟩; have HF4 := Aside0.mk (HF3.out.turn3 n23 (Ne.symm n34) hb ho hs hB); have BA4 := Aside0.mk ((ho _ na3).trans BA3.out); have BB4 := Aside0.mk ((ho _ nb3).trans BB3.out); clear hb ho hs hB ka0 ka3 kb3; have ka0 : w4.cell? ⟨ga, 0, none⟩ = some (.int .i64 W) := (blk_cell BA4.out 0).trans rfl; have ka4 : w4.cell? ⟨ga, 4, none⟩ = some (.slice (some ⟨g4, 0, none⟩) M M) := (blk_cell BA4.out 4).trans rfl; have kb4 : w4.cell? ⟨gb, 4, none⟩ = some (.slice (some a4) M c4) := (blk_cell BB4.out 4).trans rfl)
    | (go_at_call 78; (with_reducible refine (wv_lines w0 _ g4 l4 f4 a4 c4 M V p H HF4.out.bel e4 HF4.out.b4 (S4.out.now HF4.out.bel) (by have := S4.out.old; omega) L4.out S4.out.len S4.out.cap HM.out hV hp hMm hH).mono ?_); rintro e w5 ⟨rfl, hb, ho, hs, hB⟩; have HF5 := Aside0.mk (HF4.out.turn4 n24 n34 hb ho hs hB); clear hb ho hs hB))
  go_end0
  exact ⟨rfl, HF5.out⟩
/-- the even lines of a, the odd ones of b -/
def wvJoin (wd : Nat) (a b : List Int) : List Int := (List.range a.length).map fun i => if i / wd % 2 = 1 then b.getD i 0 else a.getD i 0
def wvFits (x y : Int) (l2 l3 l4 m2 m3 m4 : List Int) : Bool := decide (2 ≤ x ∧ x % 2 = 0 ∧ 2 ≤ y ∧ y % 2 = 0 ∧ x ≤ 65536 ∧ y ≤ 65536 ∧ (l2.length : Int) = x * y ∧ (l3.length : Int) = x / 2 * (y / 2) ∧ (l4.length : Int) = x / 2 * (y / 2) ∧ m2.length = l2.length ∧ m3.length = l3.length ∧ m4.length = l4.length)
def cadence_woven.f (a0_0 : Int) (a0_1 : Int) (l0_2 : List Int) (l0_3 : List Int) (l0_4 : List Int) (a1_0 : Int) (a1_1 : Int) (l1_2 : List Int) (l1_3 : List Int) (l1_4 : List Int) : Option (Int × Int × List Int × List Int × List Int) :=
  if wvFits a0_0 a0_1 l0_2 l0_3 l0_4 l1_2 l1_3 l1_4 = true then some (a0_0, a0_1, wvJoin a0_0.toNat l0_2 l1_2, wvJoin (a0_0 / 2).toNat l0_3 l1_3, wvJoin (a0_0 / 2).toNat l0_4 l1_4) else none
theorem wv_both (wd N : Nat) (z a b : List Int) (hz : z.length = N) (ha : a.length = N) (hb : b.length = N) : wvMix wd 1 N (wvMix wd 0 N z a) b = wvJoin wd a b := by
  apply List.ext_getElem?
  intro i
  by_cases hi : i < N
  · rw [wvMix_get _ _ _ _ _ _ (by rw [wvMix_len]; omega)]
    unfold wvJoin
    rw [List.getElem?_map, List.getElem?_range (by omega), Option.map_some]
    by_cases c : i / wd % 2 = 1
    · simp [hi, c]
    · have c0 : i / wd % 2 = 0 := by omega
      simp only [hi, c, true_and, if_false]
      rw [List.getD_eq_getElem?_getD, wvMix_get _ _ _ _ _ _ (by omega), if_pos ⟨hi, c0⟩]
      rfl
  · rw [List.getElem?_eq_none (by rw [wvMix_len, wvMix_len]; omega), List.getElem?_eq_none (by simp [wvJoin]; omega)]
theorem wv_src_of {w : World} {A : Option Addr} {l : List Int} {c : Nat} (h : Kd.C (Kd.int .u8) w A l.length l) (hl : 0 < l.length) (hc : l.length ≤ c) : ∃ ad, A = some ad ∧ WvS w ad l l.length c := by
  obtain ⟨ad, rfl, _⟩ := Kd.at_int h 0 (by omega) (by omega)
  have hr : ∀ j, j < l.length → w.cell? (ad.add j) = some (.int .u8 (l.getD j 0)) := fun j hj => by
    obtain ⟨ad', e, hc⟩ := Kd.at_int h (j : Int) (by omega) (by omega)
    injection e with e
    subst e
    simpa [rd] using hc
  refine ⟨ad, rfl, rfl, hc, hr, ?_⟩
  have := World.block_lt_of_cell? w _ (hr 0 hl)
  rwa [add_block] at this
theorem wv_alloc {w : World} {o : Obj} {a : Addr} {v : Value} (h : w.cell? a = some v) : (w.alloc o).cell? a = some v := ((below_alloc (Below.refl _ _) o).cell (World.block_lt_of_cell? w _ h)).trans h
theorem wv_drew {w : World} {a : Addr} {v : Value} (h : w.cell? a = some v) : w.drew.cell? a = some v := h
theorem wv_drewN {w : World} {n : Nat} {a : Addr} {v : Value} (h : w.cell? a = some v) : (w.drewN n).cell? a = some v := h
theorem wv_field0 (w0 w : World) (g2 g3 g4 : Nat) (l2 l3 l4 f2 f3 f4 : List Int) (a2 a3 a4 : Addr) (c2 c3 c4 W V H N M : Nat) (y W' y' : Int) (hF : WvF w0 w w g2 g3 g4 l2 l3 l4) (h0 : w0.heap.size ≤ w.heap.size)
    (e2 : w0.heap.size ≤ g2) (e3 : w0.heap.size ≤ g3) (e4 : w0.heap.size ≤ g4) (n23 : g2 ≠ g3) (n24 : g2 ≠ g4) (n34 : g3 ≠ g4)
    (s2 : WvS w0 a2 f2 N c2) (s3 : WvS w0 a3 f3 M c3) (s4 : WvS w0 a4 f4 M c4) (hl2 : l2.length = N) (hl3 : l3.length = M) (hl4 : l4.length = M)
    (hWV : W = 2 * V) (hN : N = W * (2 * H)) (hM : M = V * H) (hV : 0 < V) (hH : 0 < H) (hmax : N ≤ 1099511627776) :
    Calls Try.prog 74 #[.agg #[.int .i64 W, .int .i64 y, .slice (some ⟨g2, 0, none⟩) N N, .slice (some ⟨g3, 0, none⟩) M M, .slice (some ⟨g4, 0, none⟩) M M], .agg #[.int .i64 W', .int .i64 y', .slice (some a2) N c2, .slice (some a3) M c3, .slice (some a4) M c4], .int .i64 0] w
      fun e w' => e = .returned (.tuple #[]) ∧ WvF w0 w w' g2 g3 g4 (wvMix W 0 N l2 f2) (wvMix V 0 M l3 f3) (wvMix V 0 M l4 f4) :=
  wv_field w0 w g2 g3 g4 l2 l3 l4 f2 f3 f4 a2 a3 a4 c2 c3 c4 W V H N M 0 y W' y' hF h0 e2 e3 e4 n23 n24 n34 s2 s3 s4 hl2 hl3 hl4 hWV hN hM hV hH (by decide) hmax
theorem wv_field1 (w0 w : World) (g2 g3 g4 : Nat) (l2 l3 l4 f2 f3 f4 : List Int) (a2 a3 a4 : Addr) (c2 c3 c4 W V H N M : Nat) (y W' y' : Int) (hF : WvF w0 w w g2 g3 g4 l2 l3 l4) (h0 : w0.heap.size ≤ w.heap.size)
    (e2 : w0.heap.size ≤ g2) (e3 : w0.heap.size ≤ g3) (e4 : w0.heap.size ≤ g4) (n23 : g2 ≠ g3) (n24 : g2 ≠ g4) (n34 : g3 ≠ g4)
    (s2 : WvS w0 a2 f2 N c2) (s3 : WvS w0 a3 f3 M c3) (s4 : WvS w0 a4 f4 M c4) (hl2 : l2.length = N) (hl3 : l3.length = M) (hl4 : l4.length = M)
    (hWV : W = 2 * V) (hN : N = W * (2 * H)) (hM : M = V * H) (hV : 0 < V) (hH : 0 < H) (hmax : N ≤ 1099511627776) :
    Calls Try.prog 74 #[.agg #[.int .i64 W, .int .i64 y, .slice (some ⟨g2, 0, none⟩) N N, .slice (some ⟨g3, 0, none⟩) M M, .slice (some ⟨g4, 0, none⟩) M M], .agg #[.int .i64 W', .int .i64 y', .slice (some a2) N c2, .slice (some a3) M c3, .slice (some a4) M c4], .int .i64 1] w
      fun e w' => e = .returned (.tuple #[]) ∧ WvF w0 w w' g2 g3 g4 (wvMix W 1 N l2 f2) (wvMix V 1 M l3 f3) (wvMix V 1 M l4 f4) :=
  wv_field w0 w g2 g3 g4 l2 l3 l4 f2 f3 f4 a2 a3 a4 c2 c3 c4 W V H N M 1 y W' y' hF h0 e2 e3 e4 n23 n24 n34 s2 s3 s4 hl2 hl3 hl4 hWV hN hM hV hH (by decide) hmax
theorem WvF.own {w0 w wr : World} {g2 g3 g4 : Nat} {l2 l3 l4 : List Int} (h : WvF w0 w wr g2 g3 g4 l2 l3 l4) : WvF w0 wr wr g2 g3 g4 l2 l3 l4 := ⟨h.1, h.2.1, h.2.2.1, fun _ _ _ _ _ => rfl, Nat.le_refl _, h.2.2.2.2.2⟩
set_option maxHeartbeats 8000000 in
set_option maxRecDepth 100000 in
theorem wv_woven (w : World) (X V Y H N M : Nat) (x' y' : Int) (l2 l3 l4 m2 m3 m4 : List Int) (a2 a3 a4 b2 b3 b4 : Addr) (c2 c3 c4 d2 d3 d4 : Nat)
    (s2 : WvS w a2 l2 N c2) (s3 : WvS w a3 l3 M c3) (s4 : WvS w a4 l4 M c4) (t2 : WvS w b2 m2 N d2) (t3 : WvS w b3 m3 M d3) (t4 : WvS w b4 m4 M d4)
    (hX : X = 2 * V) (hY : Y = 2 * H) (hN : N = X * Y) (hM : M = V * H) (hV : 0 < V) (hH : 0 < H) (hmax : N ≤ 1099511627776) :
    Calls Try.prog 62 #[.agg #[.int .i64 X, .int .i64 Y, .slice (some a2) N c2, .slice (some a3) M c3, .slice (some a4) M c4], .agg #[.int .i64 x', .int .i64 y', .slice (some b2) N d2, .slice (some b3) M d3, .slice (some b4) M d4]] w
      fun e w' => ∃ g2 g3 g4 : Nat, e = .returned (.agg #[.int .i64 X, .int .i64 Y, .slice (some ⟨g2, 0, none⟩) N N, .slice (some ⟨g3, 0, none⟩) M M, .slice (some ⟨g4, 0, none⟩) M M]) ∧ g2 ≠ g3 ∧ g2 ≠ g4 ∧ g3 ≠ g4 ∧ w.heap.size ≤ g2 ∧ w.heap.size ≤ g3 ∧ w.heap.size ≤ g4 ∧
        w'.heap[g2]? = some (.cells (wvCells (wvJoin X l2 m2)).toArray 5 (0, 0)) ∧ w'.heap[g3]? = some (.cells (wvCells (wvJoin V l3 m3)).toArray 5 (0, 0)) ∧ w'.heap[g4]? = some (.cells (wvCells (wvJoin V l4 m4)).toArray 5 (0, 0)) ∧ Below w.heap.size w w' := by
  have hMN : M ≤ N := by
    rw [hN, hM, hX, hY]
    have : V * H ≤ V * (2 * H) := Nat.mul_le_mul_left _ (by omega)
    have h3 : V * (2 * H) ≤ 2 * V * (2 * H) := Nat.mul_le_mul_right _ (by omega)
    omega
  have mk2 := wv_make N (by omega)
  have mk3 := wv_make M (by omega)
  have S2 := Aside0.mk s2
  have S3 := Aside0.mk s3
  have S4 := Aside0.mk s4
  have T2 := Aside0.mk t2
  have T3 := Aside0.mk t3
  have T4 := Aside0.mk t4
  have HX := Aside0.mk hX
  have HY := Aside0.mk hY
  have HN := Aside0.mk hN
  have HM := Aside0.mk hM
  clear s2 s3 s4 t2 t3 t4 hX hY hN hM
  have z0 : Aside0 (w.heap.size ≤ w.heap.size) := ⟨Nat.le_refl _⟩
  have HB0 := Aside0.mk (Below.refl w.heap.size w)
  go_enter Try.func62, Try.ntmps62
  go_upto_region 1 with (first
    | ((with_reducible refine gate_dst (N := 2) rfl ?_); refine box_event ?hg (N := 2) ?hd (cs := #[.int .i64 X, .int .i64 Y, .slice (some a2) N c2, .slice (some a3) M c3, .slice (some a4) M c4]) (t := 52) ?hr ?_; (case hd => rfl); (case hg => rfl); (case hr => first | (go_simp; done) | (go_simp; rfl)); intro ga hga w1 hbox hb; have B1 := Aside0.mk hb; have BA := Aside0.mk hbox; have LA := blk_lt hbox; have EA : w.heap.size ≤ ga := Nat.le_of_eq hga.symm; have z1 : w.heap.size < w1.heap.size := (by omega); clear hga hbox hb)
    | ((with_reducible refine gate_dst (N := 3) rfl ?_); refine box_event ?hg (N := 3) ?hd (cs := #[.int .i64 x', .int .i64 y', .slice (some b2) N d2, .slice (some b3) M d3, .slice (some b4) M d4]) (t := 52) ?hr ?_; (case hd => rfl); (case hg => rfl); (case hr => first | (go_simp; done) | (go_simp; rfl)); intro gb hgb w2 hbox hb; have B2 := Aside0.mk (below_step B1.out hb); have BB := Aside0.mk hbox; have BA2 := Aside0.mk (blk_below BA.out hb); have LB := blk_lt hbox; have LA2 := blk_lt BA2.out; have EB : w.heap.size ≤ gb := (by omega); clear hgb hbox hb)
    | ((with_reducible refine gate_dst (N := 4) rfl ?_); refine box_event ?hg (N := 4) ?hd (cs := #[.int .i64 0, .int .i64 0, .slice none 0 0, .slice none 0 0, .slice none 0 0]) (t := 52) ?hr ?_; (case hd => rfl); (case hg => rfl); (case hr => first | (go_simp; done) | (go_simp; rfl)); intro gr hgr w3 hbox hb; have B3 := Aside0.mk (below_step B2.out hb); have BR := Aside0.mk hbox; have BA3 := Aside0.mk (blk_below BA2.out hb); have BB3 := Aside0.mk (blk_below BB.out hb); have LR := blk_lt hbox; have LA3 := blk_lt BA3.out; have LB3 := blk_lt BB3.out; have nra : gr ≠ ga := (by omega); have nrb : gr ≠ gb := (by omega); have ER : w.heap.size ≤ gr := (by omega); clear hgr hbox hb))
  clear BA BA2 BB B1 B2
  (try simp only [Act.put, List.setIfInBounds_toArray, List.set_cons_zero, List.set_cons_succ])
  go_cut [5] (fun s5 wx => ∃ g2 g3 g4 g5 : Nat, s5 = .pointer (some ⟨g5, 0, none⟩) ∧ Aside0 (g2 ≠ g3 ∧ g2 ≠ g4 ∧ g3 ≠ g4 ∧ g5 ≠ g2 ∧ g5 ≠ g3 ∧ g5 ≠ g4 ∧ w3.heap.size ≤ g2 ∧ w3.heap.size ≤ g3 ∧ w3.heap.size ≤ g4 ∧ w3.heap.size ≤ g5) ∧
    Aside0 (WvF w wx wx g2 g3 g4 (List.replicate N 0) (List.replicate M 0) (List.replicate M 0) ∧ wx.heap[g5]? = some (.cells #[.int .i64 X, .int .i64 Y, .slice (some ⟨g2, 0, none⟩) N N, .slice (some ⟨g3, 0, none⟩) M M, .slice (some ⟨g4, 0, none⟩) M M] 52 (0, 0)) ∧ Below w3.heap.size w3 wx))
  case first =>
    have k0 : w3.cell? ⟨ga, 0, none⟩ = some (.int .i64 X) := (blk_cell BA3.out 0).trans rfl
    have k1 : w3.cell? ⟨ga, 1, none⟩ = some (.int .i64 Y) := (blk_cell BA3.out 1).trans rfl
    have k2 : w3.cell? ⟨ga, 2, none⟩ = some (.slice (some a2) N c2) := (blk_cell BA3.out 2).trans rfl
    have k3 : w3.cell? ⟨ga, 3, none⟩ = some (.slice (some a3) M c3) := (blk_cell BA3.out 3).trans rfl
    have k4 : w3.cell? ⟨ga, 4, none⟩ = some (.slice (some a4) M c4) := (blk_cell BA3.out 4).trans rfl
    refine start_ (n := 19) (S := fun w' => w'.cell? ⟨ga, 0, none⟩ = some (.int .i64 X) ∧ w'.cell? ⟨ga, 1, none⟩ = some (.int .i64 Y) ∧ w'.cell? ⟨ga, 2, none⟩ = some (.slice (some a2) N c2) ∧ w'.cell? ⟨ga, 3, none⟩ = some (.slice (some a3) M c3) ∧ w'.cell? ⟨ga, 4, none⟩ = some (.slice (some a4) M c4)) (ds := [18]) #[false, false, false, false, false, false, false, false, false, false, false, false, false, false, false, false, false, false, false] (by kernel_rfl) rfl rfl ⟨k0, k1, k2, k3, k4⟩ (fun hHeld => ?_)
    refine pure_ (i := 0) (N := some 6) (v := ?_) (a' := ?_) #[true, false, false, false, false, false, false, false, false, false, false, false, false, false, false, false, false, false, false] rfl rfl (by kernel_rfl) (fun _ _ _ h => h) (Or.inl ⟨by rfl, ?_⟩) ?_ ?_; rotate_left; (intro w'; go_simp; with_reducible rfl); rotate_left; (simp only [Act.put, List.setIfInBounds_toArray, List.set_cons_zero, List.set_cons_succ, i64_w, i32_w]; rfl)
    refine pure_ (i := 2) (N := some 8) (v := ?_) (a' := ?_) #[true, false, true, false, false, false, false, false, false, false, false, false, false, false, false, false, false, false, false] rfl rfl (by kernel_rfl) (fun _ _ _ h => h) (Or.inl ⟨by rfl, ?_⟩) ?_ ?_; rotate_left; (intro w'; go_simp; with_reducible rfl); rotate_left; (simp only [Act.put, List.setIfInBounds_toArray, List.set_cons_zero, List.set_cons_succ, i64_w, i32_w]; rfl)
    refine pure_ (i := 4) (N := some 10) (v := ?_) (a' := ?_) #[true, false, true, false, true, false, false, false, false, false, false, false, false, false, false, false, false, false, false] rfl rfl (by kernel_rfl) (fun _ _ _ h => h) (Or.inl ⟨by rfl, ?_⟩) ?_ ?_; rotate_left; (intro w'; go_simp; with_reducible rfl); rotate_left; (simp only [Act.put, List.setIfInBounds_toArray, List.set_cons_zero, List.set_cons_succ, i64_w, i32_w]; rfl)
    refine pure_ (i := 8) (N := some 14) (v := ?_) (a' := ?_) #[true, false, true, false, true, false, false, false, true, false, false, false, false, false, false, false, false, false, false] rfl rfl (by kernel_rfl) (fun _ _ _ h => h) (Or.inl ⟨by rfl, ?_⟩) ?_ ?_; rotate_left; (intro w'; go_simp; with_reducible rfl); rotate_left; (simp only [Act.put, List.setIfInBounds_toArray, List.set_cons_zero, List.set_cons_succ, i64_w, i32_w]; rfl)
    refine pure_ (i := 12) (N := some 18) (v := ?_) (a' := ?_) #[true, false, true, false, true, false, false, false, true, false, false, false, true, false, false, false, false, false, false] rfl rfl (by kernel_rfl) (fun _ _ _ h => h) (Or.inl ⟨by rfl, ?_⟩) ?_ ?_; rotate_left; (intro w'; go_simp; with_reducible rfl); rotate_left; (simp only [Act.put, List.setIfInBounds_toArray, List.set_cons_zero, List.set_cons_succ, i64_w, i32_w]; rfl)
    refine take_ (i := 1) (N := some 7) (v := ?_) (a' := ?_) #[true, true, true, false, true, false, false, false, true, false, false, false, true, false, false, false, false, false, false] rfl rfl (by kernel_rfl) (fun _ _ _ h => h) (Or.inl ⟨by rfl, ?_⟩) hHeld ?_ ?_; rotate_left; (rintro w' ⟨s0, s1, s2, s3, s4⟩; go_simp; with_reducible rfl); rotate_left; (simp only [Act.put, List.setIfInBounds_toArray, List.set_cons_zero, List.set_cons_succ, i64_w, i32_w]; rfl)
    refine take_ (i := 3) (N := some 9) (v := ?_) (a' := ?_) #[true, true, true, true, true, false, false, false, true, false, false, false, true, false, false, false, false, false, false] rfl rfl (by kernel_rfl) (fun _ _ _ h => h) (Or.inl ⟨by rfl, ?_⟩) hHeld ?_ ?_; rotate_left; (rintro w' ⟨s0, s1, s2, s3, s4⟩; go_simp; with_reducible rfl); rotate_left; (simp only [Act.put, List.setIfInBounds_toArray, List.set_cons_zero, List.set_cons_succ, i64_w, i32_w]; rfl)
    refine take_ (i := 5) (N := some 11) (v := ?_) (a' := ?_) #[true, true, true, true, true, true, false, false, true, false, false, false, true, false, false, false, false, false, false] rfl rfl (by kernel_rfl) (fun _ _ _ h => h) (Or.inl ⟨by rfl, ?_⟩) hHeld ?_ ?_; rotate_left; (rintro w' ⟨s0, s1, s2, s3, s4⟩; go_simp; with_reducible rfl); rotate_left; (simp only [Act.put, List.setIfInBounds_toArray, List.set_cons_zero, List.set_cons_succ, i64_w, i32_w]; rfl)
    refine take_ (i := 9) (N := some 15) (v := ?_) (a' := ?_) #[true, true, true, true, true, true, false, false, true, true, false, false, true, false, false, false, false, false, false] rfl rfl (by kernel_rfl) (fun _ _ _ h => h) (Or.inl ⟨by rfl, ?_⟩) hHeld ?_ ?_; rotate_left; (rintro w' ⟨s0, s1, s2, s3, s4⟩; go_simp; with_reducible rfl); rotate_left; (simp only [Act.put, List.setIfInBounds_toArray, List.set_cons_zero, List.set_cons_succ, i64_w, i32_w]; rfl)
    refine take_ (i := 13) (N := some 19) (v := ?_) (a' := ?_) #[true, true, true, true, true, true, false, false, true, true, false, false, true, true, false, false, false, false, false] rfl rfl (by kernel_rfl) (fun _ _ _ h => h) (Or.inl ⟨by rfl, ?_⟩) hHeld ?_ ?_; rotate_left; (rintro w' ⟨s0, s1, s2, s3, s4⟩; go_simp; with_reducible rfl); rotate_left; (simp only [Act.put, List.setIfInBounds_toArray, List.set_cons_zero, List.set_cons_succ, i64_w, i32_w]; rfl)
    refine pure_ (i := 6) (N := some 12) (v := ?_) (a' := ?_) #[true, true, true, true, true, true, true, false, true, true, false, false, true, true, false, false, false, false, false] rfl rfl (by kernel_rfl) (fun _ _ _ h => h) (Or.inl ⟨by rfl, ?_⟩) ?_ ?_; rotate_left; (intro w'; go_simp; with_reducible rfl); rotate_left; (simp only [Act.put, List.setIfInBounds_toArray, List.set_cons_zero, List.set_cons_succ, i64_w, i32_w]; rfl)
    refine pure_ (i := 10) (N := some 16) (v := ?_) (a' := ?_) #[true, true, true, true, true, true, true, false, true, true, true, false, true, true, false, false, false, false, false] rfl rfl (by kernel_rfl) (fun _ _ _ h => h) (Or.inl ⟨by rfl, ?_⟩) ?_ ?_; rotate_left; (intro w'; go_simp; with_reducible rfl); rotate_left; (simp only [Act.put, List.setIfInBounds_toArray, List.set_cons_zero, List.set_cons_succ, i64_w, i32_w]; rfl)
    refine pure_ (i := 14) (N := some 20) (v := ?_) (a' := ?_) #[true, true, true, true, true, true, true, false, true, true, true, false, true, true, true, false, false, false, false] rfl rfl (by kernel_rfl) (fun _ _ _ h => h) (Or.inl ⟨by rfl, ?_⟩) ?_ ?_; rotate_left; (intro w'; go_simp; with_reducible rfl); rotate_left; (simp only [Act.put, List.setIfInBounds_toArray, List.set_cons_zero, List.set_cons_succ, i64_w, i32_w]; rfl)
    refine Par.four_par (i := 7) (j := 11) (k := 15) (m := 17) (fuel := 2) (fun b c d e => #[true, true, true, true, true, true, true, b, true, true, true, c, true, true, true, d, false, e, false]) (fun v7 v11 v15 v17 => { tmps := #[.agg #[.int .i64 X, .int .i64 Y, .slice (some a2) N c2, .slice (some a3) M c3, .slice (some a4) M c4], .agg #[.int .i64 x', .int .i64 y', .slice (some b2) N d2, .slice (some b3) M d3, .slice (some b4) M d4], .pointer (some ⟨ga, 0, none⟩), .pointer (some ⟨gb, 0, none⟩), .pointer (some ⟨gr, 0, none⟩), v17, .pointer (some ⟨ga, 0, none⟩), .int .i64 X, .pointer (some ⟨ga, 1, none⟩), .int .i64 Y, .pointer (some ⟨ga, 2, none⟩), .slice (some a2) N c2, .int .i64 N, v7, .pointer (some ⟨ga, 3, none⟩), .slice (some a3) M c3, .int .i64 M, v11, .pointer (some ⟨ga, 4, none⟩), .slice (some a4) M c4, .int .i64 M, v15, undef, undef, undef, undef, undef, undef, undef, undef], defers := [] }) (wvMade N w3.heap.size) (wvMade M w3.heap.size) (wvMade M w3.heap.size) (wvBoxed w3.heap.size) (fun W W1 => Below W.heap.size W W1) (fun W => Below w3.heap.size w3 W) wvBlk rfl rfl rfl rfl (by decide) (by decide) (by decide) (by decide) ?_ (fun _ _ _ => rfl) (fun _ _ _ => rfl) (fun _ _ _ => rfl) (fun _ _ _ => rfl) (fun W W1 hb => ⟨fun _ h => h.below hb, fun _ h => h.below hb, fun _ h => h.below hb, fun _ h => h.below hb⟩) (fun W v => ⟨fun h => h.lt, fun h => h.lt, fun h => h.lt, fun h => h.lt⟩) (fun W hG => ?_)
      (fun _ _ _ => by intro u W K hG hK; refine event_step (v := .slice (some ⟨W.heap.size, 0, none⟩) N N) (w1 := W.alloc (.cells (wvCells (List.replicate N 0)).toArray 5)) (by rfl) (by first | (go_simp; done) | (go_simp; rfl)) ?_; exact hK.out _ _ (below_alloc (Below.refl _ _) _) (below_step hG (below_alloc (Below.refl _ _) _)) ⟨_, rfl, hG.size, blk_new _ _⟩ (Nat.le_refl _))
      (fun _ _ _ => by intro u W K hG hK; refine event_step (v := .slice (some ⟨W.heap.size, 0, none⟩) M M) (w1 := W.alloc (.cells (wvCells (List.replicate M 0)).toArray 5)) (by rfl) (by first | (go_simp; done) | (go_simp; rfl)) ?_; exact hK.out _ _ (below_alloc (Below.refl _ _) _) (below_step hG (below_alloc (Below.refl _ _) _)) ⟨_, rfl, hG.size, blk_new _ _⟩ (Nat.le_refl _))
      (fun _ _ _ => by intro u W K hG hK; refine event_step (v := .slice (some ⟨W.heap.size, 0, none⟩) M M) (w1 := W.alloc (.cells (wvCells (List.replicate M 0)).toArray 5)) (by rfl) (by first | (go_simp; done) | (go_simp; rfl)) ?_; exact hK.out _ _ (below_alloc (Below.refl _ _) _) (below_step hG (below_alloc (Below.refl _ _) _)) ⟨_, rfl, hG.size, blk_new _ _⟩ (Nat.le_refl _))
      (fun _ _ _ => by intro u W K hG hK; refine event_step (v := .pointer (some ⟨W.heap.size, 0, none⟩)) (w1 := W.alloc (.cells #[.int .i64 0, .int .i64 0, .slice none 0 0, .slice none 0 0, .slice none 0 0] 52)) (by rfl) (by first | (go_simp; done) | (go_simp; rfl)) ?_; exact hK.out _ _ (below_alloc (Below.refl _ _) _) (below_step hG (below_alloc (Below.refl _ _) _)) ⟨_, rfl, hG.size, blk_new _ _⟩ (Nat.le_refl _))
      ?_ ?_ undef undef undef undef _ (below_drew1 (Below.refl _ _))
    · intro b c d e h
      cases b <;> cases c <;> cases d <;> cases e <;> first | (exact absurd h (by decide)) | kernel_rfl
    · exact ⟨(hG.cell (World.block_lt_of_cell? _ _ k0)).trans k0, (hG.cell (World.block_lt_of_cell? _ _ k1)).trans k1, (hG.cell (World.block_lt_of_cell? _ _ k2)).trans k2, (hG.cell (World.block_lt_of_cell? _ _ k3)).trans k3, (hG.cell (World.block_lt_of_cell? _ _ k4)).trans k4⟩
    · rintro _ _ _ _ W ⟨g2, rfl, r2, h2⟩ ⟨g3, rfl, r3, h3⟩ ⟨g4, rfl, r4, h4⟩ ⟨g5, rfl, r5, h5⟩ q1 q2 q3 q4 q5 q6 hG
      clear mk2 mk3 hHeld
      refine pure_ (i := 16) (N := some 22) (v := ?_) (a' := ?_) #[true, true, true, true, true, true, true, true, true, true, true, true, true, true, true, true, true, true, false] rfl rfl (by kernel_rfl) (fun _ _ _ h => h) (Or.inl ⟨by rfl, ?_⟩) ?_ ?_; rotate_left; (intro w'; go_simp; with_reducible rfl); rotate_left; (simp only [Act.put, List.setIfInBounds_toArray, List.set_cons_zero, List.set_cons_succ, i64_w, i32_w]; rfl)
      have n5 : ga ≠ g5 := by have := LA3; omega
      have m5 : g5 ≠ ga := fun h => n5 h.symm
      have c0 : W.cell? ⟨g5, 0, none⟩ = some (.int .i64 0) := (blk_cell h5 0).trans rfl
      have c1 : W.cell? ⟨g5, 1, none⟩ = some (.int .i64 0) := (blk_cell h5 1).trans rfl
      have c2' : W.cell? ⟨g5, 2, none⟩ = some (.slice none 0 0) := (blk_cell h5 2).trans rfl
      have c3' : W.cell? ⟨g5, 3, none⟩ = some (.slice none 0 0) := (blk_cell h5 3).trans rfl
      have c4' : W.cell? ⟨g5, 4, none⟩ = some (.slice none 0 0) := (blk_cell h5 4).trans rfl
      have f0 := blk_frozen h5 0
      have f1 := blk_frozen h5 1
      have f2 := blk_frozen h5 2
      have f3 := blk_frozen h5 3
      have f4 := blk_frozen h5 4
      refine last_ (i := 18) (N := none) #[true, true, true, true, true, true, true, true, true, true, true, true, true, true, true, true, true, true, true] rfl rfl (by kernel_rfl) (by decide) (fun K hK => ?_)
      refine skip_ (w1 := ?_) (by rfl) rfl ?_ ?_
      rotate_left
      · go_simp
        rfl
      refine hK.out _ _ ?_
      refine done_ (by kernel_rfl) ?_
      clear hK K
      go_wp2_with fail
      go_meet
      refine ⟨g2, g3, g4, g5, rfl, ⟨q1, q2, q4, ?_, ?_, ?_, r2, r3, r4, r5⟩, ⟨?_, ?_, ?_⟩⟩
      · exact fun h => q3 h.symm
      · exact fun h => q5 h.symm
      · exact fun h => q6 h.symm
      all_goals (obtain ⟨p1, p2, p3⟩ := wv_put5 h5 (.int .i64 X) (.int .i64 Y) (.slice (some ⟨g2, 0, none⟩) N N) (.slice (some ⟨g3, 0, none⟩) M M) (.slice (some ⟨g4, 0, none⟩) M M))
      · exact ⟨(p2 _ q3).trans h2, (p2 _ q5).trans h3, (p2 _ q6).trans h4, fun k hk _ _ _ => rfl, Nat.le_refl _, below_step B3.out (p3 hG r5)⟩
      · exact p1
      · exact p3 hG r5
    · rintro _ _ _ um W ⟨g2, rfl, r2, h2⟩ ⟨g3, rfl, r3, h3⟩ ⟨g4, rfl, r4, h4⟩ q1 q2 q4 hG
      clear mk2 mk3 hHeld
      refine pure_ (i := 16) (N := some 22) (v := ?_) (a' := ?_) #[true, true, true, true, true, true, true, true, true, true, true, true, true, true, true, true, true, false, false] rfl rfl (by kernel_rfl) (fun _ _ _ h => h) (Or.inl ⟨by rfl, ?_⟩) ?_ ?_; rotate_left; (intro w'; go_simp; with_reducible rfl); rotate_left; (simp only [Act.put, List.setIfInBounds_toArray, List.set_cons_zero, List.set_cons_succ, i64_w, i32_w]; rfl)
      refine one_ (i := 17) (N := some 5) #[true, true, true, true, true, true, true, true, true, true, true, true, true, true, true, true, true, true, false] rfl rfl (by kernel_rfl) (by decide) (fun K hK => ?_)
      refine event_step (v := .pointer (some ⟨W.heap.size, 0, none⟩)) (w1 := W.alloc (.cells #[.int .i64 0, .int .i64 0, .slice none 0 0, .slice none 0 0, .slice none 0 0] 52)) (by rfl) (by first | (go_simp; done) | (go_simp; rfl)) ?_
      have hG5 : Below w3.heap.size w3 (W.alloc (.cells #[.int .i64 0, .int .i64 0, .slice none 0 0, .slice none 0 0, .slice none 0 0] 52)) := below_step hG (below_alloc (Below.refl _ _) _)
      have h25 := blk_alloc h2 (.cells #[.int .i64 0, .int .i64 0, .slice none 0 0, .slice none 0 0, .slice none 0 0] 52)
      have h35 := blk_alloc h3 (.cells #[.int .i64 0, .int .i64 0, .slice none 0 0, .slice none 0 0, .slice none 0 0] 52)
      have h45 := blk_alloc h4 (.cells #[.int .i64 0, .int .i64 0, .slice none 0 0, .slice none 0 0, .slice none 0 0] 52)
      have h5 := blk_new W (.cells #[.int .i64 0, .int .i64 0, .slice none 0 0, .slice none 0 0, .slice none 0 0] 52)
      have q3 : g2 ≠ W.heap.size := by have := blk_lt h2; omega
      have q5 : g3 ≠ W.heap.size := by have := blk_lt h3; omega
      have q6 : g4 ≠ W.heap.size := by have := blk_lt h4; omega
      have r5 : w3.heap.size ≤ W.heap.size := hG.size
      clear h2 h3 h4 hG
      generalize W.heap.size = g5 at h5 q3 q5 q6 r5 ⊢
      generalize W.alloc (.cells #[.int .i64 0, .int .i64 0, .slice none 0 0, .slice none 0 0, .slice none 0 0] 52) = W5 at h25 h35 h45 h5 hG5 ⊢
      obtain ⟨W, hW⟩ : ∃ W', W' = W5 := ⟨W5, rfl⟩
      subst hW
      have h2 := h25
      have h3 := h35
      have h4 := h45
      have hG := hG5
      clear h25 h35 h45 hG5
      refine hK.out _ _ ⟨(hG.cell (World.block_lt_of_cell? _ _ k0)).trans k0, (hG.cell (World.block_lt_of_cell? _ _ k1)).trans k1, (hG.cell (World.block_lt_of_cell? _ _ k2)).trans k2, (hG.cell (World.block_lt_of_cell? _ _ k3)).trans k3, (hG.cell (World.block_lt_of_cell? _ _ k4)).trans k4⟩ (fun _ => ?_)
      clear hK K
      refine norm_ (a' := ?_) ?_ ?_
      rotate_left
      · show Act.put _ (some 5) _ = _
        simp only [Act.put, List.setIfInBounds_toArray, List.set_cons_zero, List.set_cons_succ, i64_w, i32_w]
        rfl
      have n5 : ga ≠ g5 := by have := LA3; omega
      have m5 : g5 ≠ ga := fun h => n5 h.symm
      have c0 : W.cell? ⟨g5, 0, none⟩ = some (.int .i64 0) := (blk_cell h5 0).trans rfl
      have c1 : W.cell? ⟨g5, 1, none⟩ = some (.int .i64 0) := (blk_cell h5 1).trans rfl
      have c2' : W.cell? ⟨g5, 2, none⟩ = some (.slice none 0 0) := (blk_cell h5 2).trans rfl
      have c3' : W.cell? ⟨g5, 3, none⟩ = some (.slice none 0 0) := (blk_cell h5 3).trans rfl
      have c4' : W.cell? ⟨g5, 4, none⟩ = some (.slice none 0 0) := (blk_cell h5 4).trans rfl
      have f0 := blk_frozen h5 0
      have f1 := blk_frozen h5 1
      have f2 := blk_frozen h5 2
      have f3 := blk_frozen h5 3
      have f4 := blk_frozen h5 4
      refine last_ (i := 18) (N := none) #[true, true, true, true, true, true, true, true, true, true, true, true, true, true, true, true, true, true, true] rfl rfl (by kernel_rfl) (by decide) (fun K hK => ?_)
      refine skip_ (w1 := ?_) (by rfl) rfl ?_ ?_
      rotate_left
      · go_simp
        rfl
      refine hK.out _ _ ?_
      refine done_ (by kernel_rfl) ?_
      clear hK K
      go_wp2_with fail
      go_meet
      refine ⟨g2, g3, g4, g5, rfl, ⟨q1, q2, q4, ?_, ?_, ?_, r2, r3, r4, r5⟩, ⟨?_, ?_, ?_⟩⟩
      · exact fun h => q3 h.symm
      · exact fun h => q5 h.symm
      · exact fun h => q6 h.symm
      all_goals (obtain ⟨p1, p2, p3⟩ := wv_put5 h5 (.int .i64 X) (.int .i64 Y) (.slice (some ⟨g2, 0, none⟩) N N) (.slice (some ⟨g3, 0, none⟩) M M) (.slice (some ⟨g4, 0, none⟩) M M))
      · exact ⟨(p2 _ q3).trans h2, (p2 _ q5).trans h3, (p2 _ q6).trans h4, fun k hk _ _ _ => rfl, Nat.le_refl _, below_step B3.out (p3 hG r5)⟩
      · exact p1
      · exact p3 hG r5
  case rest =>
    obtain ⟨g2, g3, g4, g5, rfl, Q, F⟩ := hcut
    have BA4 := Aside0.mk (blk_below BA3.out F.out.2.2)
    have BB4 := Aside0.mk (blk_below BB3.out F.out.2.2)
    have BR4 := Aside0.mk (blk_below BR.out F.out.2.2)
    have B54 := Aside0.mk F.out.2.1
    have HF4 := Aside0.mk F.out.1
    have e2 : w.heap.size ≤ g2 := Nat.le_trans B3.out.size Q.out.2.2.2.2.2.2.1
    have e3 : w.heap.size ≤ g3 := Nat.le_trans B3.out.size Q.out.2.2.2.2.2.2.2.1
    have e4 : w.heap.size ≤ g4 := Nat.le_trans B3.out.size Q.out.2.2.2.2.2.2.2.2.1
    have n23 : g2 ≠ g3 := Q.out.1
    have n24 : g2 ≠ g4 := Q.out.2.1
    have n34 : g3 ≠ g4 := Q.out.2.2.1
    have n52 : g5 ≠ g2 := Q.out.2.2.2.1
    have n53 : g5 ≠ g3 := Q.out.2.2.2.2.1
    have n54 : g5 ≠ g4 := Q.out.2.2.2.2.2.1
    have gt2 : w3.heap.size ≤ g2 := Q.out.2.2.2.2.2.2.1
    have gt3 : w3.heap.size ≤ g3 := Q.out.2.2.2.2.2.2.2.1
    have gt4 : w3.heap.size ≤ g4 := Q.out.2.2.2.2.2.2.2.2.1
    have gt5 : w3.heap.size ≤ g5 := Q.out.2.2.2.2.2.2.2.2.2
    have hz4 : w.heap.size ≤ wc.heap.size := HF4.out.bel.size
    clear Q F BA3 BB3 BR mk2 mk3
    have k50 : wc.cell? ⟨g5, 0, none⟩ = some (.int .i64 X) := (blk_cell B54.out 0).trans rfl
    have k51 : wc.cell? ⟨g5, 1, none⟩ = some (.int .i64 Y) := (blk_cell B54.out 1).trans rfl
    have k52 : wc.cell? ⟨g5, 2, none⟩ = some (.slice (some ⟨g2, 0, none⟩) N N) := (blk_cell B54.out 2).trans rfl
    have k53 : wc.cell? ⟨g5, 3, none⟩ = some (.slice (some ⟨g3, 0, none⟩) M M) := (blk_cell B54.out 3).trans rfl
    have k54 : wc.cell? ⟨g5, 4, none⟩ = some (.slice (some ⟨g4, 0, none⟩) M M) := (blk_cell B54.out 4).trans rfl
    have k20 : wc.cell? ⟨ga, 0, none⟩ = some (.int .i64 X) := (blk_cell BA4.out 0).trans rfl
    have k21 : wc.cell? ⟨ga, 1, none⟩ = some (.int .i64 Y) := (blk_cell BA4.out 1).trans rfl
    have k22 : wc.cell? ⟨ga, 2, none⟩ = some (.slice (some a2) N c2) := (blk_cell BA4.out 2).trans rfl
    have k23 : wc.cell? ⟨ga, 3, none⟩ = some (.slice (some a3) M c3) := (blk_cell BA4.out 3).trans rfl
    have k24 : wc.cell? ⟨ga, 4, none⟩ = some (.slice (some a4) M c4) := (blk_cell BA4.out 4).trans rfl
    go_wp2_with (first
      | (go_at_call 74; (with_reducible refine (wv_field0 w _ g2 g3 g4 (List.replicate N 0) (List.replicate M 0) (List.replicate M 0) l2 l3 l4 a2 a3 a4 c2 c3 c4 X V H N M Y X Y HF4.out hz4 e2 e3 e4 n23 n24 n34 S2.out S3.out S4.out (by simp) (by simp) (by simp) HX.out (by rw [← HY.out]; exact HN.out) HM.out hV hH hmax).mono ?_); rintro e w5 ⟨rfl, hF⟩; have HF5 := Aside0.mk (WvF.own hF); have BB5 := Aside0.mk ((hF.2.2.2.1 gb (blk_lt BB4.out) (by omega) (by omega) (by omega)).trans BB4.out); have BR5 := Aside0.mk ((hF.2.2.2.1 gr (blk_lt BR4.out) (by omega) (by omega) (by omega)).trans BR4.out); have B55 := Aside0.mk ((hF.2.2.2.1 g5 (blk_lt B54.out) n52 n53 n54).trans B54.out); have hz5 : w.heap.size ≤ w5.heap.size := Nat.le_trans hz4 hF.2.2.2.2.1; clear hF k50 k51 k52 k53 k54 k20 k21 k22 k23 k24; have k50 : w5.cell? ⟨g5, 0, none⟩ = some (.int .i64 X) := (blk_cell B55.out 0).trans rfl; have k51 : w5.cell? ⟨g5, 1, none⟩ = some (.int .i64 Y) := (blk_cell B55.out 1).trans rfl; have k52 : w5.cell? ⟨g5, 2, none⟩ = some (.slice (some ⟨g2, 0, none⟩) N N) := (blk_cell B55.out 2).trans rfl; have k53 : w5.cell? ⟨g5, 3, none⟩ = some (.slice (some ⟨g3, 0, none⟩) M M) := (blk_cell B55.out 3).trans rfl; have k54 : w5.cell? ⟨g5, 4, none⟩ = some (.slice (some ⟨g4, 0, none⟩) M M) := (blk_cell B55.out 4).trans rfl; have k30 : w5.cell? ⟨gb, 0, none⟩ = some (.int .i64 x') := (blk_cell BB5.out 0).trans rfl; have k31 : w5.cell? ⟨gb, 1, none⟩ = some (.int .i64 y') := (blk_cell BB5.out 1).trans rfl; have k32 : w5.cell? ⟨gb, 2, none⟩ = some (.slice (some b2) N d2) := (blk_cell BB5.out 2).trans rfl; have k33 : w5.cell? ⟨gb, 3, none⟩ = some (.slice (some b3) M d3) := (blk_cell BB5.out 3).trans rfl; have k34 : w5.cell? ⟨gb, 4, none⟩ = some (.slice (some b4) M d4) := (blk_cell BB5.out 4).trans rfl)
      | (go_at_call 74; (with_reducible refine (wv_field1 w _ g2 g3 g4 (wvMix X 0 N (List.replicate N 0) l2) (wvMix V 0 M (List.replicate M 0) l3) (wvMix V 0 M (List.replicate M 0) l4) m2 m3 m4 b2 b3 b4 d2 d3 d4 X V H N M Y x' y' HF5.out hz5 e2 e3 e4 n23 n24 n34 T2.out T3.out T4.out (by simp [wvMix_len]) (by simp [wvMix_len]) (by simp [wvMix_len]) HX.out (by rw [← HY.out]; exact HN.out) HM.out hV hH hmax).mono ?_); rintro e w6 ⟨rfl, hF⟩; have HF6 := Aside0.mk hF; have BR6 := Aside0.mk ((hF.2.2.2.1 gr (blk_lt BR5.out) (by omega) (by omega) (by omega)).trans BR5.out); have B56 := Aside0.mk ((hF.2.2.2.1 g5 (blk_lt B55.out) n52 n53 n54).trans B55.out); clear hF k50 k51 k52 k53 k54 k30 k31 k32 k33 k34; have k50 : w6.cell? ⟨g5, 0, none⟩ = some (.int .i64 X) := (blk_cell B56.out 0).trans rfl; have k51 : w6.cell? ⟨g5, 1, none⟩ = some (.int .i64 Y) := (blk_cell B56.out 1).trans rfl; have k52 : w6.cell? ⟨g5, 2, none⟩ = some (.slice (some ⟨g2, 0, none⟩) N N) := (blk_cell B56.out 2).trans rfl; have k53 : w6.cell? ⟨g5, 3, none⟩ = some (.slice (some ⟨g3, 0, none⟩) M M) := (blk_cell B56.out 3).trans rfl; have k54 : w6.cell? ⟨g5, 4, none⟩ = some (.slice (some ⟨g4, 0, none⟩) M M) := (blk_cell B56.out 4).trans rfl; have kr0 : w6.cell? ⟨gr, 0, none⟩ = some (.int .i64 0) := (blk_cell BR6.out 0).trans rfl; have kr1 : w6.cell? ⟨gr, 1, none⟩ = some (.int .i64 0) := (blk_cell BR6.out 1).trans rfl; have kr2 : w6.cell? ⟨gr, 2, none⟩ = some (.slice none 0 0) := (blk_cell BR6.out 2).trans rfl; have kr3 : w6.cell? ⟨gr, 3, none⟩ = some (.slice none 0 0) := (blk_cell BR6.out 3).trans rfl; have kr4 : w6.cell? ⟨gr, 4, none⟩ = some (.slice none 0 0) := (blk_cell BR6.out 4).trans rfl; have fr0 := blk_frozen BR6.out 0; have fr1 := blk_frozen BR6.out 1; have fr2 := blk_frozen BR6.out 2; have fr3 := blk_frozen BR6.out 3; have fr4 := blk_frozen BR6.out 4))
    have ngr2 : gr ≠ g2 := by omega
    have ngr3 : gr ≠ g3 := by omega
    have ngr4 : gr ≠ g4 := by omega
    obtain ⟨p1, p2, p3⟩ := wv_put5 BR6.out (.int .i64 X) (.int .i64 Y) (.slice (some ⟨g2, 0, none⟩) N N) (.slice (some ⟨g3, 0, none⟩) M M) (.slice (some ⟨g4, 0, none⟩) M M)
    refine bodyPost_ret (results_cell_row rfl _ _ gr 52 #[.int .i64 X, .int .i64 Y, .slice (some ⟨g2, 0, none⟩) N N, .slice (some ⟨g3, 0, none⟩) M M, .slice (some ⟨g4, 0, none⟩) M M] (0, 0) _ rfl p1 Try.underlying52 rfl (by kernel_rfl)) rfl ?_
    have j2 : wvMix X 1 N (wvMix X 0 N (List.replicate N 0) l2) m2 = wvJoin X l2 m2 := wv_both X N _ _ _ (by simp) S2.out.len T2.out.len
    have j3 : wvMix V 1 M (wvMix V 0 M (List.replicate M 0) l3) m3 = wvJoin V l3 m3 := wv_both V M _ _ _ (by simp) S3.out.len T3.out.len
    have j4 : wvMix V 1 M (wvMix V 0 M (List.replicate M 0) l4) m4 = wvJoin V l4 m4 := wv_both V M _ _ _ (by simp) S4.out.len T4.out.len
    refine ⟨g2, g3, g4, rfl, n23, n24, n34, e2, e3, e4, ?_, ?_, ?_, p3 HF6.out.bel ER⟩
    · rw [p2 _ (Ne.symm ngr2), ← j2]; exact HF6.out.b2
    · rw [p2 _ (Ne.symm ngr3), ← j3]; exact HF6.out.b3
    · rw [p2 _ (Ne.symm ngr4), ← j4]; exact HF6.out.b4
theorem cadence_woven.calls (a0_0 : Int) (a0_1 : Int) (A0_2 : Option Addr) (c0_2 : Nat) (l0_2 : List Int) (A0_3 : Option Addr) (c0_3 : Nat) (l0_3 : List Int) (A0_4 : Option Addr) (c0_4 : Nat) (l0_4 : List Int) (a1_0 : Int) (a1_1 : Int) (A1_2 : Option Addr) (c1_2 : Nat) (l1_2 : List Int) (A1_3 : Option Addr) (c1_3 : Nat) (l1_3 : List Int) (A1_4 : Option Addr) (c1_4 : Nat) (l1_4 : List Int) (r1 : Int) (r2 : Int) (r3 : List Int) (r4 : List Int) (r5 : List Int) (w : World) (hr0_2 : Kd.C (Kd.int .u8) w A0_2 l0_2.length l0_2) (hc0_2 : l0_2.length ≤ c0_2) (hr0_3 : Kd.C (Kd.int .u8) w A0_3 l0_3.length l0_3) (hc0_3 : l0_3.length ≤ c0_3) (hr0_4 : Kd.C (Kd.int .u8) w A0_4 l0_4.length l0_4) (hc0_4 : l0_4.length ≤ c0_4) (hr1_2 : Kd.C (Kd.int .u8) w A1_2 l1_2.length l1_2) (hc1_2 : l1_2.length ≤ c1_2) (hr1_3 : Kd.C (Kd.int .u8) w A1_3 l1_3.length l1_3) (hc1_3 : l1_3.length ≤ c1_3) (hr1_4 : Kd.C (Kd.int .u8) w A1_4 l1_4.length l1_4) (hc1_4 : l1_4.length ≤ c1_4) (h : cadence_woven.f a0_0 a0_1 l0_2 l0_3 l0_4 a1_0 a1_1 l1_2 l1_3 l1_4 = some (r1, r2, r3, r4, r5)) :
    Calls Try.prog 62 #[.agg #[.int .i64 a0_0, .int .i64 a0_1, .slice A0_2 l0_2.length c0_2, .slice A0_3 l0_3.length c0_3, .slice A0_4 l0_4.length c0_4], .agg #[.int .i64 a1_0, .int .i64 a1_1, .slice A1_2 l1_2.length c1_2, .slice A1_3 l1_3.length c1_3, .slice A1_4 l1_4.length c1_4]] w fun e w' => ∃ v2_ v3_ v4_ : Value, e = .returned (.agg #[.int .i64 r1, .int .i64 r2, v2_, v3_, v4_]) ∧ Kd.R (Kd.int .u8) 5 w' w.heap.size (fun k_ => some k_ ≠ (v3_ : Value).ownBlock ∧ some k_ ≠ (v4_ : Value).ownBlock) v2_ r3 ∧ Kd.R (Kd.int .u8) 5 w' w.heap.size (fun k_ => some k_ ≠ (v2_ : Value).ownBlock ∧ some k_ ≠ (v4_ : Value).ownBlock) v3_ r4 ∧ Kd.R (Kd.int .u8) 5 w' w.heap.size (fun k_ => some k_ ≠ (v2_ : Value).ownBlock ∧ some k_ ≠ (v3_ : Value).ownBlock) v4_ r5 ∧ Below w.heap.size w w' := by
  unfold cadence_woven.f at h
  by_cases c : wvFits a0_0 a0_1 l0_2 l0_3 l0_4 l1_2 l1_3 l1_4 = true
  · rw [if_pos c] at h
    simp only [Option.some.injEq, Prod.mk.injEq] at h
    obtain ⟨rfl, rfl, rfl, rfl, rfl⟩ := h
    have c := of_decide_eq_true c
    obtain ⟨h1, h2, h3, h4, h5, h6, e2, e3, e4, f2, f3, f4⟩ := c
    obtain ⟨V, hV⟩ : ∃ V : Nat, a0_0 = ((2 * V : Nat) : Int) := ⟨(a0_0 / 2).toNat, by omega⟩
    obtain ⟨H, hH⟩ : ∃ H : Nat, a0_1 = ((2 * H : Nat) : Int) := ⟨(a0_1 / 2).toNat, by omega⟩
    have hV0 : 0 < V := by omega
    have hH0 : 0 < H := by omega
    have hV1 : V ≤ 32768 := by omega
    have hH1 : H ≤ 32768 := by omega
    subst hV
    subst hH
    have v2 : ((2 * V : Nat) : Int) / 2 = (V : Int) := by omega
    have v3 : ((2 * H : Nat) : Int) / 2 = (H : Int) := by omega
    rw [v2, v3, ← Int.natCast_mul] at e3 e4
    rw [← Int.natCast_mul] at e2
    have e2 : l0_2.length = 2 * V * (2 * H) := by omega
    have e3 : l0_3.length = V * H := by omega
    have e4 : l0_4.length = V * H := by omega
    have p2 : 0 < V * H := Nat.mul_pos hV0 hH0
    have p4 : 2 * V * (2 * H) = 4 * (V * H) := by rw [Nat.mul_mul_mul_comm]
    have p3 : V * H ≤ 32768 * 32768 := Nat.mul_le_mul hV1 hH1
    obtain ⟨a2, rfl, s2⟩ := wv_src_of hr0_2 (by omega) hc0_2
    obtain ⟨a3, rfl, s3⟩ := wv_src_of hr0_3 (by omega) hc0_3
    obtain ⟨a4, rfl, s4⟩ := wv_src_of hr0_4 (by omega) hc0_4
    obtain ⟨b2, rfl, t2⟩ := wv_src_of hr1_2 (by omega) hc1_2
    obtain ⟨b3, rfl, t3⟩ := wv_src_of hr1_3 (by omega) hc1_3
    obtain ⟨b4, rfl, t4⟩ := wv_src_of hr1_4 (by omega) hc1_4
    rw [v2, Int.toNat_natCast, Int.toNat_natCast]
    rw [f2] at t2
    rw [e3] at s3
    rw [f3, e3] at t3
    rw [e4] at s4
    rw [f4, e4] at t4
    rw [f2, f3, f4, e3, e4]
    refine (wv_woven w (2 * V) V (2 * H) H l0_2.length (V * H) a1_0 a1_1 l0_2 l0_3 l0_4 l1_2 l1_3 l1_4 a2 a3 a4 b2 b3 b4 c0_2 c0_3 c0_4 c1_2 c1_3 c1_4 s2 s3 s4 t2 t3 t4 rfl rfl e2 rfl hV0 hH0 (by omega)).mono ?_
    rintro e w' ⟨g2, g3, g4, rfl, n23, n24, n34, q2, q3, q4, b2, b3, b4, hb⟩
    refine ⟨_, _, _, rfl, wv_own b2 (by simp [wvJoin]) q2 (by unfold maxLen; omega) _ ?_, wv_own b3 (by simp [wvJoin]; omega) q3 (by unfold maxLen; omega) _ ?_, wv_own b4 (by simp [wvJoin]; omega) q4 (by unfold maxLen; omega) _ ?_, hb⟩
    · simp [Value.ownBlock]; exact ⟨n23, n24⟩
    · simp [Value.ownBlock]; exact ⟨Ne.symm n23, n34⟩
    · simp [Value.ownBlock]; exact ⟨Ne.symm n24, Ne.symm n34⟩
  · rw [if_neg c] at h
    cases h


end Go.Proofs.Ytcofjbbflcnaaaa.P
