/- Blocks that a call has made: rows of bytes, an empty frame; what a make leaves, and five stores into a frame. No condition of its own. -/
import Derived.Test.YtcofjbbflcnaaaaPx0
namespace Go.Proofs.Ytcofjbbflcnaaaa.P
open Go.RowKit Go.Proofs.YtcofjbbflcnaaaaW.PrintWords Go.Proofs.YtcofjbbflcnaaaaW.PrintLast Go.Proofs.YtcofjbbflcnaaaaW.PrintMore
set_option linter.unusedVariables false
set_option linter.unusedSimpArgs false
def wvCells (l : List Int) : List Value := l.map (Value.int .u8)
theorem wvCells_len (l : List Int) : (wvCells l).length = l.length := by simp [wvCells]
theorem wv_make (N : Nat) (h : N ≤ 281474976710656) (W : World) : (Instr.makeSlice 50 (.int .i64 (N : Int)) (.int .i64 (N : Int))).run Try.prog W = .ok (.slice (some ⟨W.heap.size, 0, none⟩) N N) (W.alloc (.cells (wvCells (List.replicate N 0)).toArray 5)) := by
  obtain ⟨i0, hi, hzz⟩ := Option.map_eq_some_iff.1 info5
  simp only [Prod.mk.injEq] at hzz
  obtain ⟨hz0, hz1, hz2⟩ := hzz
  have hr := run_make (P := Try.prog) W 50 5 i0 (.int .u8 0) Try.underlying50 hi hz0 .i64 .i64 (N : Int) (N : Int) (by omega) (by omega) (by rw [hz2]; omega) (by omega)
  simp only [Int.toNat_natCast] at hr
  rw [hr, hz1, Nat.mul_one]
  have : madeCells (Value.int .u8 0).cells N = (wvCells (List.replicate N 0)).toArray := by
    apply Array.ext'
    rw [show (Value.int .u8 0).cells = #[Value.int .u8 0] from rfl, toList_madeCells_one]
    simp [wvCells]
  rw [this]
theorem wv_own {w : World} {base g N : Nat} {l : List Int} (hb : w.heap[g]? = some (.cells (wvCells l).toArray 5 (0, 0))) (hl : l.length = N) (hg : base ≤ g) (hN : N ≤ maxLen) (ok : Nat → Prop) (hok : ok g) : (Kd.int .u8).R 5 w base ok (.slice (some ⟨g, 0, none⟩) N N) l := by
  subst hl
  refine Kd.R_of_own (xs := l) ⟨by simp [encs], .inr ⟨g, l.length, _, rfl, hg, hb, Nat.le_refl _, hN, by simp [wvCells], ?_⟩⟩ (fun k hk => ?_)
  · simp [wvCells, encs, List.take_of_length_le]
  · have : g = k := by simpa [Value.ownBlock] using hk
    subst this
    exact hok
theorem wv_put5 {W : World} {g : Nat} {z0 z1 z2 z3 z4 : Value} (h : W.heap[g]? = some (.cells #[z0, z1, z2, z3, z4] 52 (0, 0))) (x0 x1 x2 x3 x4 : Value) :
    (((((W.setCell ⟨g, 0, none⟩ x0).setCell ⟨g, 1, none⟩ x1).setCell ⟨g, 2, none⟩ x2).setCell ⟨g, 3, none⟩ x3).setCell ⟨g, 4, none⟩ x4).heap[g]? = some (.cells #[x0, x1, x2, x3, x4] 52 (0, 0)) ∧
    (∀ k, k ≠ g → (((((W.setCell ⟨g, 0, none⟩ x0).setCell ⟨g, 1, none⟩ x1).setCell ⟨g, 2, none⟩ x2).setCell ⟨g, 3, none⟩ x3).setCell ⟨g, 4, none⟩ x4).heap[k]? = W.heap[k]?) ∧
    (∀ {w3 : World}, Below w3.heap.size w3 W → w3.heap.size ≤ g → Below w3.heap.size w3 (((((W.setCell ⟨g, 0, none⟩ x0).setCell ⟨g, 1, none⟩ x1).setCell ⟨g, 2, none⟩ x2).setCell ⟨g, 3, none⟩ x3).setCell ⟨g, 4, none⟩ x4)) := by
  refine ⟨blk_put (blk_put (blk_put (blk_put (blk_put h 0 x0 rfl) 1 x1 rfl) 2 x2 rfl) 3 x3 rfl) 4 x4 rfl, fun k hk => ?_, fun hb hg => below_set (below_set (below_set (below_set (below_set hb hg) hg) hg) hg) hg⟩
  rw [Below.heap_setCell _ _ _ _ (by exact hk), Below.heap_setCell _ _ _ _ (by exact hk), Below.heap_setCell _ _ _ _ (by exact hk), Below.heap_setCell _ _ _ _ (by exact hk), Below.heap_setCell _ _ _ _ (by exact hk)]
def wvBlk : Value → Nat
  | .slice (some a) _ _ => a.block
  | .pointer (some a) => a.block
  | _ => 0
/-- what a make leaves -/
def wvMade (n base : Nat) (v : Value) (W : World) : Prop := ∃ g, v = .slice (some ⟨g, 0, none⟩) n n ∧ base ≤ g ∧ W.heap[g]? = some (.cells (wvCells (List.replicate n 0)).toArray 5 (0, 0))
def wvBoxed (base : Nat) (v : Value) (W : World) : Prop := ∃ g, v = .pointer (some ⟨g, 0, none⟩) ∧ base ≤ g ∧ W.heap[g]? = some (.cells #[.int .i64 0, .int .i64 0, .slice none 0 0, .slice none 0 0, .slice none 0 0] 52 (0, 0))
theorem wvMade.lt {n base : Nat} {v : Value} {W : World} (h : wvMade n base v W) : wvBlk v < W.heap.size := by
  obtain ⟨g, rfl, _, h⟩ := h
  exact blk_lt h
theorem wvMade.below {n base : Nat} {v : Value} {W W1 : World} (h : wvMade n base v W) (hb : Below W.heap.size W W1) : wvMade n base v W1 := by
  obtain ⟨g, rfl, h1, h⟩ := h
  exact ⟨g, rfl, h1, blk_below h hb⟩
theorem wvBoxed.lt {base : Nat} {v : Value} {W : World} (h : wvBoxed base v W) : wvBlk v < W.heap.size := by
  obtain ⟨g, rfl, _, h⟩ := h
  exact blk_lt h
theorem wvBoxed.below {base : Nat} {v : Value} {W W1 : World} (h : wvBoxed base v W) (hb : Below W.heap.size W W1) : wvBoxed base v W1 := by
  obtain ⟨g, rfl, h1, h⟩ := h
  exact ⟨g, rfl, h1, blk_below h hb⟩
theorem wv_makeI (j : Int) (h0 : 0 ≤ j) (h : j.toNat ≤ 281474976710656) (W : World) : (Instr.makeSlice 50 (.int .i64 j) (.int .i64 j)).run Try.prog W = .ok (.slice (some ⟨W.heap.size, 0, none⟩) j.toNat j.toNat) (W.alloc (.cells (wvCells (List.replicate j.toNat 0)).toArray 5)) := by
  have e := wv_make j.toNat h W
  rwa [Int.toNat_of_nonneg h0] at e
end Go.Proofs.Ytcofjbbflcnaaaa.P
