/- What the reference's Weave, SameWoven, SameInts and both Mixed come to. No condition of its own. -/
import Derived.Test.YtcofjbbflcnaaaaCadK
import Derived.Test.YtcofjbbflcnaaaaCadT
import Derived.Test.YtcofjbbflcnaaaaPx33
import Derived.Test.YtcofjbbflcnaaaaPx34
import Derived.Test.YtcofjbbflcnaaaaPx35
import Derived.Test.YtcofjbbflcnaaaaPx36
import Derived.Test.YtcofjbbflcnaaaaPx37
namespace Go.Proofs.Ytcofjbbflcnaaaa.P
open Go.RowKit Go.Proofs.YtcofjbbflcnaaaaW.PrintWords Go.Proofs.YtcofjbbflcnaaaaW.PrintLast Go.Proofs.YtcofjbbflcnaaaaW.PrintMore
set_option linter.unusedVariables false

theorem sameWoven_l0 (ws : List S43) (hl : ws.length ≤ 4611686018427387904) : ∀ (d i : Nat), i + d = ws.length → Ev (fun k => cutroomref20_SameWoven.l0 k ws ws (i : Int)) true := by
  intro d
  induction d with
  | zero =>
    intro i hi
    refine Ev.step (fun k => by rw [cutroomref20_SameWoven.l0]) ?_
    simp only [if_neg (show ¬ (i : Int) < (ws.length : Int) by omega)]
    exact Ev.now _
  | succ d ih =>
    intro i hi
    refine Ev.step (fun k => by rw [cutroomref20_SameWoven.l0]) ?_
    simp only [if_pos (show (i : Int) < (ws.length : Int) by omega), if_pos (show (0 : Int) ≤ (i : Int) by omega), BEq.rfl, Bool.not_true, Bool.or_self, Bool.false_eq_true, if_false]
    rw [w64 (x := (i : Int) + 1) (by omega) (by omega)]
    exact ih (i + 1) (by omega)
theorem sameWoven_ev (ws : List S43) (hl : ws.length ≤ 4611686018427387904) : Ev (fun k => cutroomref20_SameWoven.f k ws ws) true := by
  unfold cutroomref20_SameWoven.f
  simp only [if_true]
  exact sameWoven_l0 ws hl ws.length 0 (by omega)

theorem sameInts_l0 (ws : List Int) (hl : ws.length ≤ 4611686018427387904) : ∀ (d i : Nat), i + d = ws.length → Ev (fun k => cutroomref20_SameInts.l0 k ws ws (i : Int)) true := by
  intro d
  induction d with
  | zero =>
    intro i hi
    refine Ev.step (fun k => by rw [cutroomref20_SameInts.l0]) ?_
    simp only [if_neg (show ¬ (i : Int) < (ws.length : Int) by omega)]
    exact Ev.now _
  | succ d ih =>
    intro i hi
    refine Ev.step (fun k => by rw [cutroomref20_SameInts.l0]) ?_
    simp only [if_pos (show (i : Int) < (ws.length : Int) by omega), if_pos (show (0 : Int) ≤ (i : Int) by omega), if_true]
    rw [w64 (x := (i : Int) + 1) (by omega) (by omega)]
    exact ih (i + 1) (by omega)
theorem sameInts_ev (ws : List Int) (hl : ws.length ≤ 4611686018427387904) : Ev (fun k => cutroomref20_SameInts.f k ws ws) true := by
  unfold cutroomref20_SameInts.f
  simp only [if_true]
  exact sameInts_l0 ws hl ws.length 0 (by omega)

/-- the indexes from i on, d of them, of frames with fields of two film frames -/
def mixFrom (ws : List S43) : Nat → Nat → List Int
  | 0, _ => []
  | d + 1, i => if (rd_T43 ws (i : Int)).f0 = (rd_T43 ws (i : Int)).f1 then mixFrom ws d (i + 1) else (i : Int) :: mixFrom ws d (i + 1)
theorem mixFrom_length (ws : List S43) : ∀ d i, (mixFrom ws d i).length ≤ d
  | 0, _ => by simp [mixFrom]
  | d + 1, i => by
    have := mixFrom_length ws d (i + 1)
    unfold mixFrom
    split
    · omega
    · simp only [List.length_cons]; omega

theorem mixed_l0 (ws : List S43) (hl : ws.length ≤ 4611686018427) : ∀ (d i : Nat) (acc : List Int), i + d = ws.length → acc.length ≤ i → Ev (fun k => cadence_Mixed.l0 k acc ws (ws.length : Int) (i : Int)) (acc ++ mixFrom ws d i) := by
  intro d
  induction d with
  | zero =>
    intro i acc hi ha
    refine Ev.step (fun k => by rw [cadence_Mixed.l0]) ?_
    simp only [if_neg (show ¬ (i : Int) < (ws.length : Int) by omega), mixFrom, List.append_nil]
    exact Ev.now _
  | succ d ih =>
    intro i acc hi ha
    refine Ev.step (fun k => by rw [cadence_Mixed.l0]) ?_
    simp only [if_pos (show (i : Int) < (ws.length : Int) by omega), if_pos (show (0 : Int) ≤ (i : Int) by omega)]
    rw [w64 (x := (i : Int) + 1) (by omega) (by omega)]
    unfold mixFrom
    by_cases c : (rd_T43 ws (i : Int)).f0 = (rd_T43 ws (i : Int)).f1
    · simp only [if_pos c]
      exact ih (i + 1) acc (by omega) (by omega)
    · simp only [if_neg c, if_pos (show acc.length < 17592186044416 by omega)]
      have := ih (i + 1) (acc ++ [(i : Int)]) (by omega) (by simp; omega)
      rw [List.append_assoc] at this
      exact this
theorem mixed_ev (ws : List S43) (hl : ws.length ≤ 4611686018427) : Ev (fun k => cadence_Mixed.f k ws) (mixFrom ws ws.length 0) := by
  unfold cadence_Mixed.f
  have := mixed_l0 ws hl ws.length 0 [] (by omega) (by simp)
  rw [List.nil_append] at this
  exact this

theorem ref_mixed_l0 (ws : List S43) (hl : ws.length ≤ 4611686018427) : ∀ (d i : Nat) (acc : List Int), i + d = ws.length → acc.length ≤ i → Ev (fun k => cutroomref20_Mixed.l0 k ws acc (i : Int)) (acc ++ mixFrom ws d i) := by
  intro d
  induction d with
  | zero =>
    intro i acc hi ha
    refine Ev.step (fun k => by rw [cutroomref20_Mixed.l0]) ?_
    simp only [if_neg (show ¬ (i : Int) < (ws.length : Int) by omega), mixFrom, List.append_nil]
    exact Ev.now _
  | succ d ih =>
    intro i acc hi ha
    refine Ev.step (fun k => by rw [cutroomref20_Mixed.l0]) ?_
    simp only [if_pos (show (i : Int) < (ws.length : Int) by omega), if_pos (show (0 : Int) ≤ (i : Int) by omega)]
    rw [w64 (x := (i : Int) + 1) (by omega) (by omega)]
    unfold mixFrom
    by_cases c : (rd_T43 ws (i : Int)).f0 = (rd_T43 ws (i : Int)).f1
    · simp only [if_pos c]
      exact ih (i + 1) acc (by omega) (by omega)
    · simp only [if_neg c, if_pos (show acc.length < 17592186044416 by omega)]
      have := ih (i + 1) (acc ++ [(i : Int)]) (by omega) (by simp; omega)
      rw [List.append_assoc] at this
      exact this
theorem ref_mixed_ev (ws : List S43) (hl : ws.length ≤ 4611686018427) : Ev (fun k => cutroomref20_Mixed.f k ws) (mixFrom ws ws.length 0) := by
  unfold cutroomref20_Mixed.f
  have := ref_mixed_l0 ws hl ws.length 0 [] (by omega) (by simp)
  rw [List.nil_append] at this
  exact this

/-! ### the reference's Weave -/
theorem fl_succ (K : Int → Int) (m : Nat) : fl K (m + 1) = fl K m ++ [K (m : Int)] := by
  unfold fl; rw [List.range_succ]; simp

section
variable {fn fd vn vd n : Int}
theorem rweave_l1 (h : tele fn fd vn vd = true) (hn : 1 ≤ n) (hn' : n ≤ 256) (k : Int) (hk : 0 ≤ k) (hkn : k ≤ n - 1) (R : List S43 × Int)
    (hnext : Ev (fun q => cutroomref20_Weave.l0 q n (fl (KF (FF fn fd vn vd) n) (FF fn fd vn vd (k + 1)).toNat) (k + 1) fn fd vn vd) R) :
    ∀ (d : Nat) (i : Int), 0 ≤ i → FF fn fd vn vd k + i + d = FF fn fd vn vd (k + 1) →
      Ev (fun q => cutroomref20_Weave.l1 q n (fl (KF (FF fn fd vn vd) n) (FF fn fd vn vd k + i).toNat) k (FF fn fd vn vd (k + 1) - FF fn fd vn vd k) i fn fd vn vd) R := by
  have b := FF_bounds h k hk
  have b1 := FF_bounds h (k + 1) (by omega)
  intro d
  induction d with
  | zero =>
    intro i hi hd
    refine Ev.step (fun q => by rw [cutroomref20_Weave.l1]) ?_
    simp only [if_neg (show ¬ i < FF fn fd vn vd (k + 1) - FF fn fd vn vd k by omega)]
    rw [show FF fn fd vn vd k + i = FF fn fd vn vd (k + 1) by omega, w64 (x := k + 1) (by omega) (by omega)]
    exact hnext
  | succ d ih =>
    intro i hi hd
    refine Ev.step (fun q => by rw [cutroomref20_Weave.l1]) ?_
    simp only [if_pos (show i < FF fn fd vn vd (k + 1) - FF fn fd vn vd k by omega), fl_length, if_pos (show (FF fn fd vn vd k + i).toNat < 17592186044416 by omega)]
    rw [w64 (x := i + 1) (by omega) (by omega)]
    have e : fl (KF (FF fn fd vn vd) n) (FF fn fd vn vd k + i).toNat ++ [k] = fl (KF (FF fn fd vn vd) n) (FF fn fd vn vd k + (i + 1)).toNat := by
      rw [show (FF fn fd vn vd k + (i + 1)).toNat = (FF fn fd vn vd k + i).toNat + 1 by omega, fl_succ]
      congr 2
      have := (KF_is (F := FF fn fd vn vd) (n := n) (f := ((FF fn fd vn vd k + i).toNat : Int)) (k := k) (fun a b hab => FF_mono h hab) (FF_zero _ _ _ _) (by omega) hk hkn).2 ⟨by omega, .inr (by omega)⟩
      exact this.symm
    rw [e]
    exact ih (i + 1) (by omega) (by omega)

theorem rweave_l2 (L : Nat) (hL : L ≤ 4096) (K : Int → Int) : ∀ (d v : Nat), v + d = L → Ev (fun q => cutroomref20_Weave.l2 q (fl K (2 * L)) ((List.range v).map fun (i : Nat) => (⟨K (2 * (i : Int)), K (2 * (i : Int) + 1)⟩ : S43)) (v : Int)) ((List.range L).map fun (i : Nat) => (⟨K (2 * (i : Int)), K (2 * (i : Int) + 1)⟩ : S43), 0) := by
  intro d
  induction d with
  | zero =>
    intro v hv
    refine Ev.step (fun q => by rw [cutroomref20_Weave.l2]) ?_
    rw [fl_length, w64 (x := 2 * (v : Int)) (by omega) (by omega)]
    simp only [if_neg (show ¬ 2 * (v : Int) < ((2 * L : Nat) : Int) by omega)]
    rw [show v = L by omega]
    exact Ev.now _
  | succ d ih =>
    intro v hv
    refine Ev.step (fun q => by rw [cutroomref20_Weave.l2]) ?_
    rw [fl_length, w64 (x := 2 * (v : Int)) (by omega) (by omega), w64 (x := 2 * (v : Int) + 1) (by omega) (by omega), w64 (x := (v : Int) + 1) (by omega) (by omega)]
    simp only [if_pos (show 2 * (v : Int) < ((2 * L : Nat) : Int) by omega), if_pos (show 0 ≤ 2 * (v : Int) by omega), if_pos (show 0 ≤ 2 * (v : Int) + 1 by omega), if_pos (show 2 * (v : Int) + 1 < ((2 * L : Nat) : Int) by omega), List.length_map, List.length_range, if_pos (show v < 8796093022208 by omega)]
    rw [rd_fl _ _ _ (by omega) (by omega), rd_fl _ _ _ (by omega) (by omega)]
    have := ih (v + 1) (by omega)
    rw [List.range_succ, List.map_append] at this
    exact this

theorem rweave_l0 (h : tele fn fd vn vd = true) (hn : 0 ≤ n) (hn' : n ≤ 256) :
    ∀ (d : Nat) (k : Int), 0 ≤ k → k + d = n → Ev (fun q => cutroomref20_Weave.l0 q n (fl (KF (FF fn fd vn vd) n) (FF fn fd vn vd k).toNat) k fn fd vn vd)
      (if 256 < (WL (FF fn fd vn vd) n : Int) then ([], 5) else (WW (FF fn fd vn vd) n, 0)) := by
  intro d
  induction d with
  | zero =>
    intro k hk hd
    obtain rfl : k = n := by omega
    have b := FF_bounds h k hk
    refine Ev.step (fun q => by rw [cutroomref20_Weave.l0]) ?_
    simp only [if_neg (show ¬ k < k by omega), fl_length]
    have j3 : Ev (fun q => cutroomref20_Weave.j3 q (fl (KF (FF fn fd vn vd) k) (2 * WL (FF fn fd vn vd) k))) (if 256 < (WL (FF fn fd vn vd) k : Int) then ([], 5) else (WW (FF fn fd vn vd) k, 0)) := by
      refine Ev.step (fun q => by rw [cutroomref20_Weave.j3]) ?_
      have hWL : (WL (FF fn fd vn vd) k : Int) = (FF fn fd vn vd k + 1) / 2 := by unfold WL; omega
      rw [fl_length, show (((2 * WL (FF fn fd vn vd) k : Nat) : Int) / 2) = (WL (FF fn fd vn vd) k : Int) by omega, w64 (x := (WL (FF fn fd vn vd) k : Int)) (by omega) (by omega)]
      by_cases c : 256 < (WL (FF fn fd vn vd) k : Int)
      · simp only [if_pos c]
        exact Ev.now _
      · simp only [if_neg c]
        have := rweave_l2 (WL (FF fn fd vn vd) k) (by omega) (KF (FF fn fd vn vd) k) (WL (FF fn fd vn vd) k) 0 (by omega)
        exact this
    by_cases c : ((FF fn fd vn vd k).toNat : Int) % 2 = 1
    · simp only [if_pos c, if_pos (show (FF fn fd vn vd k).toNat < 17592186044416 by omega)]
      rw [w64 (x := k - 1) (by omega) (by omega)]
      have hk1 : 1 ≤ k := by
        by_cases c0 : k = 0
        · subst c0; rw [FF_zero] at c; omega
        · omega
      have e : fl (KF (FF fn fd vn vd) k) (FF fn fd vn vd k).toNat ++ [k - 1] = fl (KF (FF fn fd vn vd) k) (2 * WL (FF fn fd vn vd) k) := by
        rw [show 2 * WL (FF fn fd vn vd) k = (FF fn fd vn vd k).toNat + 1 by unfold WL; omega, fl_succ]
        congr 2
        have := (KF_is (F := FF fn fd vn vd) (n := k) (f := ((FF fn fd vn vd k).toNat : Int)) (k := k - 1) (fun a b hab => FF_mono h hab) (FF_zero _ _ _ _) (by omega) (by omega) (by omega)).2 ⟨by have := FF_mono h (show k - 1 ≤ k by omega); omega, .inl rfl⟩
        exact this.symm
      rw [e]
      exact j3
    · simp only [if_neg c]
      rw [show (FF fn fd vn vd k).toNat = 2 * WL (FF fn fd vn vd) k by unfold WL; omega]
      exact j3
  | succ d ih =>
    intro k hk hd
    refine Ev.step (fun q => by rw [cutroomref20_Weave.l0]) ?_
    simp only [if_pos (show k < n by omega)]
    have b := FF_bounds h k hk
    have b1 := FF_bounds h (k + 1) (by omega)
    rw [w64 (x := k + 1) (by omega) (by omega)]
    refine Ev.bind (shown_ev h (k + 1) (by omega) (by omega)) ?_
    refine Ev.bind (shown_ev h k (by omega) (by omega)) ?_
    rw [w64 (x := FF fn fd vn vd (k + 1) - FF fn fd vn vd k) (by omega) (by omega)]
    have st := FF_step h k
    have key := rweave_l1 h (by omega) hn' k hk (by omega) _ (ih (k + 1) (by omega) (by omega)) (FF fn fd vn vd (k + 1) - FF fn fd vn vd k).toNat 0 (by omega) (by omega)
    rw [Int.add_zero] at key
    exact key

theorem ref_weave_ev (hnw : (Lit.int .i64 n).wf = true) : Ev (fun k => cutroomref20_Weave.f k n fn fd vn vd) (weaveR n fn fd vn vd) := by
  have nw := wf64 hnw
  unfold cutroomref20_Weave.f
  refine Ev.bind (ratios_ev fn fd vn vd) ?_
  by_cases ht : tele fn fd vn vd = true
  · simp only [ht, if_true]
    refine Ev.step (fun k => by rw [cutroomref20_Weave.j0]) ?_
    by_cases c0 : n < 0
    · simp only [c0, decide_true, if_true]
      rw [show weaveR n fn fd vn vd = ([], 1) by unfold weaveR; rw [if_pos (by simp; omega)]]
      exact Ev.now _
    · simp only [c0, decide_false, Bool.false_eq_true, if_false]
      by_cases c1 : n > 256
      · simp only [if_pos c1]
        rw [show weaveR n fn fd vn vd = ([], 5) by unfold weaveR; rw [if_neg (by simp [ht]; omega), if_pos (by omega)]]
        exact Ev.now _
      · simp only [if_neg c1]
        have key := rweave_l0 ht (n := n) (by omega) (by omega) n.toNat 0 (by omega) (by omega)
        rw [FF_zero] at key
        have e : weaveR n fn fd vn vd = (if 256 < (WL (FF fn fd vn vd) n : Int) then ([], 5) else (WW (FF fn fd vn vd) n, 0)) := by
          unfold weaveR
          rw [if_neg (by simp [ht]; omega)]
          by_cases c2 : 256 < (WL (FF fn fd vn vd) n : Int)
          · rw [if_pos (by omega), if_pos c2]
          · rw [if_neg (by omega), if_neg c2]
        rw [e]
        exact key
  · simp only [ht, Bool.false_eq_true, if_false]
    refine Ev.step (fun k => by rw [cutroomref20_Weave.j0]) ?_
    simp only [if_true]
    rw [show weaveR n fn fd vn vd = ([], 1) by unfold weaveR; rw [if_pos (by simp [ht])]]
    exact Ev.now _
end
end Go.Proofs.Ytcofjbbflcnaaaa.P
