/- What the reference's ratios and Shown come to. No condition of its own. -/
import Derived.Test.YtcofjbbflcnaaaaCadS
import Derived.Test.YtcofjbbflcnaaaaPx56
namespace Go.Proofs.Ytcofjbbflcnaaaa.P
open Go.RowKit Go.Proofs.YtcofjbbflcnaaaaW.PrintWords Go.Proofs.YtcofjbbflcnaaaaW.PrintLast Go.Proofs.YtcofjbbflcnaaaaW.PrintMore
set_option linter.unusedVariables false

theorem ratios_ev (fn fd vn vd : Int) : Ev (fun k => cutroomref20_ratios.f k fn fd vn vd) (tele fn fd vn vd) := by
  unfold cutroomref20_ratios.f
  refine Ev.bind (ref_usable_ev fn fd) ?_
  by_cases c1 : usable fn fd = true
  · simp only [c1, if_true]
    refine Ev.bind (ref_usable_ev vn vd) ?_
    by_cases c2 : usable vn vd = true
    · simp only [c2, if_true]
      have cr := cross c1 c2
      rw [w64 (x := vn * fd) (by omega) (by omega), w64 (x := fn * vd) (by omega) (by omega), w64 (x := 2 * (vn * fd)) (by omega) (by omega), w64 (x := 3 * (fn * vd)) (by omega) (by omega)]
      by_cases c3 : vn * fd ≥ fn * vd
      · simp only [if_pos c3]
        rw [show decide (2 * (vn * fd) ≤ 3 * (fn * vd)) = tele fn fd vn vd by unfold tele; rw [c1, c2]; simp; omega]
        exact Ev.now _
      · simp only [if_neg c3]
        rw [show tele fn fd vn vd = false by unfold tele; rw [c1, c2]; simp; omega]
        exact Ev.now _
    · simp only [c2, Bool.false_eq_true, if_false]
      rw [show tele fn fd vn vd = false by unfold tele; simp [c2]]
      exact Ev.now _
  · simp only [c1, Bool.false_eq_true, if_false]
    rw [show tele fn fd vn vd = false by unfold tele; simp [c1]]
    exact Ev.now _

theorem shown_ev {fn fd vn vd : Int} (h : tele fn fd vn vd = true) (k : Int) (hk : 0 ≤ k) (hk' : k ≤ 2147483648) : Ev (fun n => cutroomref20_Shown.f n k fn fd vn vd) (FF fn fd vn vd k) := by
  have hb := FF_bounds h k hk
  have h' := h
  rw [tele_iff] at h
  obtain ⟨c1, c2, c3, c4⟩ := h
  have cr := cross c1 c2
  have hv := usable_iff.1 c2
  have e : vd * fn = fn * vd := Int.mul_comm _ _
  have e2 : k * (2 * vn * fd) / (fn * vd) = FF fn fd vn vd k := by unfold FF; rw [e]; congr 1; grind
  have e3 : 2 * vn * fd = 2 * (vn * fd) := by grind
  unfold cutroomref20_Shown.f
  rw [w64 (x := 2 * vn) (by omega) (by omega), w64 (x := 2 * vn * fd) (by omega) (by omega), w64 (x := fn * vd) (by omega) (by omega)]
  have key := split_ev k (2 * vn * fd) (fn * vd) (by omega) (by omega) (by omega) (by omega) (by omega) (by omega) (by rw [show (k.natAbs : Int) = k by omega, e2]; omega)
  refine Ev.bind key ?_
  simp only [e2]
  exact Ev.now _

end Go.Proofs.Ytcofjbbflcnaaaa.P
