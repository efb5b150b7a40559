/- What the reference's Fields comes to. No condition of its own. -/
import Derived.Test.YtcofjbbflcnaaaaCadT
import Derived.Test.YtcofjbbflcnaaaaPx56
namespace Go.Proofs.Ytcofjbbflcnaaaa.P
open Go.RowKit Go.Proofs.YtcofjbbflcnaaaaW.PrintWords Go.Proofs.YtcofjbbflcnaaaaW.PrintLast Go.Proofs.YtcofjbbflcnaaaaW.PrintMore
set_option linter.unusedVariables false

theorem ref_fields_ev (k fn fd vn vd : Int) : Ev (fun n => cutroomref20_Fields.f n k fn fd vn vd) (fieldsR k fn fd vn vd) := by
  unfold cutroomref20_Fields.f fieldsR
  refine Ev.bind (ratios_ev fn fd vn vd) ?_
  by_cases ht : tele fn fd vn vd = true
  · simp only [ht, if_true]
    have no : ¬ (0 ≤ k ∧ k ≤ 2147483646) → Ev (fun n => cutroomref20_Fields.j0 n k true fn fd vn vd) (if 0 ≤ k ∧ k ≤ 2147483646 then (FF fn fd vn vd (k + 1) - FF fn fd vn vd k, (0 : Int)) else (0, 2)) := by
      intro h
      rw [if_neg h]
      refine Ev.step (fun k => by rw [cutroomref20_Fields.j0]) ?_
      simp only [if_true]
      exact Ev.now _
    by_cases c1 : k < 0
    · simp only [if_pos c1]; exact no (by omega)
    · by_cases c2 : k > 2147483646
      · simp only [if_neg c1, c2, decide_true]; exact no (by omega)
      · simp only [if_neg c1, c2, decide_false]
        rw [if_pos (by omega)]
        refine Ev.step (fun k => by rw [cutroomref20_Fields.j0]) ?_
        simp only [Bool.false_eq_true, if_false]
        rw [w64 (x := k + 1) (by omega) (by omega)]
        refine Ev.bind (shown_ev ht (k + 1) (by omega) (by omega)) ?_
        refine Ev.bind (shown_ev ht k (by omega) (by omega)) ?_
        have := FF_step ht k
        rw [w64 (by omega) (by omega)]
        exact Ev.now _
  · simp only [ht, Bool.false_eq_true, if_false]
    exact Ev.now _

end Go.Proofs.Ytcofjbbflcnaaaa.P
