/- For every number and rates Weave and Mixed return what the reference's return. No condition of its own. -/
import Derived.Test.YtcofjbbflcnaaaaPx14
import Derived.Test.YtcofjbbflcnaaaaCadW
namespace Go.Proofs.Ytcofjbbflcnaaaa.Pure
open Go.RowKit Go.Proofs.Ytcofjbbflcnaaaa.P Go.Proofs.YtcofjbbflcnaaaaW.PrintWords Go.Proofs.YtcofjbbflcnaaaaW.PrintLast
set_option linter.unusedVariables false

theorem weaveR_length (n fn fd vn vd : Int) : (weaveR n fn fd vn vd).1.length ≤ 256 := by
  unfold weaveR
  split
  · simp
  · split
    · simp
    · simp only [WW, List.length_map, List.length_range]; omega

theorem CadenceWeaves : cutroomlaw20_CadenceWeaves.Pure := by
  intro n fn fd vn vd hn ha hb hc hd
  have hl := weaveR_length n fn fd vn vd
  refine Ev.rounds (g := fun k => cutroomlaw20_CadenceWeaves.f k n fn fd vn vd) ?_
  unfold cutroomlaw20_CadenceWeaves.f
  refine Ev.bind (weave_ev n fn fd vn vd hn ha hb hc hd) ?_
  refine Ev.bind (ref_weave_ev hn) ?_
  simp only [if_true]
  refine Ev.bind (sameWoven_ev _ (by omega)) ?_
  simp only [if_true]
  refine Ev.bind (mixed_ev _ (by omega)) ?_
  refine Ev.bind (ref_mixed_ev _ (by omega)) ?_
  have := mixFrom_length (weaveR n fn fd vn vd).1 (weaveR n fn fd vn vd).1.length 0
  refine Ev.bind (sameInts_ev _ (by omega)) ?_
  simp only [if_true]
  refine Ev.bind awake_ev ?_
  exact Ev.now _

end Go.Proofs.Ytcofjbbflcnaaaa.Pure
