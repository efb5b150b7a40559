-- Written by this session's own program (wip/tools/myprint.py), which runs the kit's print with turns of its own: not a text of the kit's print.sh.
import Derived.Test.YtcofjbbflcnaaaaPx0
import Derived.Test.YtcofjbbflcnaaaaPx20
namespace Go.Proofs.Ytcofjbbflcnaaaa.P
open Go.RowKit Go.Proofs.YtcofjbbflcnaaaaW.PrintWords Go.Proofs.YtcofjbbflcnaaaaW.PrintLast Go.Proofs.YtcofjbbflcnaaaaW.PrintMore
attribute [local go_sem] max2_int min2_int max_two min_two max_three min_three max_four min_four   -- for this text's walks alone
set_option linter.unusedVariables false
set_option linter.unusedSimpArgs false

/-! ### cadence_telecine: function 53 (by hand) -/
def cadence_telecine.f (k : Nat) (a0_0 : Int) (a0_1 : Int) (a1_0 : Int) (a1_1 : Int) : Option (Bool) := (cadence_Usable.f k a0_0 a0_1).bind fun t143 => (if t143 = true then ((cadence_Usable.f k a1_0 a1_1).bind fun t144 => (if t144 = true then (if (wrap64 (a1_0 * a0_1)) ≥ (wrap64 (a0_0 * a1_1)) then (some (decide ((wrap64 (2 * (wrap64 (a1_0 * a0_1)))) ≤ (wrap64 (3 * (wrap64 (a0_0 * a1_1))))))) else (some false)) else (some false))) else (some false))
theorem cadence_telecine.mono : ∀ a0 a1 a2 a3 k, LeO (cadence_telecine.f k a0 a1 a2 a3) (cadence_telecine.f (k + 1) a0 a1 a2 a3) := by
  intro a0 a1 a2 a3 k
  unfold cadence_telecine.f
  refine LeO.bind (cadence_Usable.mono _ _ _) (fun _ => ?_)
  refine LeO.ite ?_ (LeO.refl _)
  refine LeO.bind (cadence_Usable.mono _ _ _) (fun _ => ?_)
  exact LeO.refl _
set_option maxHeartbeats 4000000 in
set_option maxRecDepth 100000 in
theorem cadence_telecine.calls (k : Nat) (a b c d : Int) (r : Bool) (w : World) (h : cadence_telecine.f k a b c d = some r) :
    Calls Try.prog 53 #[.agg #[.int .i64 a, .int .i64 b], .agg #[.int .i64 c, .int .i64 d]] w fun e w' => e = .returned (.bool r) ∧ Below w.heap.size w w' := by
  unfold cadence_telecine.f at h
  obtain ⟨u, h1, h⟩ := Option.bind_eq_some_iff.mp h
  have H1 := Aside0.mk h1
  clear h1
  have B1 : Aside0 (Below w.heap.size w ((w.alloc (.cells #[.int .i64 a, .int .i64 b] 23)).alloc (.cells #[.int .i64 c, .int .i64 d] 23))) := ⟨below_alloc (below_alloc (Below.refl _ _) _) _⟩
  have K1 : Aside0 (((w.alloc (.cells #[.int .i64 a, .int .i64 b] 23)).alloc (.cells #[.int .i64 c, .int .i64 d] 23)).heap[w.heap.size]? = some (.cells #[.int .i64 a, .int .i64 b] 23 (0, 0))) := ⟨blk_alloc (blk_new w _) _⟩
  have K2 : Aside0 (((w.alloc (.cells #[.int .i64 a, .int .i64 b] 23)).alloc (.cells #[.int .i64 c, .int .i64 d] 23)).heap[(w.alloc (.cells #[.int .i64 a, .int .i64 b] 23)).heap.size]? = some (.cells #[.int .i64 c, .int .i64 d] 23 (0, 0))) := ⟨blk_new _ _⟩
  have hz : (w.alloc (.cells #[.int .i64 a, .int .i64 b] 23)).heap.size = w.heap.size + 1 := Array.size_push _
  rw [hz] at K2
  clear hz
  cases u with
  | false =>
    rw [if_neg (by decide)] at h
    obtain rfl := Option.some.inj h
    clear h
    go_enter Try.func53, Try.ntmps53
    go_wp2_with (go_at_call 19; refine (cadence_Usable.calls k a b false _ H1.out).mono ?_; rintro e w1 ⟨rfl, hb⟩; have B2 := Aside0.mk (below_step B1.out hb); clear hb)
    go_ret
    exact ⟨rfl, B2.out⟩
  | true =>
    rw [if_pos rfl] at h
    obtain ⟨v, h2, h⟩ := Option.bind_eq_some_iff.mp h
    have H2 := Aside0.mk h2
    clear h2
    have T1 := Aside0.mk True.intro
    cases v with
    | false =>
      rw [if_neg (by decide)] at h
      obtain rfl := Option.some.inj h
      clear h
      go_enter Try.func53, Try.ntmps53
      go_wp2_with (first
        | (go_at_call 19; have t_ := T1; clear T1; refine (cadence_Usable.calls k a b true _ H1.out).mono ?_; rintro e w1 ⟨rfl, hb⟩; have B2 := Aside0.mk (below_step B1.out hb); have k20 : w1.cell? ⟨w.heap.size + 1, 0, none⟩ = some (.int .i64 c) := (blk_cell (blk_below K2.out hb) 0).trans rfl; have k21 : w1.cell? ⟨w.heap.size + 1, 1, none⟩ = some (.int .i64 d) := (blk_cell (blk_below K2.out hb) 1).trans rfl; clear hb)
        | (go_at_call 19; refine (cadence_Usable.calls k c d false _ H2.out).mono ?_; rintro e w2 ⟨rfl, hb⟩; have B3 := Aside0.mk (below_step B2.out hb); clear hb))
      go_ret
      exact ⟨rfl, B3.out⟩
    | true =>
      rw [if_pos rfl] at h
      by_cases c1 : wrap64 (c * b) ≥ wrap64 (a * d)
      · rw [if_pos c1] at h
        obtain rfl := Option.some.inj h
        have f1 : decide (wrap64 (c * b) ≥ wrap64 (a * d)) = true := decide_eq_true c1
        have f2 : decide (wrap64 (a * d) ≤ wrap64 (c * b)) = true := f1
        clear h c1
        go_enter Try.func53, Try.ntmps53
        go_upto_region 3 with (first
          | (go_at_call 19; have t_ := T1; clear T1; refine (cadence_Usable.calls k a b true _ H1.out).mono ?_; rintro e w1 ⟨rfl, hb⟩; have B2 := Aside0.mk (below_step B1.out hb); have K3 := Aside0.mk (blk_below K1.out hb); have K4 := Aside0.mk (blk_below K2.out hb); have k20 : w1.cell? ⟨w.heap.size + 1, 0, none⟩ = some (.int .i64 c) := (blk_cell K4.out 0).trans rfl; have k21 : w1.cell? ⟨w.heap.size + 1, 1, none⟩ = some (.int .i64 d) := (blk_cell K4.out 1).trans rfl; clear hb)
          | (go_at_call 19; refine (cadence_Usable.calls k c d true _ H2.out).mono ?_; rintro e w2 ⟨rfl, hb⟩; have B3 := Aside0.mk (below_step B2.out hb); have k30 : w2.cell? ⟨w.heap.size, 0, none⟩ = some (.int .i64 a) := (blk_cell (blk_below K3.out hb) 0).trans rfl; have k31 : w2.cell? ⟨w.heap.size, 1, none⟩ = some (.int .i64 b) := (blk_cell (blk_below K3.out hb) 1).trans rfl; have k40 : w2.cell? ⟨w.heap.size + 1, 0, none⟩ = some (.int .i64 c) := (blk_cell (blk_below K4.out hb) 0).trans rfl; have k41 : w2.cell? ⟨w.heap.size + 1, 1, none⟩ = some (.int .i64 d) := (blk_cell (blk_below K4.out hb) 1).trans rfl; clear hb k20 k21))
        go_quiet (fail)
        go_wp2
        go_ret
        exact ⟨by first | rfl | simp only [i64_w], pw_below_drewN B3.out _⟩
      · rw [if_neg c1] at h
        obtain rfl := Option.some.inj h
        have f1 : decide (wrap64 (c * b) ≥ wrap64 (a * d)) = false := decide_eq_false c1
        have f2 : decide (wrap64 (a * d) ≤ wrap64 (c * b)) = false := f1
        clear h c1
        go_enter Try.func53, Try.ntmps53
        go_upto_region 3 with (first
          | (go_at_call 19; have t_ := T1; clear T1; refine (cadence_Usable.calls k a b true _ H1.out).mono ?_; rintro e w1 ⟨rfl, hb⟩; have B2 := Aside0.mk (below_step B1.out hb); have K3 := Aside0.mk (blk_below K1.out hb); have K4 := Aside0.mk (blk_below K2.out hb); have k20 : w1.cell? ⟨w.heap.size + 1, 0, none⟩ = some (.int .i64 c) := (blk_cell K4.out 0).trans rfl; have k21 : w1.cell? ⟨w.heap.size + 1, 1, none⟩ = some (.int .i64 d) := (blk_cell K4.out 1).trans rfl; clear hb)
          | (go_at_call 19; refine (cadence_Usable.calls k c d true _ H2.out).mono ?_; rintro e w2 ⟨rfl, hb⟩; have B3 := Aside0.mk (below_step B2.out hb); have k30 : w2.cell? ⟨w.heap.size, 0, none⟩ = some (.int .i64 a) := (blk_cell (blk_below K3.out hb) 0).trans rfl; have k31 : w2.cell? ⟨w.heap.size, 1, none⟩ = some (.int .i64 b) := (blk_cell (blk_below K3.out hb) 1).trans rfl; have k40 : w2.cell? ⟨w.heap.size + 1, 0, none⟩ = some (.int .i64 c) := (blk_cell (blk_below K4.out hb) 0).trans rfl; have k41 : w2.cell? ⟨w.heap.size + 1, 1, none⟩ = some (.int .i64 d) := (blk_cell (blk_below K4.out hb) 1).trans rfl; clear hb k20 k21))
        go_quiet (fail)
        go_wp2
        go_ret
        exact ⟨by rfl, pw_below_drewN B3.out _⟩


end Go.Proofs.Ytcofjbbflcnaaaa.P
