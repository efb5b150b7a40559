-- Written by this session's own program (wip/tools/myprint.py), which runs the kit's print with turns of its own: not a text of the kit's print.sh.
import Derived.Test.YtdndhbfagoghfaaPx0
import Derived.Test.YtdndhbfagoghfaaPx63
namespace Go.Proofs.Ytdndhbfagoghfaa.P
open Go.RowKit Go.Proofs.YtdndhbfagoghfaaW.PrintWords Go.Proofs.YtdndhbfagoghfaaW.PrintLast Go.Proofs.YtdndhbfagoghfaaW.PrintMore
attribute [local go_sem] max2_int min2_int max_two min_two max_three min_three max_four min_four   -- for this text's walks alone
set_option linter.unusedVariables false
set_option linter.unusedSimpArgs false

/-! ### rational_abs: function 54 -/
def rational_abs.f (a0 : Int) : Option (Int) := if a0 < 0 then (some (IntKind.u64.wrap (-(IntKind.u64.wrap (a0))))) else (some (IntKind.u64.wrap (a0)))
set_option maxHeartbeats 8000000 in
set_option maxRecDepth 100000 in
theorem rational_abs.calls (a0 : Int) (r : Int) (w : World) (h : rational_abs.f a0 = some r) :
    Calls Try.prog 54 #[.int .i64 a0] w fun e w' => e = .returned (.int .u64 r) ∧ Drawn0 w w' := by
  have H : (if a0 < 0 then (some (IntKind.u64.wrap (-(IntKind.u64.wrap (a0))))) else (some (IntKind.u64.wrap (a0)))) = some r := h
  clear h
  by_cases c2 : a0 < 0
  · rw [if_pos c2] at H
    have c2b0 : decide (a0 < 0) = true := decide_eq_true c2
    clear c2
    obtain rfl := Option.some.inj H
    go_enter Try.func54, Try.ntmps54
    go_wp2
    go_ret
    exact ⟨by first | rfl | (simp; done) | (simp [*]; done), by repeat (first | exact Drawn0.refl _ | apply Drawn0.step)⟩
  · rw [if_neg c2] at H
    have c2b0 : decide (a0 < 0) = false := decide_eq_false c2
    clear c2
    obtain rfl := Option.some.inj H
    go_enter Try.func54, Try.ntmps54
    go_wp2
    go_ret
    exact ⟨by first | rfl | (simp; done) | (simp [*]; done), by repeat (first | exact Drawn0.refl _ | apply Drawn0.step)⟩

/-! ### rational_times: function 53 -/
def rational_times.f (a0 : Int) (a1 : Int) : Option (Bool × Int × Int) := (rational_abs.f a0).bind fun t616 => ((bits_Mul64.f t616 a1).bind fun bt617 => (some (decide (a0 < 0), bt617.1, bt617.2)))
set_option maxHeartbeats 8000000 in
set_option maxRecDepth 100000 in
theorem rational_times.calls (a0 : Int) (a1 : Int) (r1 : Bool) (r2 : Int) (r3 : Int) (w : World) (h : rational_times.f a0 a1 = some (r1, r2, r3)) :
    Calls Try.prog 53 #[.int .i64 a0, .int .u64 a1] w fun e w' => e = .returned (.agg #[.bool r1, .int .u64 r2, .int .u64 r3]) ∧ Below w.heap.size w w' := by
  have hu99 := Try.underlying99
  have HB := Aside0.mk (Below.refl w.heap.size w)
  have H : ((rational_abs.f a0).bind fun t616 => ((bits_Mul64.f t616 a1).bind fun bt617 => (some (decide (a0 < 0), bt617.1, bt617.2)))) = some (r1, r2, r3) := h
  clear h
  replace H := Option.bind_eq_some_iff.mp H
  obtain ⟨t616, A30, H⟩ := H
  replace H : ((bits_Mul64.f t616 a1).bind fun bt617 => (some (decide (a0 < 0), bt617.1, bt617.2))) = some (r1, r2, r3) := H
  have A3 := Aside0.mk A30
  clear A30
  replace H := Option.bind_eq_some_iff.mp H
  obtain ⟨⟨t617, t618⟩, A40, H⟩ := H
  replace H : (some (decide (a0 < 0), t617, t618)) = some (r1, r2, r3) := H
  have A4 := Aside0.mk A40
  clear A40
  simp only [Option.some.injEq, Prod.mk.injEq] at H
  obtain ⟨rfl, rfl, rfl⟩ := H
  go_enter Try.func53, Try.ntmps53
  go_wp2_with (first | ((with_reducible refine gate_dst (N := 4) rfl ?_); refine box_event ?hg (N := 4) ?hd (cs := #[.bool false, .int .u64 0, .int .u64 0]) (t := 99) ?hr ?_; (case hd => rfl); (case hg => rfl); (case hr => first | (go_simp; done) | (go_simp; rfl)); intro gb615 hg w5 hbox hb; have n0_ := Aside0.mk (below_step (by repeat (first | (with_reducible first | exact HB.out | apply below_alloc | apply pw_below_drewN | apply below_drew1) | exact HB.out)) hb); have n1_ := Aside0.mk (hbox); have n2_ := Aside0.mk ((by rw [hg]; exact (below_size (by repeat (first | (with_reducible first | exact HB.out | apply below_alloc | apply pw_below_drewN | apply below_drew1) | exact HB.out))) : w.heap.size ≤ gb615)); have n3_ := Aside0.mk ((by rw [hg]; exact (below_size (by repeat (first | (with_reducible first | exact HB.out | apply below_alloc | apply pw_below_drewN | apply below_drew1) | exact HB.out))) : w.heap.size ≤ gb615)); clear HB; have HB := n0_; have BK615 := n1_; have GW615 := n2_; have GE615 := n3_; clear n0_ n1_ n2_ n3_; clear hb hbox hg) | ((with_reducible refine gate_callee (f := 54) rfl ?_); refine goesL_ (some 9) rfl rfl Try.func54 (by kernel_rfl) rfl #[.int .i64 a0] rfl (by (try simp only [List.map_toArray, List.map_cons, List.map_nil]); first | done | rfl | (simp only [List.length_drop, List.length_take]; rfl)) ?_; (with_reducible refine (rational_abs.calls a0 t616 _ A3.out).mono ?_); rintro e w' ⟨rfl, ⟨nd, rfl⟩⟩; refine ⟨_, rfl, ?_⟩; (try (rw [drewN_self w5]; generalize hq_ : World.drewN w5 _ = w5; have n0_ : Aside0 (w5.heap[gb615]? = some (.cells #[.bool false, .int .u64 0, .int .u64 0] 99 (0, 0))) := ⟨by rw [← hq_]; exact (by (with_reducible repeat (first | refine blk_drewN ?_ _ | refine blk_drew ?_ | refine blk_alloc ?_ _)); exact BK615.out)⟩; have n1_ : Aside0 (Below w.heap.size w w5) := ⟨by rw [← hq_]; exact (by repeat (first | (with_reducible first | exact HB.out | apply below_alloc | apply pw_below_drewN | apply below_drew1 | refine below_set ?_ GE615.out) | exact HB.out))⟩; clear BK615 HB hq_; have BK615 := n0_; have HB := n1_; clear n0_ n1_))) | ((with_reducible refine gate_callee (f := 62) rfl ?_); refine goesL_ (some 11) rfl rfl Try.func62 (by kernel_rfl) rfl #[.int .u64 t616, .int .u64 a1] rfl (by (try simp only [List.map_toArray, List.map_cons, List.map_nil]); first | done | rfl | (simp only [List.length_drop, List.length_take]; rfl)) ?_; (with_reducible refine (bits_Mul64.calls t616 a1 t617 t618 _ A4.out).mono ?_); rintro e w' ⟨rfl, ⟨nd, rfl⟩⟩; refine ⟨_, rfl, ?_⟩; (try (rw [drewN_self w5]; generalize hq_ : World.drewN w5 _ = w5; have n0_ : Aside0 (w5.heap[gb615]? = some (.cells #[.bool false, .int .u64 0, .int .u64 0] 99 (0, 0))) := ⟨by rw [← hq_]; exact (by (with_reducible repeat (first | refine blk_drewN ?_ _ | refine blk_drew ?_ | refine blk_alloc ?_ _)); exact BK615.out)⟩; have n1_ : Aside0 (Below w.heap.size w w5) := ⟨by rw [← hq_]; exact (by repeat (first | (with_reducible first | exact HB.out | apply below_alloc | apply pw_below_drewN | apply below_drew1 | refine below_set ?_ GE615.out) | exact HB.out))⟩; clear BK615 HB hq_; have BK615 := n0_; have HB := n1_; clear n0_ n1_)); have hcz6_0 : w5.cell? ⟨gb615, 0, none⟩ = some (.bool false) := (blk_cell BK615.out 0).trans rfl; have hcz6_1 : w5.cell? ⟨gb615, 1, none⟩ = some (.int .u64 0) := (blk_cell BK615.out 1).trans rfl; have hcz6_2 : w5.cell? ⟨gb615, 2, none⟩ = some (.int .u64 0) := (blk_cell BK615.out 2).trans rfl; have hfz6_0 := blk_frozen BK615.out 0; have hfz6_1 := blk_frozen BK615.out 1; have hfz6_2 := blk_frozen BK615.out 2))
  refine bodyPost_ret (results_cell_row rfl _ _ gb615 99 #[.bool (decide (a0 < 0)), .int .u64 t617, .int .u64 t618] (0, 0) _ rfl (by (with_reducible repeat (first | refine blk_drewN ?_ _ | refine blk_drew ?_ | refine blk_alloc ?_ _)); refine blk_put (cs := #[.bool (decide (a0 < 0)), .int .u64 t617, .int .u64 0]) ?_ 2 _ rfl; (with_reducible repeat (first | refine blk_drewN ?_ _ | refine blk_drew ?_ | refine blk_alloc ?_ _)); refine blk_put (cs := #[.bool (decide (a0 < 0)), .int .u64 0, .int .u64 0]) ?_ 1 _ rfl; (with_reducible repeat (first | refine blk_drewN ?_ _ | refine blk_drew ?_ | refine blk_alloc ?_ _)); refine blk_put (cs := #[.bool false, .int .u64 0, .int .u64 0]) ?_ 0 _ rfl; (with_reducible repeat (first | refine blk_drewN ?_ _ | refine blk_drew ?_ | refine blk_alloc ?_ _)); exact BK615.out) Try.underlying99 rfl (by kernel_rfl)) rfl ?_
  exact ⟨by first | rfl | (simp [errW_none, errW_some] <;> rfl) | (simp [*, errW_none, errW_some] <;> rfl), by repeat (first | (with_reducible first | exact HB.out | apply below_alloc | apply pw_below_drewN | apply below_drew1 | refine below_set ?_ GE615.out) | exact HB.out)⟩

end Go.Proofs.Ytdndhbfagoghfaa.P
