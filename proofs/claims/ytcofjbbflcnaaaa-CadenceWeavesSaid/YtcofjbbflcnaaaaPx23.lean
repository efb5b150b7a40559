-- Written by this session's own program (wip/tools/myprint.py), which runs the kit's print with turns of its own: not a text of the kit's print.sh.
import Derived.Test.YtcofjbbflcnaaaaPx0
import Derived.Test.YtcofjbbflcnaaaaPx49
import Derived.Test.YtcofjbbflcnaaaaPx50
import Derived.Test.YtcofjbbflcnaaaaPx67
namespace Go.Proofs.Ytcofjbbflcnaaaa.P
open Go.RowKit Go.Proofs.YtcofjbbflcnaaaaW.PrintWords Go.Proofs.YtcofjbbflcnaaaaW.PrintLast Go.Proofs.YtcofjbbflcnaaaaW.PrintMore
attribute [local go_sem] max2_int min2_int max_two min_two max_three min_three max_four min_four   -- for this text's walks alone
set_option linter.unusedVariables false
set_option linter.unusedSimpArgs false

/-! ### cadence_Frame: function 22 -/
def cadence_Frame.j0 : Nat → Int → Bool → Int → Int → Int → Int → Option (Int × Int)
  | 0, _, _, _, _, _, _ => none
  | k + 1, x0, x18, x125000, x125001, x126000, x126001 => if x18 = true then (some (0, 1)) else ((cadence_inRange.f x0).bind fun t128 => (if t128 = true then ((rational_MulDiv.f k x0 (wrap64 (x126000 * x125001)) (wrap64 (x126001 * x125000))).bind fun bt129 => (if bt129.2.2 = 0 then (if bt129.1 = (-9223372036854775808) then (some (0, 2)) else (some (bt129.1, 0))) else (some (0, 2)))) else (some (0, 2))))
def cadence_Frame.f (k : Nat) (a0 : Int) (a1_0 : Int) (a1_1 : Int) (a2_0 : Int) (a2_1 : Int) : Option (Int × Int) := (cadence_Usable.f k a1_0 a1_1).bind fun t126 => (if t126 = true then ((cadence_Usable.f k a2_0 a2_1).bind fun t127 => (cadence_Frame.j0 k a0 (!t127) a1_0 a1_1 a2_0 a2_1)) else (cadence_Frame.j0 k a0 true a1_0 a1_1 a2_0 a2_1))
theorem cadence_Frame.mono_l : ∀ k, (∀ y0 y1 y2 y3 y4 y5, LeO (cadence_Frame.j0 k y0 y1 y2 y3 y4 y5) (cadence_Frame.j0 (k + 1) y0 y1 y2 y3 y4 y5))
  | 0 => fun _ _ _ _ _ _ r h => by simp [cadence_Frame.j0] at h
  | k + 1 => by
    have ih0 := cadence_Frame.mono_l k
    · intro y0 y1 y2 y3 y4 y5
      unfold cadence_Frame.j0
      repeat' first
      | (with_reducible exact ih0 _ _ _ _ _ _)
      | (with_reducible exact cadence_Usable.mono _ _ _)
      | (with_reducible exact rational_MulDiv.mono _ _ _ _)
      | (with_reducible exact LeO.refl _)
      | (with_reducible exact LeO.none _)
      | (with_reducible refine LeO.ite ?_ ?_)
      | (with_reducible refine LeO.bind ?_ (fun _ => ?_))
      | exact ih0 _ _ _ _ _ _
      | exact cadence_Usable.mono _ _ _
      | exact rational_MulDiv.mono _ _ _ _
      | exact LeO.none _
      | refine LeO.ite ?_ ?_
      | refine LeO.bind ?_ (fun _ => ?_)
theorem cadence_Frame.mono : ∀ a0 a1 a2 a3 a4 k, LeO (cadence_Frame.f k a0 a1 a2 a3 a4) (cadence_Frame.f (k + 1) a0 a1 a2 a3 a4) := by
  intro a0 a1 a2 a3 a4 k
  have ih0 := cadence_Frame.mono_l k
  unfold cadence_Frame.f
  repeat' first
      | (with_reducible exact ih0 _ _ _ _ _ _)
      | (with_reducible exact cadence_Usable.mono _ _ _)
      | (with_reducible exact rational_MulDiv.mono _ _ _ _)
      | (with_reducible exact LeO.refl _)
      | (with_reducible exact LeO.none _)
      | (with_reducible refine LeO.ite ?_ ?_)
      | (with_reducible refine LeO.bind ?_ (fun _ => ?_))
      | exact ih0 _ _ _ _ _ _
      | exact cadence_Usable.mono _ _ _
      | exact rational_MulDiv.mono _ _ _ _
      | exact LeO.none _
      | refine LeO.ite ?_ ?_
      | refine LeO.bind ?_ (fun _ => ?_)
set_option maxHeartbeats 8000000 in
set_option maxRecDepth 100000 in
theorem cadence_Frame.calls (k : Nat) (a0 : Int) (a1_0 : Int) (a1_1 : Int) (a2_0 : Int) (a2_1 : Int) (r1 : Int) (r2 : Int) (w : World) (h : cadence_Frame.f k a0 a1_0 a1_1 a2_0 a2_1 = some (r1, r2)) :
    Calls Try.prog 22 #[.int .i64 a0, .agg #[.int .i64 a1_0, .int .i64 a1_1], .agg #[.int .i64 a2_0, .int .i64 a2_1]] w fun e w' => e = .returned (.tuple #[.int .i64 r1, .int .i64 r2]) ∧ Below w.heap.size w w' := by
  have hu23 := Try.underlying23
  have HB := Aside0.mk (Below.refl w.heap.size w)
  have H : ((cadence_Usable.f k a1_0 a1_1).bind fun t126 => (if t126 = true then ((cadence_Usable.f k a2_0 a2_1).bind fun t127 => (cadence_Frame.j0 k a0 (!t127) a1_0 a1_1 a2_0 a2_1)) else (cadence_Frame.j0 k a0 true a1_0 a1_1 a2_0 a2_1))) = some (r1, r2) := h
  clear h
  have HC4 := Aside0.mk H
  clear H
  go_enter Try.func22, Try.ntmps22
  go_upto_region 1 with (first | ((with_reducible refine gate_dst (N := 4) rfl ?_); refine box_event ?hg (N := 4) ?hd (cs := #[.int .i64 a1_0, .int .i64 a1_1]) (t := 23) ?hr ?_; (case hd => rfl); (case hg => rfl); (case hr => first | (go_simp; done) | (go_simp; rfl)); intro gb124 hg w5 hbox hb; have n0_ := Aside0.mk (below_step (by repeat (first | (with_reducible first | exact HB.out | apply below_alloc | apply pw_below_drewN | apply below_drew1) | exact HB.out)) hb); have n1_ := Aside0.mk (hbox); have n2_ := Aside0.mk ((by rw [hg]; exact (below_size (by repeat (first | (with_reducible first | exact HB.out | apply below_alloc | apply pw_below_drewN | apply below_drew1) | exact HB.out))) : w.heap.size ≤ gb124)); have n3_ := Aside0.mk ((by rw [hg]; exact (below_size (by repeat (first | (with_reducible first | exact HB.out | apply below_alloc | apply pw_below_drewN | apply below_drew1) | exact HB.out))) : w.heap.size ≤ gb124)); clear HB; have HB := n0_; have BK124 := n1_; have GW124 := n2_; have GE124 := n3_; clear n0_ n1_ n2_ n3_; clear hb hbox hg) | ((with_reducible refine gate_dst (N := 5) rfl ?_); refine box_event ?hg (N := 5) ?hd (cs := #[.int .i64 a2_0, .int .i64 a2_1]) (t := 23) ?hr ?_; (case hd => rfl); (case hg => rfl); (case hr => first | (go_simp; done) | (go_simp; rfl)); intro gb125 hg w6 hbox hb; have n0_ := Aside0.mk (blk_below (g := gb124) (o := .cells #[.int .i64 a1_0, .int .i64 a1_1] 23 (0, 0)) (by (with_reducible repeat (first | refine blk_drewN ?_ _ | refine blk_drew ?_ | refine blk_alloc ?_ _)); exact BK124.out) hb); have n1_ := Aside0.mk (below_step (by repeat (first | (with_reducible first | exact HB.out | apply below_alloc | apply pw_below_drewN | apply below_drew1 | refine below_set ?_ GE124.out) | exact HB.out)) hb); have n2_ := Aside0.mk (hbox); have n3_ := Aside0.mk ((by rw [hg]; exact (below_size (by repeat (first | (with_reducible first | exact HB.out | apply below_alloc | apply pw_below_drewN | apply below_drew1 | refine below_set ?_ GE124.out) | exact HB.out))) : w.heap.size ≤ gb125)); have n4_ := Aside0.mk ((by rw [hg]; exact (below_size (by repeat (first | (with_reducible first | exact HB.out | apply below_alloc | apply pw_below_drewN | apply below_drew1 | refine below_set ?_ GE124.out) | exact HB.out))) : w.heap.size ≤ gb125)); have n5_ := Aside0.mk ((by rw [hg]; exact Nat.ne_of_lt (blk_lt (g := gb124) (o := .cells #[.int .i64 a1_0, .int .i64 a1_1] 23 (0, 0)) (by (with_reducible repeat (first | refine blk_drewN ?_ _ | refine blk_drew ?_ | refine blk_alloc ?_ _)); exact BK124.out)) : gb124 ≠ gb125)); have n6_ := Aside0.mk ((by rw [hg]; exact Nat.ne_of_gt (blk_lt (g := gb124) (o := .cells #[.int .i64 a1_0, .int .i64 a1_1] 23 (0, 0)) (by (with_reducible repeat (first | refine blk_drewN ?_ _ | refine blk_drew ?_ | refine blk_alloc ?_ _)); exact BK124.out)) : gb125 ≠ gb124)); clear BK124; clear HB; have BK124 := n0_; have HB := n1_; have BK125 := n2_; have GW125 := n3_; have GE125 := n4_; have NB124_125 := n5_; have NB125_124 := n6_; clear n0_ n1_ n2_ n3_ n4_ n5_ n6_; clear hb hbox hg))
  (try simp only [Act.put, List.setIfInBounds_toArray, List.set_cons_zero, List.set_cons_succ])
  go_cut [18] (fun v18 wc => ∃ (kq : Nat) (x18_3 : Bool), v18 = .bool x18_3 ∧ Aside0 (cadence_Frame.j0 kq a0 x18_3 a1_0 a1_1 a2_0 a2_1 = some (r1, r2)) ∧ Aside0 (kq ≤ k) ∧ Aside0 (wc.heap[gb124]? = some (.cells #[.int .i64 a1_0, .int .i64 a1_1] 23 (0, 0))) ∧ Aside0 (wc.heap[gb125]? = some (.cells #[.int .i64 a2_0, .int .i64 a2_1] 23 (0, 0))) ∧ Aside0 (Below w.heap.size w wc))
  case first =>
    have H := HC4.out
    clear HC4
    replace H := Option.bind_eq_some_iff.mp H
    obtain ⟨t126, A70, H⟩ := H
    replace H : (if t126 = true then ((cadence_Usable.f k a2_0 a2_1).bind fun t127 => (cadence_Frame.j0 k a0 (!t127) a1_0 a1_1 a2_0 a2_1)) else (cadence_Frame.j0 k a0 true a1_0 a1_1 a2_0 a2_1)) = some (r1, r2) := H
    have A7 := Aside0.mk A70
    clear A70
    by_cases c8 : t126 = true
    · subst c8
      have H1 : ((cadence_Usable.f k a2_0 a2_1).bind fun t127 => (cadence_Frame.j0 k a0 (!t127) a1_0 a1_1 a2_0 a2_1)) = some (r1, r2) := by rw [if_pos rfl] at H; exact H
      clear H
      have H := H1
      clear H1
      replace H := Option.bind_eq_some_iff.mp H
      obtain ⟨t127, A90, H⟩ := H
      replace H : (cadence_Frame.j0 k a0 (!t127) a1_0 a1_1 a2_0 a2_1) = some (r1, r2) := H
      have A9 := Aside0.mk A90
      clear A90
      have H' := Aside0.mk H
      clear H
      have hnb10 := NB124_125.out
      have hnc10 := NB125_124.out
      have hcz11_0 : w6.cell? ⟨gb124, 0, none⟩ = some (.int .i64 a1_0) := (blk_cell BK124.out 0).trans rfl
      have hcz11_1 : w6.cell? ⟨gb124, 1, none⟩ = some (.int .i64 a1_1) := (blk_cell BK124.out 1).trans rfl
      have hfz11_0 := blk_frozen BK124.out 0
      have hfz11_1 := blk_frozen BK124.out 1
      go_wp2_with (first | ((with_reducible refine gate_callee (f := 19) rfl ?_); refine goesL_ (some 12) rfl rfl Try.func19 (by kernel_rfl) rfl #[.agg #[.int .i64 a1_0, .int .i64 a1_1]] rfl (by (try simp only [List.map_toArray, List.map_cons, List.map_nil]); first | done | rfl | (simp only [List.length_drop, List.length_take]; rfl)) ?_; (with_reducible refine (cadence_Usable.calls k a1_0 a1_1 true _ A7.out).mono ?_); rintro e w12 ⟨rfl, hb⟩; refine ⟨_, rfl, ?_⟩; have n0_ := Aside0.mk (blk_below (g := gb124) (o := .cells #[.int .i64 a1_0, .int .i64 a1_1] 23 (0, 0)) (by (with_reducible repeat (first | refine blk_drewN ?_ _ | refine blk_drew ?_ | refine blk_alloc ?_ _)); exact BK124.out) hb); have n1_ := Aside0.mk (blk_below (g := gb125) (o := .cells #[.int .i64 a2_0, .int .i64 a2_1] 23 (0, 0)) (by (with_reducible repeat (first | refine blk_drewN ?_ _ | refine blk_drew ?_ | refine blk_alloc ?_ _)); exact BK125.out) hb); have n2_ := Aside0.mk (below_step (by repeat (first | (with_reducible first | exact HB.out | apply below_alloc | apply pw_below_drewN | apply below_drew1 | refine below_set ?_ GE124.out | refine below_set ?_ GE125.out) | exact HB.out)) hb); clear BK124; clear BK125; clear HB; have BK124 := n0_; have BK125 := n1_; have HB := n2_; clear n0_ n1_ n2_; (try clear hb); (try clear hb2); (try clear hk); (try clear hi); have hcz13_0 : w12.cell? ⟨gb125, 0, none⟩ = some (.int .i64 a2_0) := (blk_cell BK125.out 0).trans rfl; have hcz13_1 : w12.cell? ⟨gb125, 1, none⟩ = some (.int .i64 a2_1) := (blk_cell BK125.out 1).trans rfl; have hfz13_0 := blk_frozen BK125.out 0; have hfz13_1 := blk_frozen BK125.out 1) | (go_at_call 19; (with_reducible refine (cadence_Usable.calls k a2_0 a2_1 t127 _ A9.out).mono ?_); rintro e w14 ⟨rfl, hb⟩; have n0_ := Aside0.mk (blk_below (g := gb124) (o := .cells #[.int .i64 a1_0, .int .i64 a1_1] 23 (0, 0)) (by (with_reducible repeat (first | refine blk_drewN ?_ _ | refine blk_drew ?_ | refine blk_alloc ?_ _)); exact BK124.out) hb); have n1_ := Aside0.mk (blk_below (g := gb125) (o := .cells #[.int .i64 a2_0, .int .i64 a2_1] 23 (0, 0)) (by (with_reducible repeat (first | refine blk_drewN ?_ _ | refine blk_drew ?_ | refine blk_alloc ?_ _)); exact BK125.out) hb); have n2_ := Aside0.mk (below_step (by repeat (first | (with_reducible first | exact HB.out | apply below_alloc | apply pw_below_drewN | apply below_drew1 | refine below_set ?_ GE124.out | refine below_set ?_ GE125.out) | exact HB.out)) hb); clear BK124; clear BK125; clear HB; have BK124 := n0_; have BK125 := n1_; have HB := n2_; clear n0_ n1_ n2_; (try clear hb); (try clear hb2); (try clear hk); (try clear hi)))
      go_meet
      case rel => exact ⟨_, (!t127), (by first | rfl | (simp; done) | (simp [*]; done)), H', ⟨by first | omega | exact Nat.le_refl _⟩, ⟨by (with_reducible repeat (first | refine blk_drewN ?_ _ | refine blk_drew ?_ | refine blk_alloc ?_ _)); exact BK124.out⟩, ⟨by (with_reducible repeat (first | refine blk_drewN ?_ _ | refine blk_drew ?_ | refine blk_alloc ?_ _)); exact BK125.out⟩, ⟨by repeat (first | (with_reducible first | exact HB.out | apply below_alloc | apply pw_below_drewN | apply below_drew1 | refine below_set ?_ GE124.out | refine below_set ?_ GE125.out) | exact HB.out)⟩⟩
    · replace c8 := Bool.eq_false_iff.mpr c8
      subst c8
      have H1 : (cadence_Frame.j0 k a0 true a1_0 a1_1 a2_0 a2_1) = some (r1, r2) := by rw [if_neg (show ¬ (false = true) by decide)] at H; exact H
      clear H
      have H := H1
      clear H1
      have H' := Aside0.mk H
      clear H
      have hnb15 := NB124_125.out
      have hnc15 := NB125_124.out
      have hcz16_0 : w6.cell? ⟨gb124, 0, none⟩ = some (.int .i64 a1_0) := (blk_cell BK124.out 0).trans rfl
      have hcz16_1 : w6.cell? ⟨gb124, 1, none⟩ = some (.int .i64 a1_1) := (blk_cell BK124.out 1).trans rfl
      have hfz16_0 := blk_frozen BK124.out 0
      have hfz16_1 := blk_frozen BK124.out 1
      go_wp2_with (first | ((with_reducible refine gate_callee (f := 19) rfl ?_); refine goesL_ (some 12) rfl rfl Try.func19 (by kernel_rfl) rfl #[.agg #[.int .i64 a1_0, .int .i64 a1_1]] rfl (by (try simp only [List.map_toArray, List.map_cons, List.map_nil]); first | done | rfl | (simp only [List.length_drop, List.length_take]; rfl)) ?_; (with_reducible refine (cadence_Usable.calls k a1_0 a1_1 false _ A7.out).mono ?_); rintro e w17 ⟨rfl, hb⟩; refine ⟨_, rfl, ?_⟩; have n0_ := Aside0.mk (blk_below (g := gb124) (o := .cells #[.int .i64 a1_0, .int .i64 a1_1] 23 (0, 0)) (by (with_reducible repeat (first | refine blk_drewN ?_ _ | refine blk_drew ?_ | refine blk_alloc ?_ _)); exact BK124.out) hb); have n1_ := Aside0.mk (blk_below (g := gb125) (o := .cells #[.int .i64 a2_0, .int .i64 a2_1] 23 (0, 0)) (by (with_reducible repeat (first | refine blk_drewN ?_ _ | refine blk_drew ?_ | refine blk_alloc ?_ _)); exact BK125.out) hb); have n2_ := Aside0.mk (below_step (by repeat (first | (with_reducible first | exact HB.out | apply below_alloc | apply pw_below_drewN | apply below_drew1 | refine below_set ?_ GE124.out | refine below_set ?_ GE125.out) | exact HB.out)) hb); clear BK124; clear BK125; clear HB; have BK124 := n0_; have BK125 := n1_; have HB := n2_; clear n0_ n1_ n2_; (try clear hb); (try clear hb2); (try clear hk); (try clear hi)))
      go_meet
      case rel => exact ⟨_, (true), (by first | rfl | (simp; done) | (simp [*]; done)), H', ⟨by first | omega | exact Nat.le_refl _⟩, ⟨by (with_reducible repeat (first | refine blk_drewN ?_ _ | refine blk_drew ?_ | refine blk_alloc ?_ _)); exact BK124.out⟩, ⟨by (with_reducible repeat (first | refine blk_drewN ?_ _ | refine blk_drew ?_ | refine blk_alloc ?_ _)); exact BK125.out⟩, ⟨by repeat (first | (with_reducible first | exact HB.out | apply below_alloc | apply pw_below_drewN | apply below_drew1 | refine below_set ?_ GE124.out | refine below_set ?_ GE125.out) | exact HB.out)⟩⟩
  case rest =>
    clear HC4
    try clear c1
    try clear c2
    try clear p2
    try clear c8
    try clear c10
    try clear c15
    try clear hcz11_0
    try clear hcz11_1
    try clear hcz13_0
    try clear hcz13_1
    try clear hcz16_0
    try clear hcz16_1
    try clear hfz11_0
    try clear hfz11_1
    try clear hfz13_0
    try clear hfz13_1
    try clear hfz16_0
    try clear hfz16_1
    obtain ⟨kq, x18_3, rfl, HA, HJ3, BK124, BK125, HB⟩ := hcut
    cases kq with
    | zero => exact absurd HA.out (by simp [cadence_Frame.j0])
    | succ kj3 =>
      have H := HA.out
      clear HA
      simp only [cadence_Frame.j0] at H
      by_cases c18 : x18_3 = true
      · subst c18
        have H1 : (some (0, 1)) = some (r1, r2) := by rw [if_pos rfl] at H; exact H
        clear H
        have H := H1
        clear H1
        simp only [Option.some.injEq, Prod.mk.injEq] at H
        obtain ⟨rfl, rfl⟩ := H
        go_wp2
        go_ret2
        exact ⟨by first | rfl | (simp [errW_none, errW_some] <;> rfl) | (simp [*, errW_none, errW_some] <;> rfl), by repeat (first | (with_reducible first | exact HB.out | apply below_alloc | apply pw_below_drewN | apply below_drew1 | refine below_set ?_ GE124.out | refine below_set ?_ GE125.out) | exact HB.out)⟩
      · replace c18 := Bool.eq_false_iff.mpr c18
        subst c18
        have H1 : ((cadence_inRange.f a0).bind fun t128 => (if t128 = true then ((rational_MulDiv.f kj3 a0 (wrap64 (a2_0 * a1_1)) (wrap64 (a2_1 * a1_0))).bind fun bt129 => (if bt129.2.2 = 0 then (if bt129.1 = (-9223372036854775808) then (some (0, 2)) else (some (bt129.1, 0))) else (some (0, 2)))) else (some (0, 2)))) = some (r1, r2) := by rw [if_neg (show ¬ (false = true) by decide)] at H; exact H
        clear H
        have H := H1
        clear H1
        replace H := Option.bind_eq_some_iff.mp H
        obtain ⟨t128, A190, H⟩ := H
        replace H : (if t128 = true then ((rational_MulDiv.f kj3 a0 (wrap64 (a2_0 * a1_1)) (wrap64 (a2_1 * a1_0))).bind fun bt129 => (if bt129.2.2 = 0 then (if bt129.1 = (-9223372036854775808) then (some (0, 2)) else (some (bt129.1, 0))) else (some (0, 2)))) else (some (0, 2))) = some (r1, r2) := H
        have A19 := Aside0.mk A190
        clear A190
        by_cases c20 : t128 = true
        · subst c20
          have H1 : ((rational_MulDiv.f kj3 a0 (wrap64 (a2_0 * a1_1)) (wrap64 (a2_1 * a1_0))).bind fun bt129 => (if bt129.2.2 = 0 then (if bt129.1 = (-9223372036854775808) then (some (0, 2)) else (some (bt129.1, 0))) else (some (0, 2)))) = some (r1, r2) := by rw [if_pos rfl] at H; exact H
          clear H
          have H := H1
          clear H1
          replace H := Option.bind_eq_some_iff.mp H
          obtain ⟨⟨t129, t130, t131⟩, A210, H⟩ := H
          replace H : (if t131 = 0 then (if t129 = (-9223372036854775808) then (some (0, 2)) else (some (t129, 0))) else (some (0, 2))) = some (r1, r2) := H
          have A21 := Aside0.mk A210
          clear A210
          by_cases c22 : t131 = 0
          · rw [if_pos c22] at H
            have c22b0 : (t131 == 0) = true := beq_iff_eq.mpr c22
            have c22b1 : (t131 != 0) = false := bne_eq_false_iff_eq.mpr c22
            clear c22
            by_cases c23 : t129 = (-9223372036854775808)
            · rw [if_pos c23] at H
              have c23b0 : (t129 == (-9223372036854775808)) = true := beq_iff_eq.mpr c23
              have c23b1 : (t129 != (-9223372036854775808)) = false := bne_eq_false_iff_eq.mpr c23
              clear c23
              simp only [Option.some.injEq, Prod.mk.injEq] at H
              obtain ⟨rfl, rfl⟩ := H
              go_wp2_with (first | ((with_reducible refine gate_callee (f := 48) rfl ?_); refine goesL_ (some 20) rfl rfl Try.func48 (by kernel_rfl) rfl #[.int .i64 a0] rfl (by (try simp only [List.map_toArray, List.map_cons, List.map_nil]); first | done | rfl | (simp only [List.length_drop, List.length_take]; rfl)) ?_; (with_reducible refine (cadence_inRange.calls a0 true _ A19.out).mono ?_); rintro e w' ⟨rfl, ⟨nd, rfl⟩⟩; refine ⟨_, rfl, ?_⟩; have hnb24 := NB125_124.out; have hnc24 := NB124_125.out; have hcz25_0 : wc.cell? ⟨gb125, 0, none⟩ = some (.int .i64 a2_0) := (blk_cell BK125.out 0).trans rfl; have hcz25_1 : wc.cell? ⟨gb125, 1, none⟩ = some (.int .i64 a2_1) := (blk_cell BK125.out 1).trans rfl; have hfz25_0 := blk_frozen BK125.out 0; have hfz25_1 := blk_frozen BK125.out 1; have hcz26_0 : wc.cell? ⟨gb124, 0, none⟩ = some (.int .i64 a1_0) := (blk_cell BK124.out 0).trans rfl; have hcz26_1 : wc.cell? ⟨gb124, 1, none⟩ = some (.int .i64 a1_1) := (blk_cell BK124.out 1).trans rfl; have hfz26_0 := blk_frozen BK124.out 0; have hfz26_1 := blk_frozen BK124.out 1) | ((with_reducible refine gate_callee (f := 49) rfl ?_); refine goesL_ (some 34) rfl rfl Try.func49 (by kernel_rfl) rfl #[.int .i64 a0, .int .i64 (wrap64 (a2_0 * a1_1)), .int .i64 (wrap64 (a2_1 * a1_0))] rfl (by (try simp only [List.map_toArray, List.map_cons, List.map_nil]); first | done | rfl | (simp only [List.length_drop, List.length_take]; rfl)) ?_; (with_reducible refine (rational_MulDiv.calls kj3 a0 (wrap64 (a2_0 * a1_1)) (wrap64 (a2_1 * a1_0)) t129 t130 t131 _ A21.out).mono ?_); rintro e w27 ⟨rfl, hb⟩; refine ⟨_, rfl, ?_⟩; have n0_ := Aside0.mk (blk_below (g := gb124) (o := .cells #[.int .i64 a1_0, .int .i64 a1_1] 23 (0, 0)) (by (with_reducible repeat (first | refine blk_drewN ?_ _ | refine blk_drew ?_ | refine blk_alloc ?_ _)); exact BK124.out) hb); have n1_ := Aside0.mk (blk_below (g := gb125) (o := .cells #[.int .i64 a2_0, .int .i64 a2_1] 23 (0, 0)) (by (with_reducible repeat (first | refine blk_drewN ?_ _ | refine blk_drew ?_ | refine blk_alloc ?_ _)); exact BK125.out) hb); have n2_ := Aside0.mk (below_step (by repeat (first | (with_reducible first | exact HB.out | apply below_alloc | apply pw_below_drewN | apply below_drew1 | refine below_set ?_ GE124.out | refine below_set ?_ GE125.out) | exact HB.out)) hb); clear BK124; clear BK125; clear HB; have BK124 := n0_; have BK125 := n1_; have HB := n2_; clear n0_ n1_ n2_; (try clear hb); (try clear hb2); (try clear hk); (try clear hi)))
              go_ret2
              exact ⟨by first | rfl | (simp [errW_none, errW_some] <;> rfl) | (simp [*, errW_none, errW_some] <;> rfl), by repeat (first | (with_reducible first | exact HB.out | apply below_alloc | apply pw_below_drewN | apply below_drew1 | refine below_set ?_ GE124.out | refine below_set ?_ GE125.out) | exact HB.out)⟩
            · rw [if_neg c23] at H
              have c23b0 : (t129 == (-9223372036854775808)) = false := beq_eq_false_iff_ne.mpr c23
              have c23b1 : (t129 != (-9223372036854775808)) = true := bne_iff_ne.mpr c23
              simp only [Option.some.injEq, Prod.mk.injEq] at H
              obtain ⟨rfl, rfl⟩ := H
              go_wp2_with (first | ((with_reducible refine gate_callee (f := 48) rfl ?_); refine goesL_ (some 20) rfl rfl Try.func48 (by kernel_rfl) rfl #[.int .i64 a0] rfl (by (try simp only [List.map_toArray, List.map_cons, List.map_nil]); first | done | rfl | (simp only [List.length_drop, List.length_take]; rfl)) ?_; (with_reducible refine (cadence_inRange.calls a0 true _ A19.out).mono ?_); rintro e w' ⟨rfl, ⟨nd, rfl⟩⟩; refine ⟨_, rfl, ?_⟩; have hnb28 := NB125_124.out; have hnc28 := NB124_125.out; have hcz29_0 : wc.cell? ⟨gb125, 0, none⟩ = some (.int .i64 a2_0) := (blk_cell BK125.out 0).trans rfl; have hcz29_1 : wc.cell? ⟨gb125, 1, none⟩ = some (.int .i64 a2_1) := (blk_cell BK125.out 1).trans rfl; have hfz29_0 := blk_frozen BK125.out 0; have hfz29_1 := blk_frozen BK125.out 1; have hcz30_0 : wc.cell? ⟨gb124, 0, none⟩ = some (.int .i64 a1_0) := (blk_cell BK124.out 0).trans rfl; have hcz30_1 : wc.cell? ⟨gb124, 1, none⟩ = some (.int .i64 a1_1) := (blk_cell BK124.out 1).trans rfl; have hfz30_0 := blk_frozen BK124.out 0; have hfz30_1 := blk_frozen BK124.out 1) | ((with_reducible refine gate_callee (f := 49) rfl ?_); refine goesL_ (some 34) rfl rfl Try.func49 (by kernel_rfl) rfl #[.int .i64 a0, .int .i64 (wrap64 (a2_0 * a1_1)), .int .i64 (wrap64 (a2_1 * a1_0))] rfl (by (try simp only [List.map_toArray, List.map_cons, List.map_nil]); first | done | rfl | (simp only [List.length_drop, List.length_take]; rfl)) ?_; (with_reducible refine (rational_MulDiv.calls kj3 a0 (wrap64 (a2_0 * a1_1)) (wrap64 (a2_1 * a1_0)) t129 t130 t131 _ A21.out).mono ?_); rintro e w31 ⟨rfl, hb⟩; refine ⟨_, rfl, ?_⟩; have n0_ := Aside0.mk (blk_below (g := gb124) (o := .cells #[.int .i64 a1_0, .int .i64 a1_1] 23 (0, 0)) (by (with_reducible repeat (first | refine blk_drewN ?_ _ | refine blk_drew ?_ | refine blk_alloc ?_ _)); exact BK124.out) hb); have n1_ := Aside0.mk (blk_below (g := gb125) (o := .cells #[.int .i64 a2_0, .int .i64 a2_1] 23 (0, 0)) (by (with_reducible repeat (first | refine blk_drewN ?_ _ | refine blk_drew ?_ | refine blk_alloc ?_ _)); exact BK125.out) hb); have n2_ := Aside0.mk (below_step (by repeat (first | (with_reducible first | exact HB.out | apply below_alloc | apply pw_below_drewN | apply below_drew1 | refine below_set ?_ GE124.out | refine below_set ?_ GE125.out) | exact HB.out)) hb); clear BK124; clear BK125; clear HB; have BK124 := n0_; have BK125 := n1_; have HB := n2_; clear n0_ n1_ n2_; (try clear hb); (try clear hb2); (try clear hk); (try clear hi)))
              go_ret2
              exact ⟨by first | rfl | (simp [errW_none, errW_some] <;> rfl) | (simp [*, errW_none, errW_some] <;> rfl), by repeat (first | (with_reducible first | exact HB.out | apply below_alloc | apply pw_below_drewN | apply below_drew1 | refine below_set ?_ GE124.out | refine below_set ?_ GE125.out) | exact HB.out)⟩
          · rw [if_neg c22] at H
            have c22b0 : (t131 == 0) = false := beq_eq_false_iff_ne.mpr c22
            have c22b1 : (t131 != 0) = true := bne_iff_ne.mpr c22
            simp only [Option.some.injEq, Prod.mk.injEq] at H
            obtain ⟨rfl, rfl⟩ := H
            go_wp2_with (first | ((with_reducible refine gate_callee (f := 48) rfl ?_); refine goesL_ (some 20) rfl rfl Try.func48 (by kernel_rfl) rfl #[.int .i64 a0] rfl (by (try simp only [List.map_toArray, List.map_cons, List.map_nil]); first | done | rfl | (simp only [List.length_drop, List.length_take]; rfl)) ?_; (with_reducible refine (cadence_inRange.calls a0 true _ A19.out).mono ?_); rintro e w' ⟨rfl, ⟨nd, rfl⟩⟩; refine ⟨_, rfl, ?_⟩; have hnb32 := NB125_124.out; have hnc32 := NB124_125.out; have hcz33_0 : wc.cell? ⟨gb125, 0, none⟩ = some (.int .i64 a2_0) := (blk_cell BK125.out 0).trans rfl; have hcz33_1 : wc.cell? ⟨gb125, 1, none⟩ = some (.int .i64 a2_1) := (blk_cell BK125.out 1).trans rfl; have hfz33_0 := blk_frozen BK125.out 0; have hfz33_1 := blk_frozen BK125.out 1; have hcz34_0 : wc.cell? ⟨gb124, 0, none⟩ = some (.int .i64 a1_0) := (blk_cell BK124.out 0).trans rfl; have hcz34_1 : wc.cell? ⟨gb124, 1, none⟩ = some (.int .i64 a1_1) := (blk_cell BK124.out 1).trans rfl; have hfz34_0 := blk_frozen BK124.out 0; have hfz34_1 := blk_frozen BK124.out 1) | ((with_reducible refine gate_callee (f := 49) rfl ?_); refine goesL_ (some 34) rfl rfl Try.func49 (by kernel_rfl) rfl #[.int .i64 a0, .int .i64 (wrap64 (a2_0 * a1_1)), .int .i64 (wrap64 (a2_1 * a1_0))] rfl (by (try simp only [List.map_toArray, List.map_cons, List.map_nil]); first | done | rfl | (simp only [List.length_drop, List.length_take]; rfl)) ?_; (with_reducible refine (rational_MulDiv.calls kj3 a0 (wrap64 (a2_0 * a1_1)) (wrap64 (a2_1 * a1_0)) t129 t130 t131 _ A21.out).mono ?_); rintro e w35 ⟨rfl, hb⟩; refine ⟨_, rfl, ?_⟩; have n0_ := Aside0.mk (blk_below (g := gb124) (o := .cells #[.int .i64 a1_0, .int .i64 a1_1] 23 (0, 0)) (by (with_reducible repeat (first | refine blk_drewN ?_ _ | refine blk_drew ?_ | refine blk_alloc ?_ _)); exact BK124.out) hb); have n1_ := Aside0.mk (blk_below (g := gb125) (o := .cells #[.int .i64 a2_0, .int .i64 a2_1] 23 (0, 0)) (by (with_reducible repeat (first | refine blk_drewN ?_ _ | refine blk_drew ?_ | refine blk_alloc ?_ _)); exact BK125.out) hb); have n2_ := Aside0.mk (below_step (by repeat (first | (with_reducible first | exact HB.out | apply below_alloc | apply pw_below_drewN | apply below_drew1 | refine below_set ?_ GE124.out | refine below_set ?_ GE125.out) | exact HB.out)) hb); clear BK124; clear BK125; clear HB; have BK124 := n0_; have BK125 := n1_; have HB := n2_; clear n0_ n1_ n2_; (try clear hb); (try clear hb2); (try clear hk); (try clear hi)))
            go_ret2
            exact ⟨by first | rfl | (simp [errW_none, errW_some] <;> rfl) | (simp [*, errW_none, errW_some] <;> rfl), by repeat (first | (with_reducible first | exact HB.out | apply below_alloc | apply pw_below_drewN | apply below_drew1 | refine below_set ?_ GE124.out | refine below_set ?_ GE125.out) | exact HB.out)⟩
        · replace c20 := Bool.eq_false_iff.mpr c20
          subst c20
          have H1 : (some (0, 2)) = some (r1, r2) := by rw [if_neg (show ¬ (false = true) by decide)] at H; exact H
          clear H
          have H := H1
          clear H1
          simp only [Option.some.injEq, Prod.mk.injEq] at H
          obtain ⟨rfl, rfl⟩ := H
          go_wp2_with (first | ((with_reducible refine gate_callee (f := 48) rfl ?_); refine goesL_ (some 20) rfl rfl Try.func48 (by kernel_rfl) rfl #[.int .i64 a0] rfl (by (try simp only [List.map_toArray, List.map_cons, List.map_nil]); first | done | rfl | (simp only [List.length_drop, List.length_take]; rfl)) ?_; (with_reducible refine (cadence_inRange.calls a0 false _ A19.out).mono ?_); rintro e w' ⟨rfl, ⟨nd, rfl⟩⟩; refine ⟨_, rfl, ?_⟩))
          go_ret2
          exact ⟨by first | rfl | (simp [errW_none, errW_some] <;> rfl) | (simp [*, errW_none, errW_some] <;> rfl), by repeat (first | (with_reducible first | exact HB.out | apply below_alloc | apply pw_below_drewN | apply below_drew1 | refine below_set ?_ GE124.out | refine below_set ?_ GE125.out) | exact HB.out)⟩

end Go.Proofs.Ytcofjbbflcnaaaa.P
