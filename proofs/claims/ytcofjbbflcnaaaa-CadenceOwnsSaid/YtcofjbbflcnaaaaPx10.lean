-- Written by this session's own program (wip/tools/myprint.py), which runs the kit's print with turns of its own: not a text of the kit's print.sh.
import Derived.Test.YtcofjbbflcnaaaaPx0
import Derived.Test.YtcofjbbflcnaaaaPx22
import Derived.Test.YtcofjbbflcnaaaaPx26
namespace Go.Proofs.Ytcofjbbflcnaaaa.P
open Go.RowKit Go.Proofs.YtcofjbbflcnaaaaW.PrintWords Go.Proofs.YtcofjbbflcnaaaaW.PrintLast Go.Proofs.YtcofjbbflcnaaaaW.PrintMore
attribute [local go_sem] max2_int min2_int max_two min_two max_three min_three max_four min_four   -- for this text's walks alone
set_option linter.unusedVariables false
set_option linter.unusedSimpArgs false

/-! ### cutroomlaw20_CadenceOwns: function 9 -/
def cutroomlaw20_CadenceOwns.j0 : Nat → Int → Int → Bool → Int → Int → Option (Bool)
  | 0, _, _, _, _, _ => none
  | k + 1, x0, x5, x26, x243000, x243001 => if x26 = true then ((cutroomlaw20_awake.f k).bind fun t245 => (some t245)) else ((cadence_Sample.f k x5 x243000 x243001).bind fun bt246 => ((cadence_Sample.f k (wrap64 (x5 + 1)) x243000 x243001).bind fun bt248 => (if bt246.2 = 0 then (if bt248.2 = 0 then (if bt246.1 ≤ x0 then (if x0 < bt248.1 then ((cutroomlaw20_awake.f k).bind fun t250 => (some t250)) else (some false)) else (some false)) else (some false)) else (some false))))
def cutroomlaw20_CadenceOwns.f (k : Nat) (a0 : Int) (a1_0 : Int) (a1_1 : Int) : Option (Bool) := (cadence_Owner.f k a0 a1_0 a1_1).bind fun bt243 => (if bt243.2 = 0 then (if bt243.1 ≤ (-2147483648) then (cutroomlaw20_CadenceOwns.j0 k a0 bt243.1 true a1_0 a1_1) else (cutroomlaw20_CadenceOwns.j0 k a0 bt243.1 (decide (bt243.1 ≥ 2147483647)) a1_0 a1_1)) else (cutroomlaw20_CadenceOwns.j0 k a0 bt243.1 true a1_0 a1_1))
theorem cutroomlaw20_CadenceOwns.mono_l : ∀ k, (∀ y0 y1 y2 y3 y4, LeO (cutroomlaw20_CadenceOwns.j0 k y0 y1 y2 y3 y4) (cutroomlaw20_CadenceOwns.j0 (k + 1) y0 y1 y2 y3 y4))
  | 0 => fun _ _ _ _ _ r h => by simp [cutroomlaw20_CadenceOwns.j0] at h
  | k + 1 => by
    have ih0 := cutroomlaw20_CadenceOwns.mono_l k
    · intro y0 y1 y2 y3 y4
      unfold cutroomlaw20_CadenceOwns.j0
      repeat' first
      | (with_reducible exact ih0 _ _ _ _ _)
      | (with_reducible exact cadence_Owner.mono _ _ _ _)
      | (with_reducible exact cadence_Sample.mono _ _ _ _)
      | (with_reducible exact cutroomlaw20_awake.mono _)
      | (with_reducible exact LeO.refl _)
      | (with_reducible exact LeO.none _)
      | (with_reducible refine LeO.ite ?_ ?_)
      | (with_reducible refine LeO.bind ?_ (fun _ => ?_))
      | exact ih0 _ _ _ _ _
      | exact cadence_Owner.mono _ _ _ _
      | exact cadence_Sample.mono _ _ _ _
      | exact cutroomlaw20_awake.mono _
      | exact LeO.none _
      | refine LeO.ite ?_ ?_
      | refine LeO.bind ?_ (fun _ => ?_)
theorem cutroomlaw20_CadenceOwns.mono : ∀ a0 a1 a2 k, LeO (cutroomlaw20_CadenceOwns.f k a0 a1 a2) (cutroomlaw20_CadenceOwns.f (k + 1) a0 a1 a2) := by
  intro a0 a1 a2 k
  have ih0 := cutroomlaw20_CadenceOwns.mono_l k
  unfold cutroomlaw20_CadenceOwns.f
  repeat' first
      | (with_reducible exact ih0 _ _ _ _ _)
      | (with_reducible exact cadence_Owner.mono _ _ _ _)
      | (with_reducible exact cadence_Sample.mono _ _ _ _)
      | (with_reducible exact cutroomlaw20_awake.mono _)
      | (with_reducible exact LeO.refl _)
      | (with_reducible exact LeO.none _)
      | (with_reducible refine LeO.ite ?_ ?_)
      | (with_reducible refine LeO.bind ?_ (fun _ => ?_))
      | exact ih0 _ _ _ _ _
      | exact cadence_Owner.mono _ _ _ _
      | exact cadence_Sample.mono _ _ _ _
      | exact cutroomlaw20_awake.mono _
      | exact LeO.none _
      | refine LeO.ite ?_ ?_
      | refine LeO.bind ?_ (fun _ => ?_)
set_option maxHeartbeats 8000000 in
set_option maxRecDepth 100000 in
theorem cutroomlaw20_CadenceOwns.calls (k : Nat) (a0 : Int) (a1_0 : Int) (a1_1 : Int) (r : Bool) (w : World) (h : cutroomlaw20_CadenceOwns.f k a0 a1_0 a1_1 = some r) :
    Calls Try.prog 9 #[.int .i64 a0, .agg #[.int .i64 a1_0, .int .i64 a1_1]] w fun e w' => e = .returned (.bool r) ∧ Below w.heap.size w w' := by
  have hu23 := Try.underlying23
  have HB := Aside0.mk (Below.refl w.heap.size w)
  have H : ((cadence_Owner.f k a0 a1_0 a1_1).bind fun bt243 => (if bt243.2 = 0 then (if bt243.1 ≤ (-2147483648) then (cutroomlaw20_CadenceOwns.j0 k a0 bt243.1 true a1_0 a1_1) else (cutroomlaw20_CadenceOwns.j0 k a0 bt243.1 (decide (bt243.1 ≥ 2147483647)) a1_0 a1_1)) else (cutroomlaw20_CadenceOwns.j0 k a0 bt243.1 true a1_0 a1_1))) = some r := h
  clear h
  replace H := Option.bind_eq_some_iff.mp H
  obtain ⟨⟨t243, t244⟩, A30, H⟩ := H
  replace H : (if t244 = 0 then (if t243 ≤ (-2147483648) then (cutroomlaw20_CadenceOwns.j0 k a0 t243 true a1_0 a1_1) else (cutroomlaw20_CadenceOwns.j0 k a0 t243 (decide (t243 ≥ 2147483647)) a1_0 a1_1)) else (cutroomlaw20_CadenceOwns.j0 k a0 t243 true a1_0 a1_1)) = some r := H
  have A3 := Aside0.mk A30
  clear A30
  have HC4 := Aside0.mk H
  clear H
  go_enter Try.func9, Try.ntmps9
  go_upto_region 2 with (first | ((with_reducible refine gate_dst (N := 3) rfl ?_); refine box_event ?hg (N := 3) ?hd (cs := #[.int .i64 a1_0, .int .i64 a1_1]) (t := 23) ?hr ?_; (case hd => rfl); (case hg => rfl); (case hr => first | (go_simp; done) | (go_simp; rfl)); intro gb242 hg w5 hbox hb; have n0_ := Aside0.mk (below_step (by repeat (first | (with_reducible first | exact HB.out | apply below_alloc | apply pw_below_drewN | apply below_drew1) | exact HB.out)) hb); have n1_ := Aside0.mk (hbox); have n2_ := Aside0.mk ((by rw [hg]; exact (below_size (by repeat (first | (with_reducible first | exact HB.out | apply below_alloc | apply pw_below_drewN | apply below_drew1) | exact HB.out))) : w.heap.size ≤ gb242)); have n3_ := Aside0.mk ((by rw [hg]; exact (below_size (by repeat (first | (with_reducible first | exact HB.out | apply below_alloc | apply pw_below_drewN | apply below_drew1) | exact HB.out))) : w.heap.size ≤ gb242)); clear HB; have HB := n0_; have BK242 := n1_; have GW242 := n2_; have GE242 := n3_; clear n0_ n1_ n2_ n3_; clear hb hbox hg; have hcz6_0 : w5.cell? ⟨gb242, 0, none⟩ = some (.int .i64 a1_0) := (blk_cell BK242.out 0).trans rfl; have hcz6_1 : w5.cell? ⟨gb242, 1, none⟩ = some (.int .i64 a1_1) := (blk_cell BK242.out 1).trans rfl; have hfz6_0 := blk_frozen BK242.out 0; have hfz6_1 := blk_frozen BK242.out 1) | ((with_reducible refine gate_callee (f := 27) rfl ?_); refine goesL_ (some 14) rfl rfl Try.func27 (by kernel_rfl) rfl #[.int .i64 a0, .agg #[.int .i64 a1_0, .int .i64 a1_1]] rfl (by (try simp only [List.map_toArray, List.map_cons, List.map_nil]); first | done | rfl | (simp only [List.length_drop, List.length_take]; rfl)) ?_; (with_reducible refine (cadence_Owner.calls k a0 a1_0 a1_1 t243 t244 _ A3.out).mono ?_); rintro e w7 ⟨rfl, hb⟩; refine ⟨_, rfl, ?_⟩; have n0_ := Aside0.mk (blk_below (g := gb242) (o := .cells #[.int .i64 a1_0, .int .i64 a1_1] 23 (0, 0)) (by (with_reducible repeat (first | refine blk_drewN ?_ _ | refine blk_drew ?_ | refine blk_alloc ?_ _)); exact BK242.out) hb); have n1_ := Aside0.mk (below_step (by repeat (first | (with_reducible first | exact HB.out | apply below_alloc | apply pw_below_drewN | apply below_drew1 | refine below_set ?_ GE242.out) | exact HB.out)) hb); clear BK242; clear HB; have BK242 := n0_; have HB := n1_; clear n0_ n1_; (try clear hb); (try clear hb2); (try clear hk); (try clear hi)))
  (try simp only [Act.put, List.setIfInBounds_toArray, List.set_cons_zero, List.set_cons_succ])
  go_cut [26] (fun v26 wc => ∃ (kq : Nat) (x26_3 : Bool), v26 = .bool x26_3 ∧ Aside0 (cutroomlaw20_CadenceOwns.j0 kq a0 t243 x26_3 a1_0 a1_1 = some r) ∧ Aside0 (kq ≤ k) ∧ Aside0 (wc.heap[gb242]? = some (.cells #[.int .i64 a1_0, .int .i64 a1_1] 23 (0, 0))) ∧ Aside0 (Below w.heap.size w wc))
  case first =>
    have H := HC4.out
    clear HC4
    by_cases c8 : t244 = 0
    · rw [if_pos c8] at H
      have c8b0 : (t244 == 0) = true := beq_iff_eq.mpr c8
      have c8b1 : (t244 != 0) = false := bne_eq_false_iff_eq.mpr c8
      clear c8
      (first | rw [c8b0] | (simp only [i64_w, i32_w]; rw [c8b0]) | skip)
      by_cases c9 : t243 ≤ (-2147483648)
      · rw [if_pos c9] at H
        have c9b0 : decide (t243 ≤ (-2147483648)) = true := decide_eq_true c9
        clear c9
        have H' := Aside0.mk H
        clear H
        go_wp2
        go_meet
        case rel => exact ⟨_, (true), (by first | rfl | (simp; done) | (simp [*]; done)), H', ⟨by first | omega | exact Nat.le_refl _⟩, ⟨by (with_reducible repeat (first | refine blk_drewN ?_ _ | refine blk_drew ?_ | refine blk_alloc ?_ _)); exact BK242.out⟩, ⟨by repeat (first | (with_reducible first | exact HB.out | apply below_alloc | apply pw_below_drewN | apply below_drew1 | refine below_set ?_ GE242.out) | exact HB.out)⟩⟩
      · rw [if_neg c9] at H
        have c9b0 : decide (t243 ≤ (-2147483648)) = false := decide_eq_false c9
        clear c9
        have H' := Aside0.mk H
        clear H
        go_wp2
        go_meet
        case rel => exact ⟨_, (decide (t243 ≥ 2147483647)), (by first | rfl | (simp; done) | (simp [*]; done)), H', ⟨by first | omega | exact Nat.le_refl _⟩, ⟨by (with_reducible repeat (first | refine blk_drewN ?_ _ | refine blk_drew ?_ | refine blk_alloc ?_ _)); exact BK242.out⟩, ⟨by repeat (first | (with_reducible first | exact HB.out | apply below_alloc | apply pw_below_drewN | apply below_drew1 | refine below_set ?_ GE242.out) | exact HB.out)⟩⟩
    · rw [if_neg c8] at H
      have c8b0 : (t244 == 0) = false := beq_eq_false_iff_ne.mpr c8
      have c8b1 : (t244 != 0) = true := bne_iff_ne.mpr c8
      (first | rw [c8b0] | (simp only [i64_w, i32_w]; rw [c8b0]) | skip)
      have H' := Aside0.mk H
      clear H
      go_wp2
      go_meet
      case rel => exact ⟨_, (true), (by first | rfl | (simp; done) | (simp [*]; done)), H', ⟨by first | omega | exact Nat.le_refl _⟩, ⟨by (with_reducible repeat (first | refine blk_drewN ?_ _ | refine blk_drew ?_ | refine blk_alloc ?_ _)); exact BK242.out⟩, ⟨by repeat (first | (with_reducible first | exact HB.out | apply below_alloc | apply pw_below_drewN | apply below_drew1 | refine below_set ?_ GE242.out) | exact HB.out)⟩⟩
  case rest =>
    clear HC4
    try clear c2
    try clear p2
    try clear c8
    try clear c8b0
    try clear c8b1
    try clear c9
    try clear c9b0
    try clear hcz6_0
    try clear hcz6_1
    try clear hfz6_0
    try clear hfz6_1
    obtain ⟨kq, x26_3, rfl, HA, HJ3, BK242, HB⟩ := hcut
    cases kq with
    | zero => exact absurd HA.out (by simp [cutroomlaw20_CadenceOwns.j0])
    | succ kj3 =>
      have H := HA.out
      clear HA
      simp only [cutroomlaw20_CadenceOwns.j0] at H
      by_cases c10 : x26_3 = true
      · subst c10
        have H1 : ((cutroomlaw20_awake.f kj3).bind fun t245 => (some t245)) = some r := by rw [if_pos rfl] at H; exact H
        clear H
        have H := H1
        clear H1
        replace H := Option.bind_eq_some_iff.mp H
        obtain ⟨t245, A110, H⟩ := H
        replace H : (some t245) = some r := H
        have A11 := Aside0.mk A110
        clear A110
        obtain rfl := Option.some.inj H
        go_wp2_with (first | ((with_reducible refine gate_callee (f := 21) rfl ?_); refine goesL_ (some 27) rfl rfl Try.func21 (by kernel_rfl) rfl #[] rfl (by (try simp only [List.map_toArray, List.map_cons, List.map_nil]); first | done | rfl | (simp only [List.length_drop, List.length_take]; rfl)) ?_; (with_reducible refine (cutroomlaw20_awake.calls kj3  t245 _ A11.out).mono ?_); rintro e w12 ⟨rfl, hb⟩; refine ⟨_, rfl, ?_⟩; have n0_ := Aside0.mk (blk_below (g := gb242) (o := .cells #[.int .i64 a1_0, .int .i64 a1_1] 23 (0, 0)) (by (with_reducible repeat (first | refine blk_drewN ?_ _ | refine blk_drew ?_ | refine blk_alloc ?_ _)); exact BK242.out) hb); have n1_ := Aside0.mk (below_step (by repeat (first | (with_reducible first | exact HB.out | apply below_alloc | apply pw_below_drewN | apply below_drew1 | refine below_set ?_ GE242.out) | exact HB.out)) hb); clear BK242; clear HB; have BK242 := n0_; have HB := n1_; clear n0_ n1_; (try clear hb); (try clear hb2); (try clear hk); (try clear hi)))
        go_ret
        exact ⟨by first | rfl | (simp [errW_none, errW_some] <;> rfl) | (simp [*, errW_none, errW_some] <;> rfl), by repeat (first | (with_reducible first | exact HB.out | apply below_alloc | apply pw_below_drewN | apply below_drew1 | refine below_set ?_ GE242.out) | exact HB.out)⟩
      · replace c10 := Bool.eq_false_iff.mpr c10
        subst c10
        have H1 : ((cadence_Sample.f kj3 t243 a1_0 a1_1).bind fun bt246 => ((cadence_Sample.f kj3 (wrap64 (t243 + 1)) a1_0 a1_1).bind fun bt248 => (if bt246.2 = 0 then (if bt248.2 = 0 then (if bt246.1 ≤ a0 then (if a0 < bt248.1 then ((cutroomlaw20_awake.f kj3).bind fun t250 => (some t250)) else (some false)) else (some false)) else (some false)) else (some false)))) = some r := by rw [if_neg (show ¬ (false = true) by decide)] at H; exact H
        clear H
        have H := H1
        clear H1
        replace H := Option.bind_eq_some_iff.mp H
        obtain ⟨⟨t246, t247⟩, A130, H⟩ := H
        replace H : ((cadence_Sample.f kj3 (wrap64 (t243 + 1)) a1_0 a1_1).bind fun bt248 => (if t247 = 0 then (if bt248.2 = 0 then (if t246 ≤ a0 then (if a0 < bt248.1 then ((cutroomlaw20_awake.f kj3).bind fun t250 => (some t250)) else (some false)) else (some false)) else (some false)) else (some false))) = some r := H
        have A13 := Aside0.mk A130
        clear A130
        replace H := Option.bind_eq_some_iff.mp H
        obtain ⟨⟨t248, t249⟩, A140, H⟩ := H
        replace H : (if t247 = 0 then (if t249 = 0 then (if t246 ≤ a0 then (if a0 < t248 then ((cutroomlaw20_awake.f kj3).bind fun t250 => (some t250)) else (some false)) else (some false)) else (some false)) else (some false)) = some r := H
        have A14 := Aside0.mk A140
        clear A140
        by_cases c15 : t247 = 0
        · rw [if_pos c15] at H
          have c15b0 : (t247 == 0) = true := beq_iff_eq.mpr c15
          have c15b1 : (t247 != 0) = false := bne_eq_false_iff_eq.mpr c15
          clear c15
          by_cases c16 : t249 = 0
          · rw [if_pos c16] at H
            have c16b0 : (t249 == 0) = true := beq_iff_eq.mpr c16
            have c16b1 : (t249 != 0) = false := bne_eq_false_iff_eq.mpr c16
            clear c16
            by_cases c17 : t246 ≤ a0
            · rw [if_pos c17] at H
              have c17b0 : decide (t246 ≤ a0) = true := decide_eq_true c17
              clear c17
              by_cases c18 : a0 < t248
              · rw [if_pos c18] at H
                have c18b0 : decide (a0 < t248) = true := decide_eq_true c18
                clear c18
                replace H := Option.bind_eq_some_iff.mp H
                obtain ⟨t250, A190, H⟩ := H
                replace H : (some t250) = some r := H
                have A19 := Aside0.mk A190
                clear A190
                obtain rfl := Option.some.inj H
                have hcz20_0 : wc.cell? ⟨gb242, 0, none⟩ = some (.int .i64 a1_0) := (blk_cell BK242.out 0).trans rfl
                have hcz20_1 : wc.cell? ⟨gb242, 1, none⟩ = some (.int .i64 a1_1) := (blk_cell BK242.out 1).trans rfl
                have hfz20_0 := blk_frozen BK242.out 0
                have hfz20_1 := blk_frozen BK242.out 1
                go_wp2_with (first | ((with_reducible refine gate_callee (f := 25) rfl ?_); refine goesL_ (some 31) rfl rfl Try.func25 (by kernel_rfl) rfl #[.int .i64 t243, .agg #[.int .i64 a1_0, .int .i64 a1_1]] rfl (by (try simp only [List.map_toArray, List.map_cons, List.map_nil]); first | done | rfl | (simp only [List.length_drop, List.length_take]; rfl)) ?_; (with_reducible refine (cadence_Sample.calls kj3 t243 a1_0 a1_1 t246 t247 _ A13.out).mono ?_); rintro e w21 ⟨rfl, hb⟩; refine ⟨_, rfl, ?_⟩; have n0_ := Aside0.mk (blk_below (g := gb242) (o := .cells #[.int .i64 a1_0, .int .i64 a1_1] 23 (0, 0)) (by (with_reducible repeat (first | refine blk_drewN ?_ _ | refine blk_drew ?_ | refine blk_alloc ?_ _)); exact BK242.out) hb); have n1_ := Aside0.mk (below_step (by repeat (first | (with_reducible first | exact HB.out | apply below_alloc | apply pw_below_drewN | apply below_drew1 | refine below_set ?_ GE242.out) | exact HB.out)) hb); clear BK242; clear HB; have BK242 := n0_; have HB := n1_; clear n0_ n1_; (try clear hb); (try clear hb2); (try clear hk); (try clear hi); have hcz22_0 : w21.cell? ⟨gb242, 0, none⟩ = some (.int .i64 a1_0) := (blk_cell BK242.out 0).trans rfl; have hcz22_1 : w21.cell? ⟨gb242, 1, none⟩ = some (.int .i64 a1_1) := (blk_cell BK242.out 1).trans rfl; have hfz22_0 := blk_frozen BK242.out 0; have hfz22_1 := blk_frozen BK242.out 1) | ((with_reducible refine gate_callee (f := 25) rfl ?_); refine goesL_ (some 38) rfl rfl Try.func25 (by kernel_rfl) rfl #[.int .i64 (wrap64 (t243 + 1)), .agg #[.int .i64 a1_0, .int .i64 a1_1]] rfl (by (try simp only [List.map_toArray, List.map_cons, List.map_nil]); first | done | rfl | (simp only [List.length_drop, List.length_take]; rfl)) ?_; (with_reducible refine (cadence_Sample.calls kj3 (wrap64 (t243 + 1)) a1_0 a1_1 t248 t249 _ A14.out).mono ?_); rintro e w23 ⟨rfl, hb⟩; refine ⟨_, rfl, ?_⟩; have n0_ := Aside0.mk (blk_below (g := gb242) (o := .cells #[.int .i64 a1_0, .int .i64 a1_1] 23 (0, 0)) (by (with_reducible repeat (first | refine blk_drewN ?_ _ | refine blk_drew ?_ | refine blk_alloc ?_ _)); exact BK242.out) hb); have n1_ := Aside0.mk (below_step (by repeat (first | (with_reducible first | exact HB.out | apply below_alloc | apply pw_below_drewN | apply below_drew1 | refine below_set ?_ GE242.out) | exact HB.out)) hb); clear BK242; clear HB; have BK242 := n0_; have HB := n1_; clear n0_ n1_; (try clear hb); (try clear hb2); (try clear hk); (try clear hi)) | (go_at_call 21; (with_reducible refine (cutroomlaw20_awake.calls kj3  t250 _ A19.out).mono ?_); rintro e w24 ⟨rfl, hb⟩; have n0_ := Aside0.mk (blk_below (g := gb242) (o := .cells #[.int .i64 a1_0, .int .i64 a1_1] 23 (0, 0)) (by (with_reducible repeat (first | refine blk_drewN ?_ _ | refine blk_drew ?_ | refine blk_alloc ?_ _)); exact BK242.out) hb); have n1_ := Aside0.mk (below_step (by repeat (first | (with_reducible first | exact HB.out | apply below_alloc | apply pw_below_drewN | apply below_drew1 | refine below_set ?_ GE242.out) | exact HB.out)) hb); clear BK242; clear HB; have BK242 := n0_; have HB := n1_; clear n0_ n1_; (try clear hb); (try clear hb2); (try clear hk); (try clear hi)))
                go_ret
                exact ⟨by first | rfl | (simp [errW_none, errW_some] <;> rfl) | (simp [*, errW_none, errW_some] <;> rfl), by repeat (first | (with_reducible first | exact HB.out | apply below_alloc | apply pw_below_drewN | apply below_drew1 | refine below_set ?_ GE242.out) | exact HB.out)⟩
              · rw [if_neg c18] at H
                have c18b0 : decide (a0 < t248) = false := decide_eq_false c18
                clear c18
                obtain rfl := Option.some.inj H
                have hcz25_0 : wc.cell? ⟨gb242, 0, none⟩ = some (.int .i64 a1_0) := (blk_cell BK242.out 0).trans rfl
                have hcz25_1 : wc.cell? ⟨gb242, 1, none⟩ = some (.int .i64 a1_1) := (blk_cell BK242.out 1).trans rfl
                have hfz25_0 := blk_frozen BK242.out 0
                have hfz25_1 := blk_frozen BK242.out 1
                go_wp2_with (first | ((with_reducible refine gate_callee (f := 25) rfl ?_); refine goesL_ (some 31) rfl rfl Try.func25 (by kernel_rfl) rfl #[.int .i64 t243, .agg #[.int .i64 a1_0, .int .i64 a1_1]] rfl (by (try simp only [List.map_toArray, List.map_cons, List.map_nil]); first | done | rfl | (simp only [List.length_drop, List.length_take]; rfl)) ?_; (with_reducible refine (cadence_Sample.calls kj3 t243 a1_0 a1_1 t246 t247 _ A13.out).mono ?_); rintro e w26 ⟨rfl, hb⟩; refine ⟨_, rfl, ?_⟩; have n0_ := Aside0.mk (blk_below (g := gb242) (o := .cells #[.int .i64 a1_0, .int .i64 a1_1] 23 (0, 0)) (by (with_reducible repeat (first | refine blk_drewN ?_ _ | refine blk_drew ?_ | refine blk_alloc ?_ _)); exact BK242.out) hb); have n1_ := Aside0.mk (below_step (by repeat (first | (with_reducible first | exact HB.out | apply below_alloc | apply pw_below_drewN | apply below_drew1 | refine below_set ?_ GE242.out) | exact HB.out)) hb); clear BK242; clear HB; have BK242 := n0_; have HB := n1_; clear n0_ n1_; (try clear hb); (try clear hb2); (try clear hk); (try clear hi); have hcz27_0 : w26.cell? ⟨gb242, 0, none⟩ = some (.int .i64 a1_0) := (blk_cell BK242.out 0).trans rfl; have hcz27_1 : w26.cell? ⟨gb242, 1, none⟩ = some (.int .i64 a1_1) := (blk_cell BK242.out 1).trans rfl; have hfz27_0 := blk_frozen BK242.out 0; have hfz27_1 := blk_frozen BK242.out 1) | ((with_reducible refine gate_callee (f := 25) rfl ?_); refine goesL_ (some 38) rfl rfl Try.func25 (by kernel_rfl) rfl #[.int .i64 (wrap64 (t243 + 1)), .agg #[.int .i64 a1_0, .int .i64 a1_1]] rfl (by (try simp only [List.map_toArray, List.map_cons, List.map_nil]); first | done | rfl | (simp only [List.length_drop, List.length_take]; rfl)) ?_; (with_reducible refine (cadence_Sample.calls kj3 (wrap64 (t243 + 1)) a1_0 a1_1 t248 t249 _ A14.out).mono ?_); rintro e w28 ⟨rfl, hb⟩; refine ⟨_, rfl, ?_⟩; have n0_ := Aside0.mk (blk_below (g := gb242) (o := .cells #[.int .i64 a1_0, .int .i64 a1_1] 23 (0, 0)) (by (with_reducible repeat (first | refine blk_drewN ?_ _ | refine blk_drew ?_ | refine blk_alloc ?_ _)); exact BK242.out) hb); have n1_ := Aside0.mk (below_step (by repeat (first | (with_reducible first | exact HB.out | apply below_alloc | apply pw_below_drewN | apply below_drew1 | refine below_set ?_ GE242.out) | exact HB.out)) hb); clear BK242; clear HB; have BK242 := n0_; have HB := n1_; clear n0_ n1_; (try clear hb); (try clear hb2); (try clear hk); (try clear hi)))
                go_ret
                exact ⟨by first | rfl | (simp [errW_none, errW_some] <;> rfl) | (simp [*, errW_none, errW_some] <;> rfl), by repeat (first | (with_reducible first | exact HB.out | apply below_alloc | apply pw_below_drewN | apply below_drew1 | refine below_set ?_ GE242.out) | exact HB.out)⟩
            · rw [if_neg c17] at H
              have c17b0 : decide (t246 ≤ a0) = false := decide_eq_false c17
              clear c17
              obtain rfl := Option.some.inj H
              have hcz29_0 : wc.cell? ⟨gb242, 0, none⟩ = some (.int .i64 a1_0) := (blk_cell BK242.out 0).trans rfl
              have hcz29_1 : wc.cell? ⟨gb242, 1, none⟩ = some (.int .i64 a1_1) := (blk_cell BK242.out 1).trans rfl
              have hfz29_0 := blk_frozen BK242.out 0
              have hfz29_1 := blk_frozen BK242.out 1
              go_wp2_with (first | ((with_reducible refine gate_callee (f := 25) rfl ?_); refine goesL_ (some 31) rfl rfl Try.func25 (by kernel_rfl) rfl #[.int .i64 t243, .agg #[.int .i64 a1_0, .int .i64 a1_1]] rfl (by (try simp only [List.map_toArray, List.map_cons, List.map_nil]); first | done | rfl | (simp only [List.length_drop, List.length_take]; rfl)) ?_; (with_reducible refine (cadence_Sample.calls kj3 t243 a1_0 a1_1 t246 t247 _ A13.out).mono ?_); rintro e w30 ⟨rfl, hb⟩; refine ⟨_, rfl, ?_⟩; have n0_ := Aside0.mk (blk_below (g := gb242) (o := .cells #[.int .i64 a1_0, .int .i64 a1_1] 23 (0, 0)) (by (with_reducible repeat (first | refine blk_drewN ?_ _ | refine blk_drew ?_ | refine blk_alloc ?_ _)); exact BK242.out) hb); have n1_ := Aside0.mk (below_step (by repeat (first | (with_reducible first | exact HB.out | apply below_alloc | apply pw_below_drewN | apply below_drew1 | refine below_set ?_ GE242.out) | exact HB.out)) hb); clear BK242; clear HB; have BK242 := n0_; have HB := n1_; clear n0_ n1_; (try clear hb); (try clear hb2); (try clear hk); (try clear hi); have hcz31_0 : w30.cell? ⟨gb242, 0, none⟩ = some (.int .i64 a1_0) := (blk_cell BK242.out 0).trans rfl; have hcz31_1 : w30.cell? ⟨gb242, 1, none⟩ = some (.int .i64 a1_1) := (blk_cell BK242.out 1).trans rfl; have hfz31_0 := blk_frozen BK242.out 0; have hfz31_1 := blk_frozen BK242.out 1) | ((with_reducible refine gate_callee (f := 25) rfl ?_); refine goesL_ (some 38) rfl rfl Try.func25 (by kernel_rfl) rfl #[.int .i64 (wrap64 (t243 + 1)), .agg #[.int .i64 a1_0, .int .i64 a1_1]] rfl (by (try simp only [List.map_toArray, List.map_cons, List.map_nil]); first | done | rfl | (simp only [List.length_drop, List.length_take]; rfl)) ?_; (with_reducible refine (cadence_Sample.calls kj3 (wrap64 (t243 + 1)) a1_0 a1_1 t248 t249 _ A14.out).mono ?_); rintro e w32 ⟨rfl, hb⟩; refine ⟨_, rfl, ?_⟩; have n0_ := Aside0.mk (blk_below (g := gb242) (o := .cells #[.int .i64 a1_0, .int .i64 a1_1] 23 (0, 0)) (by (with_reducible repeat (first | refine blk_drewN ?_ _ | refine blk_drew ?_ | refine blk_alloc ?_ _)); exact BK242.out) hb); have n1_ := Aside0.mk (below_step (by repeat (first | (with_reducible first | exact HB.out | apply below_alloc | apply pw_below_drewN | apply below_drew1 | refine below_set ?_ GE242.out) | exact HB.out)) hb); clear BK242; clear HB; have BK242 := n0_; have HB := n1_; clear n0_ n1_; (try clear hb); (try clear hb2); (try clear hk); (try clear hi)))
              go_ret
              exact ⟨by first | rfl | (simp [errW_none, errW_some] <;> rfl) | (simp [*, errW_none, errW_some] <;> rfl), by repeat (first | (with_reducible first | exact HB.out | apply below_alloc | apply pw_below_drewN | apply below_drew1 | refine below_set ?_ GE242.out) | exact HB.out)⟩
          · rw [if_neg c16] at H
            have c16b0 : (t249 == 0) = false := beq_eq_false_iff_ne.mpr c16
            have c16b1 : (t249 != 0) = true := bne_iff_ne.mpr c16
            obtain rfl := Option.some.inj H
            have hcz33_0 : wc.cell? ⟨gb242, 0, none⟩ = some (.int .i64 a1_0) := (blk_cell BK242.out 0).trans rfl
            have hcz33_1 : wc.cell? ⟨gb242, 1, none⟩ = some (.int .i64 a1_1) := (blk_cell BK242.out 1).trans rfl
            have hfz33_0 := blk_frozen BK242.out 0
            have hfz33_1 := blk_frozen BK242.out 1
            go_wp2_with (first | ((with_reducible refine gate_callee (f := 25) rfl ?_); refine goesL_ (some 31) rfl rfl Try.func25 (by kernel_rfl) rfl #[.int .i64 t243, .agg #[.int .i64 a1_0, .int .i64 a1_1]] rfl (by (try simp only [List.map_toArray, List.map_cons, List.map_nil]); first | done | rfl | (simp only [List.length_drop, List.length_take]; rfl)) ?_; (with_reducible refine (cadence_Sample.calls kj3 t243 a1_0 a1_1 t246 t247 _ A13.out).mono ?_); rintro e w34 ⟨rfl, hb⟩; refine ⟨_, rfl, ?_⟩; have n0_ := Aside0.mk (blk_below (g := gb242) (o := .cells #[.int .i64 a1_0, .int .i64 a1_1] 23 (0, 0)) (by (with_reducible repeat (first | refine blk_drewN ?_ _ | refine blk_drew ?_ | refine blk_alloc ?_ _)); exact BK242.out) hb); have n1_ := Aside0.mk (below_step (by repeat (first | (with_reducible first | exact HB.out | apply below_alloc | apply pw_below_drewN | apply below_drew1 | refine below_set ?_ GE242.out) | exact HB.out)) hb); clear BK242; clear HB; have BK242 := n0_; have HB := n1_; clear n0_ n1_; (try clear hb); (try clear hb2); (try clear hk); (try clear hi); have hcz35_0 : w34.cell? ⟨gb242, 0, none⟩ = some (.int .i64 a1_0) := (blk_cell BK242.out 0).trans rfl; have hcz35_1 : w34.cell? ⟨gb242, 1, none⟩ = some (.int .i64 a1_1) := (blk_cell BK242.out 1).trans rfl; have hfz35_0 := blk_frozen BK242.out 0; have hfz35_1 := blk_frozen BK242.out 1) | ((with_reducible refine gate_callee (f := 25) rfl ?_); refine goesL_ (some 38) rfl rfl Try.func25 (by kernel_rfl) rfl #[.int .i64 (wrap64 (t243 + 1)), .agg #[.int .i64 a1_0, .int .i64 a1_1]] rfl (by (try simp only [List.map_toArray, List.map_cons, List.map_nil]); first | done | rfl | (simp only [List.length_drop, List.length_take]; rfl)) ?_; (with_reducible refine (cadence_Sample.calls kj3 (wrap64 (t243 + 1)) a1_0 a1_1 t248 t249 _ A14.out).mono ?_); rintro e w36 ⟨rfl, hb⟩; refine ⟨_, rfl, ?_⟩; have n0_ := Aside0.mk (blk_below (g := gb242) (o := .cells #[.int .i64 a1_0, .int .i64 a1_1] 23 (0, 0)) (by (with_reducible repeat (first | refine blk_drewN ?_ _ | refine blk_drew ?_ | refine blk_alloc ?_ _)); exact BK242.out) hb); have n1_ := Aside0.mk (below_step (by repeat (first | (with_reducible first | exact HB.out | apply below_alloc | apply pw_below_drewN | apply below_drew1 | refine below_set ?_ GE242.out) | exact HB.out)) hb); clear BK242; clear HB; have BK242 := n0_; have HB := n1_; clear n0_ n1_; (try clear hb); (try clear hb2); (try clear hk); (try clear hi)))
            go_ret
            exact ⟨by first | rfl | (simp [errW_none, errW_some] <;> rfl) | (simp [*, errW_none, errW_some] <;> rfl), by repeat (first | (with_reducible first | exact HB.out | apply below_alloc | apply pw_below_drewN | apply below_drew1 | refine below_set ?_ GE242.out) | exact HB.out)⟩
        · rw [if_neg c15] at H
          have c15b0 : (t247 == 0) = false := beq_eq_false_iff_ne.mpr c15
          have c15b1 : (t247 != 0) = true := bne_iff_ne.mpr c15
          obtain rfl := Option.some.inj H
          have hcz37_0 : wc.cell? ⟨gb242, 0, none⟩ = some (.int .i64 a1_0) := (blk_cell BK242.out 0).trans rfl
          have hcz37_1 : wc.cell? ⟨gb242, 1, none⟩ = some (.int .i64 a1_1) := (blk_cell BK242.out 1).trans rfl
          have hfz37_0 := blk_frozen BK242.out 0
          have hfz37_1 := blk_frozen BK242.out 1
          go_wp2_with (first | ((with_reducible refine gate_callee (f := 25) rfl ?_); refine goesL_ (some 31) rfl rfl Try.func25 (by kernel_rfl) rfl #[.int .i64 t243, .agg #[.int .i64 a1_0, .int .i64 a1_1]] rfl (by (try simp only [List.map_toArray, List.map_cons, List.map_nil]); first | done | rfl | (simp only [List.length_drop, List.length_take]; rfl)) ?_; (with_reducible refine (cadence_Sample.calls kj3 t243 a1_0 a1_1 t246 t247 _ A13.out).mono ?_); rintro e w38 ⟨rfl, hb⟩; refine ⟨_, rfl, ?_⟩; have n0_ := Aside0.mk (blk_below (g := gb242) (o := .cells #[.int .i64 a1_0, .int .i64 a1_1] 23 (0, 0)) (by (with_reducible repeat (first | refine blk_drewN ?_ _ | refine blk_drew ?_ | refine blk_alloc ?_ _)); exact BK242.out) hb); have n1_ := Aside0.mk (below_step (by repeat (first | (with_reducible first | exact HB.out | apply below_alloc | apply pw_below_drewN | apply below_drew1 | refine below_set ?_ GE242.out) | exact HB.out)) hb); clear BK242; clear HB; have BK242 := n0_; have HB := n1_; clear n0_ n1_; (try clear hb); (try clear hb2); (try clear hk); (try clear hi); have hcz39_0 : w38.cell? ⟨gb242, 0, none⟩ = some (.int .i64 a1_0) := (blk_cell BK242.out 0).trans rfl; have hcz39_1 : w38.cell? ⟨gb242, 1, none⟩ = some (.int .i64 a1_1) := (blk_cell BK242.out 1).trans rfl; have hfz39_0 := blk_frozen BK242.out 0; have hfz39_1 := blk_frozen BK242.out 1) | ((with_reducible refine gate_callee (f := 25) rfl ?_); refine goesL_ (some 38) rfl rfl Try.func25 (by kernel_rfl) rfl #[.int .i64 (wrap64 (t243 + 1)), .agg #[.int .i64 a1_0, .int .i64 a1_1]] rfl (by (try simp only [List.map_toArray, List.map_cons, List.map_nil]); first | done | rfl | (simp only [List.length_drop, List.length_take]; rfl)) ?_; (with_reducible refine (cadence_Sample.calls kj3 (wrap64 (t243 + 1)) a1_0 a1_1 t248 t249 _ A14.out).mono ?_); rintro e w40 ⟨rfl, hb⟩; refine ⟨_, rfl, ?_⟩; have n0_ := Aside0.mk (blk_below (g := gb242) (o := .cells #[.int .i64 a1_0, .int .i64 a1_1] 23 (0, 0)) (by (with_reducible repeat (first | refine blk_drewN ?_ _ | refine blk_drew ?_ | refine blk_alloc ?_ _)); exact BK242.out) hb); have n1_ := Aside0.mk (below_step (by repeat (first | (with_reducible first | exact HB.out | apply below_alloc | apply pw_below_drewN | apply below_drew1 | refine below_set ?_ GE242.out) | exact HB.out)) hb); clear BK242; clear HB; have BK242 := n0_; have HB := n1_; clear n0_ n1_; (try clear hb); (try clear hb2); (try clear hk); (try clear hi)))
          go_ret
          exact ⟨by first | rfl | (simp [errW_none, errW_some] <;> rfl) | (simp [*, errW_none, errW_some] <;> rfl), by repeat (first | (with_reducible first | exact HB.out | apply below_alloc | apply pw_below_drewN | apply below_drew1 | refine below_set ?_ GE242.out) | exact HB.out)⟩

/-- THE ONE PURE STATEMENT of cutroomlaw20_CadenceOwns: yours. -/
def cutroomlaw20_CadenceOwns.Pure : Prop := ∀ (a0 : Int) (a1_0 : Int) (a1_1 : Int), (Lit.int .i64 a0).wf = true → (Lit.int .i64 a1_0).wf = true → (Lit.int .i64 a1_1).wf = true → ∃ k, cutroomlaw20_CadenceOwns.f k a0 a1_0 a1_1 = some true

end Go.Proofs.Ytcofjbbflcnaaaa.P
