-- Written by this session's own program (wip/tools/myprint.py), which runs the kit's print with turns of its own: not a text of the kit's print.sh.
import Derived.Test.YtdndhbfagoghfaaPx0
import Derived.Test.YtdndhbfagoghfaaPx28
namespace Go.Proofs.Ytdndhbfagoghfaa.P
open Go.RowKit Go.Proofs.YtdndhbfagoghfaaW.PrintWords Go.Proofs.YtdndhbfagoghfaaW.PrintLast Go.Proofs.YtdndhbfagoghfaaW.PrintMore
attribute [local go_sem] max2_int min2_int max_two min_two max_three min_three max_four min_four   -- for this text's walks alone
set_option linter.unusedVariables false
set_option linter.unusedSimpArgs false

/-! ### transport_within: function 47 -/
def transport_within.f (a0 : Int) : Option (Int) := some (Int.tmod (wrap64 ((Int.tmod a0 2576980377600) + 2576980377600)) 2576980377600)
set_option maxHeartbeats 8000000 in
set_option maxRecDepth 100000 in
theorem transport_within.calls (a0 : Int) (r : Int) (w : World) (h : transport_within.f a0 = some r) :
    Calls Try.prog 47 #[.int .i64 a0] w fun e w' => e = .returned (.int .i64 r) ∧ Drawn0 w w' := by
  have H : (some (Int.tmod (wrap64 ((Int.tmod a0 2576980377600) + 2576980377600)) 2576980377600)) = some r := h
  clear h
  obtain rfl := Option.some.inj H
  go_enter Try.func47, Try.ntmps47
  go_wp2
  go_ret
  exact ⟨by first | rfl | (simp; done) | (simp [*]; done), by repeat (first | exact Drawn0.refl _ | apply Drawn0.step)⟩

/-! ### transport_Jitter: function 29 -/
mutual
def transport_Jitter.j0 : Nat → List (S28) → Int → Int → Bool → Option (Int × Int)
  | 0, _, _, _, _ => none
  | k + 1, x0, x1, x2, x21 => if x21 = true then (some (0, 1)) else (transport_Jitter.l0 k x1 x2 (-1) 0 x0 (x0.length : Int) 0)
def transport_Jitter.l0 : Nat → Int → Int → Int → Int → List (S28) → Int → Int → Option (Int × Int)
  | 0, _, _, _, _, _, _, _ => none
  | k + 1, x1, x2, x8, x9, x22, x23, x24 => if x24 < x23 then (if 0 ≤ x24 then (if x24 < (x22.length : Int) then (if ((rd_T28 x22 x24).f0) = x1 then (if ((rd_T28 x22 x24).f3) < 0 then (transport_Jitter.j2 k x1 x2 x8 x9 x24 x22 x23 x24 true ((rd_T28 x22 x24).f0) ((rd_T28 x22 x24).f1) ((rd_T28 x22 x24).f2) ((rd_T28 x22 x24).f3) ((rd_T28 x22 x24).f4)) else (transport_Jitter.j2 k x1 x2 x8 x9 x24 x22 x23 x24 (decide (((rd_T28 x22 x24).f3) ≥ 2576980377600)) ((rd_T28 x22 x24).f0) ((rd_T28 x22 x24).f1) ((rd_T28 x22 x24).f2) ((rd_T28 x22 x24).f3) ((rd_T28 x22 x24).f4))) else (transport_Jitter.j2 k x1 x2 x8 x9 x24 x22 x23 x24 true ((rd_T28 x22 x24).f0) ((rd_T28 x22 x24).f1) ((rd_T28 x22 x24).f2) ((rd_T28 x22 x24).f3) ((rd_T28 x22 x24).f4))) else (none)) else (none)) else (some (x9, 0))
def transport_Jitter.j2 : Nat → Int → Int → Int → Int → Int → List (S28) → Int → Int → Bool → Int → Int → Bool → Int → List Int → Option (Int × Int)
  | 0, _, _, _, _, _, _, _, _, _, _, _, _, _, _ => none
  | k + 1, x1, x2, x8, x9, x10, x22, x23, x24, x42, x657000, x657001, x657002, x657003, x657004 => if x42 = true then (transport_Jitter.l0 k x1 x2 x8 x9 x22 x23 (wrap64 (x24 + 1))) else ((transport_Arrival.f k x10 x2).bind fun bt657 => (if bt657.2 = 0 then ((transport_within.f bt657.1).bind fun t659 => ((transport_within.f (wrap64 (x657003 - t659))).bind fun t660 => (if x8 < 0 then ((transport_within.f (wrap64 (t660 - t660))).bind fun t661 => (transport_Jitter.l0 k x1 x2 t660 (mx x9 (mn t661 (wrap64 (2576980377600 - t661)))) x22 x23 (wrap64 (x24 + 1)))) else ((transport_within.f (wrap64 (t660 - x8))).bind fun t662 => (transport_Jitter.l0 k x1 x2 x8 (mx x9 (mn t662 (wrap64 (2576980377600 - t662)))) x22 x23 (wrap64 (x24 + 1))))))) else (some (0, bt657.2))))
end
def transport_Jitter.f (k : Nat) (l0 : List (S28)) (a1 : Int) (a2 : Int) : Option (Int × Int) := if a2 < 1 then (transport_Jitter.j0 k l0 a1 a2 true) else (transport_Jitter.j0 k l0 a1 a2 (decide (a2 > 1073741824)))
theorem transport_Jitter.mono_l : ∀ k, (∀ y0 y1 y2 y3, LeO (transport_Jitter.j0 k y0 y1 y2 y3) (transport_Jitter.j0 (k + 1) y0 y1 y2 y3)) ∧ (∀ y0 y1 y2 y3 y4 y5 y6, LeO (transport_Jitter.l0 k y0 y1 y2 y3 y4 y5 y6) (transport_Jitter.l0 (k + 1) y0 y1 y2 y3 y4 y5 y6)) ∧ (∀ y0 y1 y2 y3 y4 y5 y6 y7 y8 y9 y10 y11 y12 y13, LeO (transport_Jitter.j2 k y0 y1 y2 y3 y4 y5 y6 y7 y8 y9 y10 y11 y12 y13) (transport_Jitter.j2 (k + 1) y0 y1 y2 y3 y4 y5 y6 y7 y8 y9 y10 y11 y12 y13))
  | 0 => ⟨fun _ _ _ _ r h => by simp [transport_Jitter.j0] at h, fun _ _ _ _ _ _ _ r h => by simp [transport_Jitter.l0] at h, fun _ _ _ _ _ _ _ _ _ _ _ _ _ _ r h => by simp [transport_Jitter.j2] at h⟩
  | k + 1 => by
    obtain ⟨ih0, ih1, ih2⟩ := transport_Jitter.mono_l k
    refine ⟨?_, ?_, ?_⟩
    · intro y0 y1 y2 y3
      unfold transport_Jitter.j0
      repeat' first
      | (with_reducible exact ih0 _ _ _ _)
      | (with_reducible exact ih1 _ _ _ _ _ _ _)
      | (with_reducible exact ih2 _ _ _ _ _ _ _ _ _ _ _ _ _ _)
      | (with_reducible exact transport_Arrival.mono _ _ _)
      | (with_reducible exact LeO.refl _)
      | (with_reducible exact LeO.none _)
      | (with_reducible refine LeO.ite ?_ ?_)
      | (with_reducible refine LeO.bind ?_ (fun _ => ?_))
      | exact ih0 _ _ _ _
      | exact ih1 _ _ _ _ _ _ _
      | exact ih2 _ _ _ _ _ _ _ _ _ _ _ _ _ _
      | exact transport_Arrival.mono _ _ _
      | exact LeO.none _
      | refine LeO.ite ?_ ?_
      | refine LeO.bind ?_ (fun _ => ?_)
    · intro y0 y1 y2 y3 y4 y5 y6
      unfold transport_Jitter.l0
      repeat' first
      | (with_reducible exact ih0 _ _ _ _)
      | (with_reducible exact ih1 _ _ _ _ _ _ _)
      | (with_reducible exact ih2 _ _ _ _ _ _ _ _ _ _ _ _ _ _)
      | (with_reducible exact transport_Arrival.mono _ _ _)
      | (with_reducible exact LeO.refl _)
      | (with_reducible exact LeO.none _)
      | (with_reducible refine LeO.ite ?_ ?_)
      | (with_reducible refine LeO.bind ?_ (fun _ => ?_))
      | exact ih0 _ _ _ _
      | exact ih1 _ _ _ _ _ _ _
      | exact ih2 _ _ _ _ _ _ _ _ _ _ _ _ _ _
      | exact transport_Arrival.mono _ _ _
      | exact LeO.none _
      | refine LeO.ite ?_ ?_
      | refine LeO.bind ?_ (fun _ => ?_)
    · intro y0 y1 y2 y3 y4 y5 y6 y7 y8 y9 y10 y11 y12 y13
      unfold transport_Jitter.j2
      repeat' first
      | (with_reducible exact ih0 _ _ _ _)
      | (with_reducible exact ih1 _ _ _ _ _ _ _)
      | (with_reducible exact ih2 _ _ _ _ _ _ _ _ _ _ _ _ _ _)
      | (with_reducible exact transport_Arrival.mono _ _ _)
      | (with_reducible exact LeO.refl _)
      | (with_reducible exact LeO.none _)
      | (with_reducible refine LeO.ite ?_ ?_)
      | (with_reducible refine LeO.bind ?_ (fun _ => ?_))
      | exact ih0 _ _ _ _
      | exact ih1 _ _ _ _ _ _ _
      | exact ih2 _ _ _ _ _ _ _ _ _ _ _ _ _ _
      | exact transport_Arrival.mono _ _ _
      | exact LeO.none _
      | refine LeO.ite ?_ ?_
      | refine LeO.bind ?_ (fun _ => ?_)
theorem transport_Jitter.mono : ∀ a0 a1 a2 k, LeO (transport_Jitter.f k a0 a1 a2) (transport_Jitter.f (k + 1) a0 a1 a2) := by
  intro a0 a1 a2 k
  obtain ⟨ih0, ih1, ih2⟩ := transport_Jitter.mono_l k
  unfold transport_Jitter.f
  repeat' first
      | (with_reducible exact ih0 _ _ _ _)
      | (with_reducible exact ih1 _ _ _ _ _ _ _)
      | (with_reducible exact ih2 _ _ _ _ _ _ _ _ _ _ _ _ _ _)
      | (with_reducible exact transport_Arrival.mono _ _ _)
      | (with_reducible exact LeO.refl _)
      | (with_reducible exact LeO.none _)
      | (with_reducible refine LeO.ite ?_ ?_)
      | (with_reducible refine LeO.bind ?_ (fun _ => ?_))
      | exact ih0 _ _ _ _
      | exact ih1 _ _ _ _ _ _ _
      | exact ih2 _ _ _ _ _ _ _ _ _ _ _ _ _ _
      | exact transport_Arrival.mono _ _ _
      | exact LeO.none _
      | refine LeO.ite ?_ ?_
      | refine LeO.bind ?_ (fun _ => ?_)
set_option maxHeartbeats 8000000 in
set_option maxRecDepth 100000 in
theorem transport_Jitter.calls (k : Nat) (A0 : Option Addr) (c0 : Nat) (l0 : List (S28)) (a1 : Int) (a2 : Int) (r1 : Int) (r2 : Int) (w : World) (hr0 : Kd.C k28 w A0 l0.length l0) (hc0 : l0.length ≤ c0) (h : transport_Jitter.f k l0 a1 a2 = some (r1, r2)) :
    Calls Try.prog 29 #[.slice A0 l0.length c0, .int .i64 a1, .int .i64 a2] w fun e w' => e = .returned (.tuple #[.int .i64 r1, .int .i64 r2]) ∧ Below w.heap.size w w' := by
  have hu28 := Try.underlying28
  have HR0 := Aside0.mk hr0
  have HC0 := Aside0.mk hc0
  clear hr0 hc0
  have HB := Aside0.mk (Below.refl w.heap.size w)
  have H : (if a2 < 1 then (transport_Jitter.j0 k l0 a1 a2 true) else (transport_Jitter.j0 k l0 a1 a2 (decide (a2 > 1073741824)))) = some (r1, r2) := h
  clear h
  have HC4 := Aside0.mk H
  clear H
  go_enter Try.func29, Try.ntmps29
  go_upto_region 1 with (fail)
  repeat (go_quiet (fail); go_upto_region 1 with (fail))
  go_cut [21] (fun v21 wc => ∃ (kq : Nat) (x21_3 : Bool), v21 = .bool x21_3 ∧ Aside0 (transport_Jitter.j0 kq l0 a1 a2 x21_3 = some (r1, r2)) ∧ Aside0 (kq ≤ k) ∧ Aside0 (Below w.heap.size w wc))
  case first =>
    have H := HC4.out
    clear HC4
    by_cases c5 : a2 < 1
    · rw [if_pos c5] at H
      have c5b0 : decide (a2 < 1) = true := decide_eq_true c5
      clear c5
      (first | rw [c5b0] | (simp only [i64_w, i32_w]; rw [c5b0]) | skip)
      have H' := Aside0.mk H
      clear H
      go_wp2
      repeat (go_quiet (fail); try go_wp2)
      go_meet
      case rel => exact ⟨_, (true), (by first | rfl | (simp; done) | (simp [*]; done)), H', ⟨by first | omega | exact Nat.le_refl _⟩, ⟨by repeat (first | (with_reducible first | exact HB.out | apply below_alloc | apply pw_below_drewN | apply below_drew1) | exact HB.out)⟩⟩
    · rw [if_neg c5] at H
      have c5b0 : decide (a2 < 1) = false := decide_eq_false c5
      clear c5
      (first | rw [c5b0] | (simp only [i64_w, i32_w]; rw [c5b0]) | skip)
      have H' := Aside0.mk H
      clear H
      go_wp2
      repeat (go_quiet (fail); try go_wp2)
      go_meet
      case rel => exact ⟨_, (decide (a2 > 1073741824)), (by first | rfl | (simp; done) | (simp [*]; done)), H', ⟨by first | omega | exact Nat.le_refl _⟩, ⟨by repeat (first | (with_reducible first | exact HB.out | apply below_alloc | apply pw_below_drewN | apply below_drew1) | exact HB.out)⟩⟩
  case rest =>
    clear HC4
    try clear c2
    try clear p2
    try clear c5
    try clear c5b0
    obtain ⟨kq, x21_3, rfl, HA, HJ3, HB⟩ := hcut
    cases kq with
    | zero => exact absurd HA.out (by simp [transport_Jitter.j0])
    | succ kj3 =>
      have H := HA.out
      clear HA
      simp only [transport_Jitter.j0] at H
      by_cases c6 : x21_3 = true
      · subst c6
        have H1 : (some (0, 1)) = some (r1, r2) := by rw [if_pos rfl] at H; exact H
        clear H
        have H := H1
        clear H1
        simp only [Option.some.injEq, Prod.mk.injEq] at H
        obtain ⟨rfl, rfl⟩ := H
        go_wp2
        repeat (go_quiet (fail); try go_wp2)
        go_ret2
        exact ⟨by first | rfl | (simp [errW_none, errW_some] <;> rfl) | (simp [*, errW_none, errW_some] <;> rfl), by repeat (first | (with_reducible first | exact HB.out | apply below_alloc | apply pw_below_drewN | apply below_drew1) | exact HB.out)⟩
      · replace c6 := Bool.eq_false_iff.mpr c6
        subst c6
        have H1 : (transport_Jitter.l0 kj3 a1 a2 (-1) 0 l0 (l0.length : Int) 0) = some (r1, r2) := by rw [if_neg (show ¬ (false = true) by decide)] at H; exact H
        clear H
        have H := H1
        clear H1
        have H' := Aside0.mk H
        clear H
        go_wp2
        repeat (go_quiet (fail); try go_wp2)
        go_loopg [8, 9, 24] kj3 (fun kq v8 v9 v24 w' => ∃ (x8_2 : Int) (x9_2 : Int) (x24_2 : Int), v8 = .int .i64 x8_2 ∧ v9 = .int .i64 x9_2 ∧ v24 = .int .i64 x24_2 ∧ Aside0 (transport_Jitter.l0 kq a1 a2 x8_2 x9_2 l0 (l0.length : Int) x24_2 = some (r1, r2)) ∧ Aside0 (kq ≤ kj3) ∧ Aside0 (Below w.heap.size w w'))
        case atStart => exact ⟨((-1)), (0), (0), (by first | rfl | (simp; done) | (simp [*]; done)), (by first | rfl | (simp; done) | (simp [*]; done)), (by first | rfl | (simp; done) | (simp [*]; done)), H', ⟨Nat.le_refl _⟩, ⟨by repeat (first | (with_reducible first | exact HB.out | apply below_alloc | apply pw_below_drewN | apply below_drew1) | exact HB.out)⟩⟩
        case round =>
          clear H'
          try clear c2
          try clear p2
          try clear c5
          try clear c5b0
          try clear c6
          try clear p2
          obtain ⟨x8_2, x9_2, x24_2, rfl, rfl, rfl, HA, HK2, HB⟩ := hrel
          cases gk with
          | zero => exact absurd HA.out (by simp [transport_Jitter.l0])
          | succ k2 =>
            have H := HA.out
            clear HA
            simp only [transport_Jitter.l0] at H
            by_cases c7 : x24_2 < (l0.length : Int)
            · rw [if_pos c7] at H
              have c7b0 : decide (x24_2 < (l0.length : Int)) = true := decide_eq_true c7
              clear c7
              by_cases c8 : 0 ≤ x24_2
              · rw [if_pos c8] at H
                have c8b0 : decide (0 ≤ x24_2) = true := decide_eq_true c8
                clear c8
                by_cases c9 : x24_2 < (l0.length : Int)
                · rw [if_pos c9] at H
                  have c9b0 : decide (x24_2 < (l0.length : Int)) = true := decide_eq_true c9
                  clear c9
                  have HC10 := Aside0.mk H
                  clear H
                  have p655 : 0 ≤ (x24_2 : Int) := of_decide_eq_true (by first | (with_reducible assumption) | assumption)
                  have q655 : x24_2 < (l0.length : Int) := of_decide_eq_true (by first | (with_reducible assumption) | assumption)
                  obtain ⟨ad655, A655_4, c655_4, e655, hx655_0, hx655_1, hx655_2, hx655_3, hx655_4, hl655_4, hi655_4⟩ := at_T28 HR0.out x24_2 p655 q655
                  cases e655
                  replace hx655_0 := (HB.out.cell (World.block_lt_of_cell? w _ hx655_0)).trans hx655_0
                  replace hx655_1 := (HB.out.cell (World.block_lt_of_cell? w _ hx655_1)).trans hx655_1
                  replace hx655_2 := (HB.out.cell (World.block_lt_of_cell? w _ hx655_2)).trans hx655_2
                  replace hx655_3 := (HB.out.cell (World.block_lt_of_cell? w _ hx655_3)).trans hx655_3
                  replace hx655_4 := (HB.out.cell (World.block_lt_of_cell? w _ hx655_4)).trans hx655_4
                  have HR655_4 := Aside0.mk hi655_4
                  have HC655_4 := Aside0.mk hl655_4
                  clear hi655_4 hl655_4
                  replace p655 := eq_true p655
                  replace q655 := eq_true q655
                  go_upto_region 7 with (first | ((with_reducible refine gate_dst (N := 11) rfl ?_); refine box_event ?hg (N := 11) ?hd (cs := #[.int .i64 0, .int .i64 0, .bool false, .int .i64 0, .slice none 0 0]) (t := 28) ?hr ?_; (case hd => rfl); (case hg => rfl); (case hr => first | (go_simp; done) | (go_simp; rfl)); intro gb656 hg w11 hbox hb; have n0_ := Aside0.mk (below_step (by repeat (first | (with_reducible first | exact HB.out | apply below_alloc | apply pw_below_drewN | apply below_drew1) | exact HB.out)) hb); have n1_ := Aside0.mk (hbox); have n2_ := Aside0.mk ((by rw [hg]; exact (below_size (by repeat (first | (with_reducible first | exact HB.out | apply below_alloc | apply pw_below_drewN | apply below_drew1) | exact HB.out))) : w.heap.size ≤ gb656)); have n3_ := Aside0.mk ((by rw [hg]; exact (below_size (by repeat (first | (with_reducible first | exact HB.out | apply below_alloc | apply pw_below_drewN | apply below_drew1) | exact HB.out))) : w.heap.size ≤ gb656)); clear HB; have HB := n0_; have BK656 := n1_; have GW656 := n2_; have GE656 := n3_; clear n0_ n1_ n2_ n3_; clear hb hbox hg; have hcz12_0 : w11.cell? ⟨gb656, 0, none⟩ = some (.int .i64 0) := (blk_cell BK656.out 0).trans rfl; have hcz12_1 : w11.cell? ⟨gb656, 1, none⟩ = some (.int .i64 0) := (blk_cell BK656.out 1).trans rfl; have hcz12_2 : w11.cell? ⟨gb656, 2, none⟩ = some (.bool false) := (blk_cell BK656.out 2).trans rfl; have hcz12_3 : w11.cell? ⟨gb656, 3, none⟩ = some (.int .i64 0) := (blk_cell BK656.out 3).trans rfl; have hcz12_4 : w11.cell? ⟨gb656, 4, none⟩ = some (.slice none 0 0) := (blk_cell BK656.out 4).trans rfl; have hfz12_0 := blk_frozen BK656.out 0; have hfz12_1 := blk_frozen BK656.out 1; have hfz12_2 := blk_frozen BK656.out 2; have hfz12_3 := blk_frozen BK656.out 3; have hfz12_4 := blk_frozen BK656.out 4))
                  repeat (go_quiet (first | ((with_reducible refine gate_dst (N := 11) rfl ?_); refine box_event ?hg (N := 11) ?hd (cs := #[.int .i64 0, .int .i64 0, .bool false, .int .i64 0, .slice none 0 0]) (t := 28) ?hr ?_; (case hd => rfl); (case hg => rfl); (case hr => first | (go_simp; done) | (go_simp; rfl)); intro gb656 hg w11 hbox hb; have n0_ := Aside0.mk (below_step (by repeat (first | (with_reducible first | exact HB.out | apply below_alloc | apply pw_below_drewN | apply below_drew1) | exact HB.out)) hb); have n1_ := Aside0.mk (hbox); have n2_ := Aside0.mk ((by rw [hg]; exact (below_size (by repeat (first | (with_reducible first | exact HB.out | apply below_alloc | apply pw_below_drewN | apply below_drew1) | exact HB.out))) : w.heap.size ≤ gb656)); have n3_ := Aside0.mk ((by rw [hg]; exact (below_size (by repeat (first | (with_reducible first | exact HB.out | apply below_alloc | apply pw_below_drewN | apply below_drew1) | exact HB.out))) : w.heap.size ≤ gb656)); clear HB; have HB := n0_; have BK656 := n1_; have GW656 := n2_; have GE656 := n3_; clear n0_ n1_ n2_ n3_; clear hb hbox hg; have hcz12_0 : w11.cell? ⟨gb656, 0, none⟩ = some (.int .i64 0) := (blk_cell BK656.out 0).trans rfl; have hcz12_1 : w11.cell? ⟨gb656, 1, none⟩ = some (.int .i64 0) := (blk_cell BK656.out 1).trans rfl; have hcz12_2 : w11.cell? ⟨gb656, 2, none⟩ = some (.bool false) := (blk_cell BK656.out 2).trans rfl; have hcz12_3 : w11.cell? ⟨gb656, 3, none⟩ = some (.int .i64 0) := (blk_cell BK656.out 3).trans rfl; have hcz12_4 : w11.cell? ⟨gb656, 4, none⟩ = some (.slice none 0 0) := (blk_cell BK656.out 4).trans rfl; have hfz12_0 := blk_frozen BK656.out 0; have hfz12_1 := blk_frozen BK656.out 1; have hfz12_2 := blk_frozen BK656.out 2; have hfz12_3 := blk_frozen BK656.out 3; have hfz12_4 := blk_frozen BK656.out 4)); go_upto_region 7 with (first | ((with_reducible refine gate_dst (N := 11) rfl ?_); refine box_event ?hg (N := 11) ?hd (cs := #[.int .i64 0, .int .i64 0, .bool false, .int .i64 0, .slice none 0 0]) (t := 28) ?hr ?_; (case hd => rfl); (case hg => rfl); (case hr => first | (go_simp; done) | (go_simp; rfl)); intro gb656 hg w11 hbox hb; have n0_ := Aside0.mk (below_step (by repeat (first | (with_reducible first | exact HB.out | apply below_alloc | apply pw_below_drewN | apply below_drew1) | exact HB.out)) hb); have n1_ := Aside0.mk (hbox); have n2_ := Aside0.mk ((by rw [hg]; exact (below_size (by repeat (first | (with_reducible first | exact HB.out | apply below_alloc | apply pw_below_drewN | apply below_drew1) | exact HB.out))) : w.heap.size ≤ gb656)); have n3_ := Aside0.mk ((by rw [hg]; exact (below_size (by repeat (first | (with_reducible first | exact HB.out | apply below_alloc | apply pw_below_drewN | apply below_drew1) | exact HB.out))) : w.heap.size ≤ gb656)); clear HB; have HB := n0_; have BK656 := n1_; have GW656 := n2_; have GE656 := n3_; clear n0_ n1_ n2_ n3_; clear hb hbox hg; have hcz12_0 : w11.cell? ⟨gb656, 0, none⟩ = some (.int .i64 0) := (blk_cell BK656.out 0).trans rfl; have hcz12_1 : w11.cell? ⟨gb656, 1, none⟩ = some (.int .i64 0) := (blk_cell BK656.out 1).trans rfl; have hcz12_2 : w11.cell? ⟨gb656, 2, none⟩ = some (.bool false) := (blk_cell BK656.out 2).trans rfl; have hcz12_3 : w11.cell? ⟨gb656, 3, none⟩ = some (.int .i64 0) := (blk_cell BK656.out 3).trans rfl; have hcz12_4 : w11.cell? ⟨gb656, 4, none⟩ = some (.slice none 0 0) := (blk_cell BK656.out 4).trans rfl; have hfz12_0 := blk_frozen BK656.out 0; have hfz12_1 := blk_frozen BK656.out 1; have hfz12_2 := blk_frozen BK656.out 2; have hfz12_3 := blk_frozen BK656.out 3; have hfz12_4 := blk_frozen BK656.out 4)))
                  (try simp only [Act.put, List.setIfInBounds_toArray, List.set_cons_zero, List.set_cons_succ])
                  go_cut [42] (fun v42 wc => ∃ (kq : Nat) (x42_9 : Bool), v42 = .bool x42_9 ∧ Aside0 (transport_Jitter.j2 kq a1 a2 x8_2 x9_2 x24_2 l0 (l0.length : Int) x24_2 x42_9 ((rd_T28 l0 x24_2).f0) ((rd_T28 l0 x24_2).f1) ((rd_T28 l0 x24_2).f2) ((rd_T28 l0 x24_2).f3) ((rd_T28 l0 x24_2).f4) = some (r1, r2)) ∧ Aside0 (kq ≤ k2) ∧ Aside0 (wc.heap[gb656]? = some (.cells #[.int .i64 ((rd_T28 l0 x24_2).f0), .int .i64 ((rd_T28 l0 x24_2).f1), .bool ((rd_T28 l0 x24_2).f2), .int .i64 ((rd_T28 l0 x24_2).f3), (.slice A655_4 ((rd_T28 l0 x24_2).f4).length c655_4)] 28 (0, 0))) ∧ Aside0 (Below w.heap.size w wc))
                  case first =>
                    have H := HC10.out
                    clear HC10
                    by_cases c13 : ((rd_T28 l0 x24_2).f0) = a1
                    · rw [if_pos c13] at H
                      have c13b0 : (((rd_T28 l0 x24_2).f0) == a1) = true := beq_iff_eq.mpr c13
                      have c13b1 : (((rd_T28 l0 x24_2).f0) != a1) = false := bne_eq_false_iff_eq.mpr c13
                      clear c13
                      (first | rw [c13b0] | (simp only [i64_w, i32_w]; rw [c13b0]) | skip)
                      by_cases c14 : ((rd_T28 l0 x24_2).f3) < 0
                      · rw [if_pos c14] at H
                        have c14b0 : decide (((rd_T28 l0 x24_2).f3) < 0) = true := decide_eq_true c14
                        clear c14
                        have H' := Aside0.mk H
                        clear H
                        have hcz15_0 : w11.cell? ⟨gb656, 0, none⟩ = some (.int .i64 0) := (blk_cell BK656.out 0).trans rfl
                        have hcz15_1 : w11.cell? ⟨gb656, 1, none⟩ = some (.int .i64 0) := (blk_cell BK656.out 1).trans rfl
                        have hcz15_2 : w11.cell? ⟨gb656, 2, none⟩ = some (.bool false) := (blk_cell BK656.out 2).trans rfl
                        have hcz15_3 : w11.cell? ⟨gb656, 3, none⟩ = some (.int .i64 0) := (blk_cell BK656.out 3).trans rfl
                        have hcz15_4 : w11.cell? ⟨gb656, 4, none⟩ = some (.slice none 0 0) := (blk_cell BK656.out 4).trans rfl
                        have hfz15_0 := blk_frozen BK656.out 0
                        have hfz15_1 := blk_frozen BK656.out 1
                        have hfz15_2 := blk_frozen BK656.out 2
                        have hfz15_3 := blk_frozen BK656.out 3
                        have hfz15_4 := blk_frozen BK656.out 4
                        go_wp2
                        repeat (go_quiet (fail); try go_wp2)
                        go_meet
                        case rel => exact ⟨_, (true), (by first | rfl | (simp; done) | (simp [*]; done)), H', ⟨by have := HJ3.out; have := HK2.out; first | omega | exact Nat.le_refl _⟩, ⟨by (with_reducible repeat (first | refine blk_drewN ?_ _ | refine blk_drew ?_ | refine blk_alloc ?_ _)); refine blk_put (cs := #[.int .i64 ((rd_T28 l0 x24_2).f0), .int .i64 ((rd_T28 l0 x24_2).f1), .bool ((rd_T28 l0 x24_2).f2), .int .i64 ((rd_T28 l0 x24_2).f3), .slice none 0 0]) ?_ 4 _ rfl; (with_reducible repeat (first | refine blk_drewN ?_ _ | refine blk_drew ?_ | refine blk_alloc ?_ _)); refine blk_put (cs := #[.int .i64 ((rd_T28 l0 x24_2).f0), .int .i64 ((rd_T28 l0 x24_2).f1), .bool ((rd_T28 l0 x24_2).f2), .int .i64 0, .slice none 0 0]) ?_ 3 _ rfl; (with_reducible repeat (first | refine blk_drewN ?_ _ | refine blk_drew ?_ | refine blk_alloc ?_ _)); refine blk_put (cs := #[.int .i64 ((rd_T28 l0 x24_2).f0), .int .i64 ((rd_T28 l0 x24_2).f1), .bool false, .int .i64 0, .slice none 0 0]) ?_ 2 _ rfl; (with_reducible repeat (first | refine blk_drewN ?_ _ | refine blk_drew ?_ | refine blk_alloc ?_ _)); refine blk_put (cs := #[.int .i64 ((rd_T28 l0 x24_2).f0), .int .i64 0, .bool false, .int .i64 0, .slice none 0 0]) ?_ 1 _ rfl; (with_reducible repeat (first | refine blk_drewN ?_ _ | refine blk_drew ?_ | refine blk_alloc ?_ _)); refine blk_put (cs := #[.int .i64 0, .int .i64 0, .bool false, .int .i64 0, .slice none 0 0]) ?_ 0 _ rfl; (with_reducible repeat (first | refine blk_drewN ?_ _ | refine blk_drew ?_ | refine blk_alloc ?_ _)); exact BK656.out⟩, ⟨by repeat (first | (with_reducible first | exact HB.out | apply below_alloc | apply pw_below_drewN | apply below_drew1 | refine below_set ?_ GE656.out) | exact HB.out)⟩⟩
                      · rw [if_neg c14] at H
                        have c14b0 : decide (((rd_T28 l0 x24_2).f3) < 0) = false := decide_eq_false c14
                        clear c14
                        have H' := Aside0.mk H
                        clear H
                        have hcz16_0 : w11.cell? ⟨gb656, 0, none⟩ = some (.int .i64 0) := (blk_cell BK656.out 0).trans rfl
                        have hcz16_1 : w11.cell? ⟨gb656, 1, none⟩ = some (.int .i64 0) := (blk_cell BK656.out 1).trans rfl
                        have hcz16_2 : w11.cell? ⟨gb656, 2, none⟩ = some (.bool false) := (blk_cell BK656.out 2).trans rfl
                        have hcz16_3 : w11.cell? ⟨gb656, 3, none⟩ = some (.int .i64 0) := (blk_cell BK656.out 3).trans rfl
                        have hcz16_4 : w11.cell? ⟨gb656, 4, none⟩ = some (.slice none 0 0) := (blk_cell BK656.out 4).trans rfl
                        have hfz16_0 := blk_frozen BK656.out 0
                        have hfz16_1 := blk_frozen BK656.out 1
                        have hfz16_2 := blk_frozen BK656.out 2
                        have hfz16_3 := blk_frozen BK656.out 3
                        have hfz16_4 := blk_frozen BK656.out 4
                        go_wp2
                        repeat (go_quiet (fail); try go_wp2)
                        go_meet
                        case rel => exact ⟨_, (decide (((rd_T28 l0 x24_2).f3) ≥ 2576980377600)), (by first | rfl | (simp; done) | (simp [*]; done)), H', ⟨by have := HJ3.out; have := HK2.out; first | omega | exact Nat.le_refl _⟩, ⟨by (with_reducible repeat (first | refine blk_drewN ?_ _ | refine blk_drew ?_ | refine blk_alloc ?_ _)); refine blk_put (cs := #[.int .i64 ((rd_T28 l0 x24_2).f0), .int .i64 ((rd_T28 l0 x24_2).f1), .bool ((rd_T28 l0 x24_2).f2), .int .i64 ((rd_T28 l0 x24_2).f3), .slice none 0 0]) ?_ 4 _ rfl; (with_reducible repeat (first | refine blk_drewN ?_ _ | refine blk_drew ?_ | refine blk_alloc ?_ _)); refine blk_put (cs := #[.int .i64 ((rd_T28 l0 x24_2).f0), .int .i64 ((rd_T28 l0 x24_2).f1), .bool ((rd_T28 l0 x24_2).f2), .int .i64 0, .slice none 0 0]) ?_ 3 _ rfl; (with_reducible repeat (first | refine blk_drewN ?_ _ | refine blk_drew ?_ | refine blk_alloc ?_ _)); refine blk_put (cs := #[.int .i64 ((rd_T28 l0 x24_2).f0), .int .i64 ((rd_T28 l0 x24_2).f1), .bool false, .int .i64 0, .slice none 0 0]) ?_ 2 _ rfl; (with_reducible repeat (first | refine blk_drewN ?_ _ | refine blk_drew ?_ | refine blk_alloc ?_ _)); refine blk_put (cs := #[.int .i64 ((rd_T28 l0 x24_2).f0), .int .i64 0, .bool false, .int .i64 0, .slice none 0 0]) ?_ 1 _ rfl; (with_reducible repeat (first | refine blk_drewN ?_ _ | refine blk_drew ?_ | refine blk_alloc ?_ _)); refine blk_put (cs := #[.int .i64 0, .int .i64 0, .bool false, .int .i64 0, .slice none 0 0]) ?_ 0 _ rfl; (with_reducible repeat (first | refine blk_drewN ?_ _ | refine blk_drew ?_ | refine blk_alloc ?_ _)); exact BK656.out⟩, ⟨by repeat (first | (with_reducible first | exact HB.out | apply below_alloc | apply pw_below_drewN | apply below_drew1 | refine below_set ?_ GE656.out) | exact HB.out)⟩⟩
                    · rw [if_neg c13] at H
                      have c13b0 : (((rd_T28 l0 x24_2).f0) == a1) = false := beq_eq_false_iff_ne.mpr c13
                      have c13b1 : (((rd_T28 l0 x24_2).f0) != a1) = true := bne_iff_ne.mpr c13
                      (first | rw [c13b0] | (simp only [i64_w, i32_w]; rw [c13b0]) | skip)
                      have H' := Aside0.mk H
                      clear H
                      have hcz17_0 : w11.cell? ⟨gb656, 0, none⟩ = some (.int .i64 0) := (blk_cell BK656.out 0).trans rfl
                      have hcz17_1 : w11.cell? ⟨gb656, 1, none⟩ = some (.int .i64 0) := (blk_cell BK656.out 1).trans rfl
                      have hcz17_2 : w11.cell? ⟨gb656, 2, none⟩ = some (.bool false) := (blk_cell BK656.out 2).trans rfl
                      have hcz17_3 : w11.cell? ⟨gb656, 3, none⟩ = some (.int .i64 0) := (blk_cell BK656.out 3).trans rfl
                      have hcz17_4 : w11.cell? ⟨gb656, 4, none⟩ = some (.slice none 0 0) := (blk_cell BK656.out 4).trans rfl
                      have hfz17_0 := blk_frozen BK656.out 0
                      have hfz17_1 := blk_frozen BK656.out 1
                      have hfz17_2 := blk_frozen BK656.out 2
                      have hfz17_3 := blk_frozen BK656.out 3
                      have hfz17_4 := blk_frozen BK656.out 4
                      go_wp2
                      repeat (go_quiet (fail); try go_wp2)
                      go_meet
                      case rel => exact ⟨_, (true), (by first | rfl | (simp; done) | (simp [*]; done)), H', ⟨by have := HJ3.out; have := HK2.out; first | omega | exact Nat.le_refl _⟩, ⟨by (with_reducible repeat (first | refine blk_drewN ?_ _ | refine blk_drew ?_ | refine blk_alloc ?_ _)); refine blk_put (cs := #[.int .i64 ((rd_T28 l0 x24_2).f0), .int .i64 ((rd_T28 l0 x24_2).f1), .bool ((rd_T28 l0 x24_2).f2), .int .i64 ((rd_T28 l0 x24_2).f3), .slice none 0 0]) ?_ 4 _ rfl; (with_reducible repeat (first | refine blk_drewN ?_ _ | refine blk_drew ?_ | refine blk_alloc ?_ _)); refine blk_put (cs := #[.int .i64 ((rd_T28 l0 x24_2).f0), .int .i64 ((rd_T28 l0 x24_2).f1), .bool ((rd_T28 l0 x24_2).f2), .int .i64 0, .slice none 0 0]) ?_ 3 _ rfl; (with_reducible repeat (first | refine blk_drewN ?_ _ | refine blk_drew ?_ | refine blk_alloc ?_ _)); refine blk_put (cs := #[.int .i64 ((rd_T28 l0 x24_2).f0), .int .i64 ((rd_T28 l0 x24_2).f1), .bool false, .int .i64 0, .slice none 0 0]) ?_ 2 _ rfl; (with_reducible repeat (first | refine blk_drewN ?_ _ | refine blk_drew ?_ | refine blk_alloc ?_ _)); refine blk_put (cs := #[.int .i64 ((rd_T28 l0 x24_2).f0), .int .i64 0, .bool false, .int .i64 0, .slice none 0 0]) ?_ 1 _ rfl; (with_reducible repeat (first | refine blk_drewN ?_ _ | refine blk_drew ?_ | refine blk_alloc ?_ _)); refine blk_put (cs := #[.int .i64 0, .int .i64 0, .bool false, .int .i64 0, .slice none 0 0]) ?_ 0 _ rfl; (with_reducible repeat (first | refine blk_drewN ?_ _ | refine blk_drew ?_ | refine blk_alloc ?_ _)); exact BK656.out⟩, ⟨by repeat (first | (with_reducible first | exact HB.out | apply below_alloc | apply pw_below_drewN | apply below_drew1 | refine below_set ?_ GE656.out) | exact HB.out)⟩⟩
                  case rest =>
                    clear HC10
                    try clear c1
                    try clear c2
                    try clear p2
                    try clear c5
                    try clear c5b0
                    try clear c6
                    try clear p6
                    try clear q6
                    try clear hx6
                    try clear c7
                    try clear c7b0
                    try clear c8
                    try clear c8b0
                    try clear c9
                    try clear c9b0
                    try clear c13
                    try clear c13b0
                    try clear c13b1
                    try clear c14
                    try clear c14b0
                    try clear hcz12_0
                    try clear hcz12_1
                    try clear hcz12_2
                    try clear hcz12_3
                    try clear hcz12_4
                    try clear hcz15_0
                    try clear hcz15_1
                    try clear hcz15_2
                    try clear hcz15_3
                    try clear hcz15_4
                    try clear hcz16_0
                    try clear hcz16_1
                    try clear hcz16_2
                    try clear hcz16_3
                    try clear hcz16_4
                    try clear hcz17_0
                    try clear hcz17_1
                    try clear hcz17_2
                    try clear hcz17_3
                    try clear hcz17_4
                    try clear hfz12_0
                    try clear hfz12_1
                    try clear hfz12_2
                    try clear hfz12_3
                    try clear hfz12_4
                    try clear hfz15_0
                    try clear hfz15_1
                    try clear hfz15_2
                    try clear hfz15_3
                    try clear hfz15_4
                    try clear hfz16_0
                    try clear hfz16_1
                    try clear hfz16_2
                    try clear hfz16_3
                    try clear hfz16_4
                    try clear hfz17_0
                    try clear hfz17_1
                    try clear hfz17_2
                    try clear hfz17_3
                    try clear hfz17_4
                    try clear hx655_0
                    try clear hx655_1
                    try clear hx655_2
                    try clear hx655_3
                    try clear hx655_4
                    try clear p2
                    try clear p655
                    try clear q655
                    obtain ⟨kq, x42_9, rfl, HA, HJ9, BK656, HB⟩ := hcut
                    cases kq with
                    | zero => exact absurd HA.out (by simp [transport_Jitter.j2])
                    | succ kj9 =>
                      have H := HA.out
                      clear HA
                      simp only [transport_Jitter.j2] at H
                      by_cases c18 : x42_9 = true
                      · subst c18
                        have H1 : (transport_Jitter.l0 kj9 a1 a2 x8_2 x9_2 l0 (l0.length : Int) (wrap64 (x24_2 + 1))) = some (r1, r2) := by rw [if_pos rfl] at H; exact H
                        clear H
                        have H := H1
                        clear H1
                        have H' := Aside0.mk H
                        clear H
                        go_wp2
                        repeat (go_quiet (fail); try go_wp2)
                        go_roundg kj9
                        case measure => have := HJ3.out; have := HK2.out; have := HJ9.out; omega
                        case rel => exact ⟨(x8_2), (x9_2), (wrap64 (x24_2 + 1)), (by first | rfl | (simp; done) | (simp [*]; done)), (by first | rfl | (simp; done) | (simp [*]; done)), (by first | rfl | (simp; done) | (simp [*]; done)), H', ⟨by have := HJ3.out; have := HK2.out; have := HJ9.out; omega⟩, ⟨by repeat (first | (with_reducible first | exact HB.out | apply below_alloc | apply pw_below_drewN | apply below_drew1 | refine below_set ?_ GE656.out) | exact HB.out)⟩⟩
                      · replace c18 := Bool.eq_false_iff.mpr c18
                        subst c18
                        have H1 : ((transport_Arrival.f kj9 x24_2 a2).bind fun bt657 => (if bt657.2 = 0 then ((transport_within.f bt657.1).bind fun t659 => ((transport_within.f (wrap64 (((rd_T28 l0 x24_2).f3) - t659))).bind fun t660 => (if x8_2 < 0 then ((transport_within.f (wrap64 (t660 - t660))).bind fun t661 => (transport_Jitter.l0 kj9 a1 a2 t660 (mx x9_2 (mn t661 (wrap64 (2576980377600 - t661)))) l0 (l0.length : Int) (wrap64 (x24_2 + 1)))) else ((transport_within.f (wrap64 (t660 - x8_2))).bind fun t662 => (transport_Jitter.l0 kj9 a1 a2 x8_2 (mx x9_2 (mn t662 (wrap64 (2576980377600 - t662)))) l0 (l0.length : Int) (wrap64 (x24_2 + 1))))))) else (some (0, bt657.2)))) = some (r1, r2) := by rw [if_neg (show ¬ (false = true) by decide)] at H; exact H
                        clear H
                        have H := H1
                        clear H1
                        replace H := Option.bind_eq_some_iff.mp H
                        obtain ⟨⟨t657, t658⟩, A190, H⟩ := H
                        replace H : (if t658 = 0 then ((transport_within.f t657).bind fun t659 => ((transport_within.f (wrap64 (((rd_T28 l0 x24_2).f3) - t659))).bind fun t660 => (if x8_2 < 0 then ((transport_within.f (wrap64 (t660 - t660))).bind fun t661 => (transport_Jitter.l0 kj9 a1 a2 t660 (mx x9_2 (mn t661 (wrap64 (2576980377600 - t661)))) l0 (l0.length : Int) (wrap64 (x24_2 + 1)))) else ((transport_within.f (wrap64 (t660 - x8_2))).bind fun t662 => (transport_Jitter.l0 kj9 a1 a2 x8_2 (mx x9_2 (mn t662 (wrap64 (2576980377600 - t662)))) l0 (l0.length : Int) (wrap64 (x24_2 + 1))))))) else (some (0, t658))) = some (r1, r2) := H
                        have A19 := Aside0.mk A190
                        clear A190
                        by_cases c20 : t658 = 0
                        · rw [if_pos c20] at H
                          have c20b0 : (t658 == 0) = true := beq_iff_eq.mpr c20
                          have c20b1 : (t658 != 0) = false := bne_eq_false_iff_eq.mpr c20
                          clear c20
                          replace H := Option.bind_eq_some_iff.mp H
                          obtain ⟨t659, A210, H⟩ := H
                          replace H : ((transport_within.f (wrap64 (((rd_T28 l0 x24_2).f3) - t659))).bind fun t660 => (if x8_2 < 0 then ((transport_within.f (wrap64 (t660 - t660))).bind fun t661 => (transport_Jitter.l0 kj9 a1 a2 t660 (mx x9_2 (mn t661 (wrap64 (2576980377600 - t661)))) l0 (l0.length : Int) (wrap64 (x24_2 + 1)))) else ((transport_within.f (wrap64 (t660 - x8_2))).bind fun t662 => (transport_Jitter.l0 kj9 a1 a2 x8_2 (mx x9_2 (mn t662 (wrap64 (2576980377600 - t662)))) l0 (l0.length : Int) (wrap64 (x24_2 + 1)))))) = some (r1, r2) := H
                          have A21 := Aside0.mk A210
                          clear A210
                          replace H := Option.bind_eq_some_iff.mp H
                          obtain ⟨t660, A220, H⟩ := H
                          replace H : (if x8_2 < 0 then ((transport_within.f (wrap64 (t660 - t660))).bind fun t661 => (transport_Jitter.l0 kj9 a1 a2 t660 (mx x9_2 (mn t661 (wrap64 (2576980377600 - t661)))) l0 (l0.length : Int) (wrap64 (x24_2 + 1)))) else ((transport_within.f (wrap64 (t660 - x8_2))).bind fun t662 => (transport_Jitter.l0 kj9 a1 a2 x8_2 (mx x9_2 (mn t662 (wrap64 (2576980377600 - t662)))) l0 (l0.length : Int) (wrap64 (x24_2 + 1))))) = some (r1, r2) := H
                          have A22 := Aside0.mk A220
                          clear A220
                          by_cases c23 : x8_2 < 0
                          · rw [if_pos c23] at H
                            have c23b0 : decide (x8_2 < 0) = true := decide_eq_true c23
                            clear c23
                            replace H := Option.bind_eq_some_iff.mp H
                            obtain ⟨t661, A240, H⟩ := H
                            replace H : (transport_Jitter.l0 kj9 a1 a2 t660 (mx x9_2 (mn t661 (wrap64 (2576980377600 - t661)))) l0 (l0.length : Int) (wrap64 (x24_2 + 1))) = some (r1, r2) := H
                            have A24 := Aside0.mk A240
                            clear A240
                            obtain ⟨ji25, hji25⟩ : ∃ j_ : Int, (mn t661 (wrap64 (2576980377600 - t661))) = j_ := ⟨_, rfl⟩
                            replace H : (transport_Jitter.l0 kj9 a1 a2 t660 (mx x9_2 (ji25)) l0 (l0.length : Int) (wrap64 (x24_2 + 1))) = some (r1, r2) := by first | (rw [hji25] at H; exact H) | (simp only [hji25] at H ⊢; exact H)
                            (try rw [hji25] at A19)
                            (try rw [hji25] at A21)
                            (try rw [hji25] at A22)
                            (try rw [hji25] at A24)
                            have hji25_ : (if (wrap64 (2576980377600 - t661)) < t661 then (wrap64 (2576980377600 - t661)) else t661) = ji25 := hji25
                            obtain ⟨ji26, hji26⟩ : ∃ j_ : Int, (mx x9_2 (ji25)) = j_ := ⟨_, rfl⟩
                            replace H : (transport_Jitter.l0 kj9 a1 a2 t660 ji26 l0 (l0.length : Int) (wrap64 (x24_2 + 1))) = some (r1, r2) := by first | (rw [hji26] at H; exact H) | (simp only [hji26] at H ⊢; exact H)
                            (try rw [hji26] at A19)
                            (try rw [hji26] at A21)
                            (try rw [hji26] at A22)
                            (try rw [hji26] at A24)
                            have hji26_ : (if x9_2 < (ji25) then (ji25) else x9_2) = ji26 := hji26
                            have H' := Aside0.mk H
                            clear H
                            go_wp2_with (first | (go_at_call 27; (with_reducible refine (transport_Arrival.calls kj9 x24_2 a2 t657 t658 _ A19.out).mono ?_); rintro e w27 ⟨rfl, hb⟩; have n0_ := Aside0.mk (blk_below (g := gb656) (o := .cells #[.int .i64 ((rd_T28 l0 x24_2).f0), .int .i64 ((rd_T28 l0 x24_2).f1), .bool ((rd_T28 l0 x24_2).f2), .int .i64 ((rd_T28 l0 x24_2).f3), .slice A655_4 ((rd_T28 l0 x24_2).f4).length c655_4] 28 (0, 0)) (by (with_reducible repeat (first | refine blk_drewN ?_ _ | refine blk_drew ?_ | refine blk_alloc ?_ _)); exact BK656.out) hb); have n1_ := Aside0.mk (below_step (by repeat (first | (with_reducible first | exact HB.out | apply below_alloc | apply pw_below_drewN | apply below_drew1 | refine below_set ?_ GE656.out) | exact HB.out)) hb); clear BK656; clear HB; have BK656 := n0_; have HB := n1_; clear n0_ n1_; (try clear hb); (try clear hb2); (try clear hk); (try clear hi); have hcz28_0 : w27.cell? ⟨gb656, 0, none⟩ = some (.int .i64 ((rd_T28 l0 x24_2).f0)) := (blk_cell BK656.out 0).trans rfl; have hcz28_1 : w27.cell? ⟨gb656, 1, none⟩ = some (.int .i64 ((rd_T28 l0 x24_2).f1)) := (blk_cell BK656.out 1).trans rfl; have hcz28_2 : w27.cell? ⟨gb656, 2, none⟩ = some (.bool ((rd_T28 l0 x24_2).f2)) := (blk_cell BK656.out 2).trans rfl; have hcz28_3 : w27.cell? ⟨gb656, 3, none⟩ = some (.int .i64 ((rd_T28 l0 x24_2).f3)) := (blk_cell BK656.out 3).trans rfl; have hcz28_4 : w27.cell? ⟨gb656, 4, none⟩ = some (.slice A655_4 ((rd_T28 l0 x24_2).f4).length c655_4) := (blk_cell BK656.out 4).trans rfl; have hfz28_0 := blk_frozen BK656.out 0; have hfz28_1 := blk_frozen BK656.out 1; have hfz28_2 := blk_frozen BK656.out 2; have hfz28_3 := blk_frozen BK656.out 3; have hfz28_4 := blk_frozen BK656.out 4) | (go_at_call 47; (with_reducible refine (transport_within.calls t657 t659 _ A21.out).mono ?_); rintro e w' ⟨rfl, ⟨nd, rfl⟩⟩; (try first | exact ⟨rfl, _, World.drewN_drewN _ _ _⟩ | exact ⟨rfl, _, Eq.trans (World.drewN_drewN _ _ _) (congrArg (World.drewN _) (Nat.add_assoc _ _ _))⟩)) | (go_at_call 47; (with_reducible refine (transport_within.calls (wrap64 (((rd_T28 l0 x24_2).f3) - t659)) t660 _ A22.out).mono ?_); rintro e w' ⟨rfl, ⟨nd, rfl⟩⟩; (try first | exact ⟨rfl, _, World.drewN_drewN _ _ _⟩ | exact ⟨rfl, _, Eq.trans (World.drewN_drewN _ _ _) (congrArg (World.drewN _) (Nat.add_assoc _ _ _))⟩)) | (go_at_call 47; (with_reducible refine (transport_within.calls 0 t661 _ (show transport_within.f 0 = some t661 from (by with_unfolding_all (have e_ := A24.out; rw [Int.sub_self] at e_; exact e_)))).mono ?_); rintro e w' ⟨rfl, ⟨nd, rfl⟩⟩; (try first | exact ⟨rfl, _, World.drewN_drewN _ _ _⟩ | exact ⟨rfl, _, Eq.trans (World.drewN_drewN _ _ _) (congrArg (World.drewN _) (Nat.add_assoc _ _ _))⟩)))
                            repeat (go_quiet (first | (go_at_call 27; (with_reducible refine (transport_Arrival.calls kj9 x24_2 a2 t657 t658 _ A19.out).mono ?_); rintro e w27 ⟨rfl, hb⟩; have n0_ := Aside0.mk (blk_below (g := gb656) (o := .cells #[.int .i64 ((rd_T28 l0 x24_2).f0), .int .i64 ((rd_T28 l0 x24_2).f1), .bool ((rd_T28 l0 x24_2).f2), .int .i64 ((rd_T28 l0 x24_2).f3), .slice A655_4 ((rd_T28 l0 x24_2).f4).length c655_4] 28 (0, 0)) (by (with_reducible repeat (first | refine blk_drewN ?_ _ | refine blk_drew ?_ | refine blk_alloc ?_ _)); exact BK656.out) hb); have n1_ := Aside0.mk (below_step (by repeat (first | (with_reducible first | exact HB.out | apply below_alloc | apply pw_below_drewN | apply below_drew1 | refine below_set ?_ GE656.out) | exact HB.out)) hb); clear BK656; clear HB; have BK656 := n0_; have HB := n1_; clear n0_ n1_; (try clear hb); (try clear hb2); (try clear hk); (try clear hi); have hcz28_0 : w27.cell? ⟨gb656, 0, none⟩ = some (.int .i64 ((rd_T28 l0 x24_2).f0)) := (blk_cell BK656.out 0).trans rfl; have hcz28_1 : w27.cell? ⟨gb656, 1, none⟩ = some (.int .i64 ((rd_T28 l0 x24_2).f1)) := (blk_cell BK656.out 1).trans rfl; have hcz28_2 : w27.cell? ⟨gb656, 2, none⟩ = some (.bool ((rd_T28 l0 x24_2).f2)) := (blk_cell BK656.out 2).trans rfl; have hcz28_3 : w27.cell? ⟨gb656, 3, none⟩ = some (.int .i64 ((rd_T28 l0 x24_2).f3)) := (blk_cell BK656.out 3).trans rfl; have hcz28_4 : w27.cell? ⟨gb656, 4, none⟩ = some (.slice A655_4 ((rd_T28 l0 x24_2).f4).length c655_4) := (blk_cell BK656.out 4).trans rfl; have hfz28_0 := blk_frozen BK656.out 0; have hfz28_1 := blk_frozen BK656.out 1; have hfz28_2 := blk_frozen BK656.out 2; have hfz28_3 := blk_frozen BK656.out 3; have hfz28_4 := blk_frozen BK656.out 4) | (go_at_call 47; (with_reducible refine (transport_within.calls t657 t659 _ A21.out).mono ?_); rintro e w' ⟨rfl, ⟨nd, rfl⟩⟩; (try first | exact ⟨rfl, _, World.drewN_drewN _ _ _⟩ | exact ⟨rfl, _, Eq.trans (World.drewN_drewN _ _ _) (congrArg (World.drewN _) (Nat.add_assoc _ _ _))⟩)) | (go_at_call 47; (with_reducible refine (transport_within.calls (wrap64 (((rd_T28 l0 x24_2).f3) - t659)) t660 _ A22.out).mono ?_); rintro e w' ⟨rfl, ⟨nd, rfl⟩⟩; (try first | exact ⟨rfl, _, World.drewN_drewN _ _ _⟩ | exact ⟨rfl, _, Eq.trans (World.drewN_drewN _ _ _) (congrArg (World.drewN _) (Nat.add_assoc _ _ _))⟩)) | (go_at_call 47; (with_reducible refine (transport_within.calls 0 t661 _ (show transport_within.f 0 = some t661 from (by with_unfolding_all (have e_ := A24.out; rw [Int.sub_self] at e_; exact e_)))).mono ?_); rintro e w' ⟨rfl, ⟨nd, rfl⟩⟩; (try first | exact ⟨rfl, _, World.drewN_drewN _ _ _⟩ | exact ⟨rfl, _, Eq.trans (World.drewN_drewN _ _ _) (congrArg (World.drewN _) (Nat.add_assoc _ _ _))⟩))); try go_wp2_with (first | (go_at_call 27; (with_reducible refine (transport_Arrival.calls kj9 x24_2 a2 t657 t658 _ A19.out).mono ?_); rintro e w27 ⟨rfl, hb⟩; have n0_ := Aside0.mk (blk_below (g := gb656) (o := .cells #[.int .i64 ((rd_T28 l0 x24_2).f0), .int .i64 ((rd_T28 l0 x24_2).f1), .bool ((rd_T28 l0 x24_2).f2), .int .i64 ((rd_T28 l0 x24_2).f3), .slice A655_4 ((rd_T28 l0 x24_2).f4).length c655_4] 28 (0, 0)) (by (with_reducible repeat (first | refine blk_drewN ?_ _ | refine blk_drew ?_ | refine blk_alloc ?_ _)); exact BK656.out) hb); have n1_ := Aside0.mk (below_step (by repeat (first | (with_reducible first | exact HB.out | apply below_alloc | apply pw_below_drewN | apply below_drew1 | refine below_set ?_ GE656.out) | exact HB.out)) hb); clear BK656; clear HB; have BK656 := n0_; have HB := n1_; clear n0_ n1_; (try clear hb); (try clear hb2); (try clear hk); (try clear hi); have hcz28_0 : w27.cell? ⟨gb656, 0, none⟩ = some (.int .i64 ((rd_T28 l0 x24_2).f0)) := (blk_cell BK656.out 0).trans rfl; have hcz28_1 : w27.cell? ⟨gb656, 1, none⟩ = some (.int .i64 ((rd_T28 l0 x24_2).f1)) := (blk_cell BK656.out 1).trans rfl; have hcz28_2 : w27.cell? ⟨gb656, 2, none⟩ = some (.bool ((rd_T28 l0 x24_2).f2)) := (blk_cell BK656.out 2).trans rfl; have hcz28_3 : w27.cell? ⟨gb656, 3, none⟩ = some (.int .i64 ((rd_T28 l0 x24_2).f3)) := (blk_cell BK656.out 3).trans rfl; have hcz28_4 : w27.cell? ⟨gb656, 4, none⟩ = some (.slice A655_4 ((rd_T28 l0 x24_2).f4).length c655_4) := (blk_cell BK656.out 4).trans rfl; have hfz28_0 := blk_frozen BK656.out 0; have hfz28_1 := blk_frozen BK656.out 1; have hfz28_2 := blk_frozen BK656.out 2; have hfz28_3 := blk_frozen BK656.out 3; have hfz28_4 := blk_frozen BK656.out 4) | (go_at_call 47; (with_reducible refine (transport_within.calls t657 t659 _ A21.out).mono ?_); rintro e w' ⟨rfl, ⟨nd, rfl⟩⟩; (try first | exact ⟨rfl, _, World.drewN_drewN _ _ _⟩ | exact ⟨rfl, _, Eq.trans (World.drewN_drewN _ _ _) (congrArg (World.drewN _) (Nat.add_assoc _ _ _))⟩)) | (go_at_call 47; (with_reducible refine (transport_within.calls (wrap64 (((rd_T28 l0 x24_2).f3) - t659)) t660 _ A22.out).mono ?_); rintro e w' ⟨rfl, ⟨nd, rfl⟩⟩; (try first | exact ⟨rfl, _, World.drewN_drewN _ _ _⟩ | exact ⟨rfl, _, Eq.trans (World.drewN_drewN _ _ _) (congrArg (World.drewN _) (Nat.add_assoc _ _ _))⟩)) | (go_at_call 47; (with_reducible refine (transport_within.calls 0 t661 _ (show transport_within.f 0 = some t661 from (by with_unfolding_all (have e_ := A24.out; rw [Int.sub_self] at e_; exact e_)))).mono ?_); rintro e w' ⟨rfl, ⟨nd, rfl⟩⟩; (try first | exact ⟨rfl, _, World.drewN_drewN _ _ _⟩ | exact ⟨rfl, _, Eq.trans (World.drewN_drewN _ _ _) (congrArg (World.drewN _) (Nat.add_assoc _ _ _))⟩))))
                            go_roundg kj9
                            case measure => have := HJ3.out; have := HK2.out; have := HJ9.out; omega
                            case rel => exact ⟨(t660), (ji26), (wrap64 (x24_2 + 1)), (by first | rfl | (simp; done) | (simp [*]; done)), (by first | rfl | (simp; done) | (simp only [← hji26] <;> (first | rfl | simp)) | (simp [*]; done)), (by first | rfl | (simp; done) | (simp [*]; done)), H', ⟨by have := HJ3.out; have := HK2.out; have := HJ9.out; omega⟩, ⟨by repeat (first | (with_reducible first | exact HB.out | apply below_alloc | apply pw_below_drewN | apply below_drew1 | refine below_set ?_ GE656.out) | exact HB.out)⟩⟩
                          · rw [if_neg c23] at H
                            have c23b0 : decide (x8_2 < 0) = false := decide_eq_false c23
                            clear c23
                            replace H := Option.bind_eq_some_iff.mp H
                            obtain ⟨t662, A290, H⟩ := H
                            replace H : (transport_Jitter.l0 kj9 a1 a2 x8_2 (mx x9_2 (mn t662 (wrap64 (2576980377600 - t662)))) l0 (l0.length : Int) (wrap64 (x24_2 + 1))) = some (r1, r2) := H
                            have A29 := Aside0.mk A290
                            clear A290
                            obtain ⟨ji30, hji30⟩ : ∃ j_ : Int, (mn t662 (wrap64 (2576980377600 - t662))) = j_ := ⟨_, rfl⟩
                            replace H : (transport_Jitter.l0 kj9 a1 a2 x8_2 (mx x9_2 (ji30)) l0 (l0.length : Int) (wrap64 (x24_2 + 1))) = some (r1, r2) := by first | (rw [hji30] at H; exact H) | (simp only [hji30] at H ⊢; exact H)
                            (try rw [hji30] at A19)
                            (try rw [hji30] at A21)
                            (try rw [hji30] at A22)
                            (try rw [hji30] at A29)
                            have hji30_ : (if (wrap64 (2576980377600 - t662)) < t662 then (wrap64 (2576980377600 - t662)) else t662) = ji30 := hji30
                            obtain ⟨ji31, hji31⟩ : ∃ j_ : Int, (mx x9_2 (ji30)) = j_ := ⟨_, rfl⟩
                            replace H : (transport_Jitter.l0 kj9 a1 a2 x8_2 ji31 l0 (l0.length : Int) (wrap64 (x24_2 + 1))) = some (r1, r2) := by first | (rw [hji31] at H; exact H) | (simp only [hji31] at H ⊢; exact H)
                            (try rw [hji31] at A19)
                            (try rw [hji31] at A21)
                            (try rw [hji31] at A22)
                            (try rw [hji31] at A29)
                            have hji31_ : (if x9_2 < (ji30) then (ji30) else x9_2) = ji31 := hji31
                            have H' := Aside0.mk H
                            clear H
                            go_wp2_with (first | (go_at_call 27; (with_reducible refine (transport_Arrival.calls kj9 x24_2 a2 t657 t658 _ A19.out).mono ?_); rintro e w32 ⟨rfl, hb⟩; have n0_ := Aside0.mk (blk_below (g := gb656) (o := .cells #[.int .i64 ((rd_T28 l0 x24_2).f0), .int .i64 ((rd_T28 l0 x24_2).f1), .bool ((rd_T28 l0 x24_2).f2), .int .i64 ((rd_T28 l0 x24_2).f3), .slice A655_4 ((rd_T28 l0 x24_2).f4).length c655_4] 28 (0, 0)) (by (with_reducible repeat (first | refine blk_drewN ?_ _ | refine blk_drew ?_ | refine blk_alloc ?_ _)); exact BK656.out) hb); have n1_ := Aside0.mk (below_step (by repeat (first | (with_reducible first | exact HB.out | apply below_alloc | apply pw_below_drewN | apply below_drew1 | refine below_set ?_ GE656.out) | exact HB.out)) hb); clear BK656; clear HB; have BK656 := n0_; have HB := n1_; clear n0_ n1_; (try clear hb); (try clear hb2); (try clear hk); (try clear hi); have hcz33_0 : w32.cell? ⟨gb656, 0, none⟩ = some (.int .i64 ((rd_T28 l0 x24_2).f0)) := (blk_cell BK656.out 0).trans rfl; have hcz33_1 : w32.cell? ⟨gb656, 1, none⟩ = some (.int .i64 ((rd_T28 l0 x24_2).f1)) := (blk_cell BK656.out 1).trans rfl; have hcz33_2 : w32.cell? ⟨gb656, 2, none⟩ = some (.bool ((rd_T28 l0 x24_2).f2)) := (blk_cell BK656.out 2).trans rfl; have hcz33_3 : w32.cell? ⟨gb656, 3, none⟩ = some (.int .i64 ((rd_T28 l0 x24_2).f3)) := (blk_cell BK656.out 3).trans rfl; have hcz33_4 : w32.cell? ⟨gb656, 4, none⟩ = some (.slice A655_4 ((rd_T28 l0 x24_2).f4).length c655_4) := (blk_cell BK656.out 4).trans rfl; have hfz33_0 := blk_frozen BK656.out 0; have hfz33_1 := blk_frozen BK656.out 1; have hfz33_2 := blk_frozen BK656.out 2; have hfz33_3 := blk_frozen BK656.out 3; have hfz33_4 := blk_frozen BK656.out 4) | (go_at_call 47; (with_reducible refine (transport_within.calls t657 t659 _ A21.out).mono ?_); rintro e w' ⟨rfl, ⟨nd, rfl⟩⟩; (try first | exact ⟨rfl, _, World.drewN_drewN _ _ _⟩ | exact ⟨rfl, _, Eq.trans (World.drewN_drewN _ _ _) (congrArg (World.drewN _) (Nat.add_assoc _ _ _))⟩)) | (go_at_call 47; (with_reducible refine (transport_within.calls (wrap64 (((rd_T28 l0 x24_2).f3) - t659)) t660 _ A22.out).mono ?_); rintro e w' ⟨rfl, ⟨nd, rfl⟩⟩; (try first | exact ⟨rfl, _, World.drewN_drewN _ _ _⟩ | exact ⟨rfl, _, Eq.trans (World.drewN_drewN _ _ _) (congrArg (World.drewN _) (Nat.add_assoc _ _ _))⟩)) | (go_at_call 47; (with_reducible refine (transport_within.calls (wrap64 (t660 - x8_2)) t662 _ A29.out).mono ?_); rintro e w' ⟨rfl, ⟨nd, rfl⟩⟩; (try first | exact ⟨rfl, _, World.drewN_drewN _ _ _⟩ | exact ⟨rfl, _, Eq.trans (World.drewN_drewN _ _ _) (congrArg (World.drewN _) (Nat.add_assoc _ _ _))⟩)))
                            repeat (go_quiet (first | (go_at_call 27; (with_reducible refine (transport_Arrival.calls kj9 x24_2 a2 t657 t658 _ A19.out).mono ?_); rintro e w32 ⟨rfl, hb⟩; have n0_ := Aside0.mk (blk_below (g := gb656) (o := .cells #[.int .i64 ((rd_T28 l0 x24_2).f0), .int .i64 ((rd_T28 l0 x24_2).f1), .bool ((rd_T28 l0 x24_2).f2), .int .i64 ((rd_T28 l0 x24_2).f3), .slice A655_4 ((rd_T28 l0 x24_2).f4).length c655_4] 28 (0, 0)) (by (with_reducible repeat (first | refine blk_drewN ?_ _ | refine blk_drew ?_ | refine blk_alloc ?_ _)); exact BK656.out) hb); have n1_ := Aside0.mk (below_step (by repeat (first | (with_reducible first | exact HB.out | apply below_alloc | apply pw_below_drewN | apply below_drew1 | refine below_set ?_ GE656.out) | exact HB.out)) hb); clear BK656; clear HB; have BK656 := n0_; have HB := n1_; clear n0_ n1_; (try clear hb); (try clear hb2); (try clear hk); (try clear hi); have hcz33_0 : w32.cell? ⟨gb656, 0, none⟩ = some (.int .i64 ((rd_T28 l0 x24_2).f0)) := (blk_cell BK656.out 0).trans rfl; have hcz33_1 : w32.cell? ⟨gb656, 1, none⟩ = some (.int .i64 ((rd_T28 l0 x24_2).f1)) := (blk_cell BK656.out 1).trans rfl; have hcz33_2 : w32.cell? ⟨gb656, 2, none⟩ = some (.bool ((rd_T28 l0 x24_2).f2)) := (blk_cell BK656.out 2).trans rfl; have hcz33_3 : w32.cell? ⟨gb656, 3, none⟩ = some (.int .i64 ((rd_T28 l0 x24_2).f3)) := (blk_cell BK656.out 3).trans rfl; have hcz33_4 : w32.cell? ⟨gb656, 4, none⟩ = some (.slice A655_4 ((rd_T28 l0 x24_2).f4).length c655_4) := (blk_cell BK656.out 4).trans rfl; have hfz33_0 := blk_frozen BK656.out 0; have hfz33_1 := blk_frozen BK656.out 1; have hfz33_2 := blk_frozen BK656.out 2; have hfz33_3 := blk_frozen BK656.out 3; have hfz33_4 := blk_frozen BK656.out 4) | (go_at_call 47; (with_reducible refine (transport_within.calls t657 t659 _ A21.out).mono ?_); rintro e w' ⟨rfl, ⟨nd, rfl⟩⟩; (try first | exact ⟨rfl, _, World.drewN_drewN _ _ _⟩ | exact ⟨rfl, _, Eq.trans (World.drewN_drewN _ _ _) (congrArg (World.drewN _) (Nat.add_assoc _ _ _))⟩)) | (go_at_call 47; (with_reducible refine (transport_within.calls (wrap64 (((rd_T28 l0 x24_2).f3) - t659)) t660 _ A22.out).mono ?_); rintro e w' ⟨rfl, ⟨nd, rfl⟩⟩; (try first | exact ⟨rfl, _, World.drewN_drewN _ _ _⟩ | exact ⟨rfl, _, Eq.trans (World.drewN_drewN _ _ _) (congrArg (World.drewN _) (Nat.add_assoc _ _ _))⟩)) | (go_at_call 47; (with_reducible refine (transport_within.calls (wrap64 (t660 - x8_2)) t662 _ A29.out).mono ?_); rintro e w' ⟨rfl, ⟨nd, rfl⟩⟩; (try first | exact ⟨rfl, _, World.drewN_drewN _ _ _⟩ | exact ⟨rfl, _, Eq.trans (World.drewN_drewN _ _ _) (congrArg (World.drewN _) (Nat.add_assoc _ _ _))⟩))); try go_wp2_with (first | (go_at_call 27; (with_reducible refine (transport_Arrival.calls kj9 x24_2 a2 t657 t658 _ A19.out).mono ?_); rintro e w32 ⟨rfl, hb⟩; have n0_ := Aside0.mk (blk_below (g := gb656) (o := .cells #[.int .i64 ((rd_T28 l0 x24_2).f0), .int .i64 ((rd_T28 l0 x24_2).f1), .bool ((rd_T28 l0 x24_2).f2), .int .i64 ((rd_T28 l0 x24_2).f3), .slice A655_4 ((rd_T28 l0 x24_2).f4).length c655_4] 28 (0, 0)) (by (with_reducible repeat (first | refine blk_drewN ?_ _ | refine blk_drew ?_ | refine blk_alloc ?_ _)); exact BK656.out) hb); have n1_ := Aside0.mk (below_step (by repeat (first | (with_reducible first | exact HB.out | apply below_alloc | apply pw_below_drewN | apply below_drew1 | refine below_set ?_ GE656.out) | exact HB.out)) hb); clear BK656; clear HB; have BK656 := n0_; have HB := n1_; clear n0_ n1_; (try clear hb); (try clear hb2); (try clear hk); (try clear hi); have hcz33_0 : w32.cell? ⟨gb656, 0, none⟩ = some (.int .i64 ((rd_T28 l0 x24_2).f0)) := (blk_cell BK656.out 0).trans rfl; have hcz33_1 : w32.cell? ⟨gb656, 1, none⟩ = some (.int .i64 ((rd_T28 l0 x24_2).f1)) := (blk_cell BK656.out 1).trans rfl; have hcz33_2 : w32.cell? ⟨gb656, 2, none⟩ = some (.bool ((rd_T28 l0 x24_2).f2)) := (blk_cell BK656.out 2).trans rfl; have hcz33_3 : w32.cell? ⟨gb656, 3, none⟩ = some (.int .i64 ((rd_T28 l0 x24_2).f3)) := (blk_cell BK656.out 3).trans rfl; have hcz33_4 : w32.cell? ⟨gb656, 4, none⟩ = some (.slice A655_4 ((rd_T28 l0 x24_2).f4).length c655_4) := (blk_cell BK656.out 4).trans rfl; have hfz33_0 := blk_frozen BK656.out 0; have hfz33_1 := blk_frozen BK656.out 1; have hfz33_2 := blk_frozen BK656.out 2; have hfz33_3 := blk_frozen BK656.out 3; have hfz33_4 := blk_frozen BK656.out 4) | (go_at_call 47; (with_reducible refine (transport_within.calls t657 t659 _ A21.out).mono ?_); rintro e w' ⟨rfl, ⟨nd, rfl⟩⟩; (try first | exact ⟨rfl, _, World.drewN_drewN _ _ _⟩ | exact ⟨rfl, _, Eq.trans (World.drewN_drewN _ _ _) (congrArg (World.drewN _) (Nat.add_assoc _ _ _))⟩)) | (go_at_call 47; (with_reducible refine (transport_within.calls (wrap64 (((rd_T28 l0 x24_2).f3) - t659)) t660 _ A22.out).mono ?_); rintro e w' ⟨rfl, ⟨nd, rfl⟩⟩; (try first | exact ⟨rfl, _, World.drewN_drewN _ _ _⟩ | exact ⟨rfl, _, Eq.trans (World.drewN_drewN _ _ _) (congrArg (World.drewN _) (Nat.add_assoc _ _ _))⟩)) | (go_at_call 47; (with_reducible refine (transport_within.calls (wrap64 (t660 - x8_2)) t662 _ A29.out).mono ?_); rintro e w' ⟨rfl, ⟨nd, rfl⟩⟩; (try first | exact ⟨rfl, _, World.drewN_drewN _ _ _⟩ | exact ⟨rfl, _, Eq.trans (World.drewN_drewN _ _ _) (congrArg (World.drewN _) (Nat.add_assoc _ _ _))⟩))))
                            go_roundg kj9
                            case measure => have := HJ3.out; have := HK2.out; have := HJ9.out; omega
                            case rel => exact ⟨(x8_2), (ji31), (wrap64 (x24_2 + 1)), (by first | rfl | (simp; done) | (simp [*]; done)), (by first | rfl | (simp; done) | (simp only [← hji31] <;> (first | rfl | simp)) | (simp [*]; done)), (by first | rfl | (simp; done) | (simp [*]; done)), H', ⟨by have := HJ3.out; have := HK2.out; have := HJ9.out; omega⟩, ⟨by repeat (first | (with_reducible first | exact HB.out | apply below_alloc | apply pw_below_drewN | apply below_drew1 | refine below_set ?_ GE656.out) | exact HB.out)⟩⟩
                        · rw [if_neg c20] at H
                          have c20b0 : (t658 == 0) = false := beq_eq_false_iff_ne.mpr c20
                          have c20b1 : (t658 != 0) = true := bne_iff_ne.mpr c20
                          simp only [Option.some.injEq, Prod.mk.injEq] at H
                          obtain ⟨rfl, rfl⟩ := H
                          go_wp2_with (first | (go_at_call 27; (with_reducible refine (transport_Arrival.calls kj9 x24_2 a2 t657 t658 _ A19.out).mono ?_); rintro e w34 ⟨rfl, hb⟩; have n0_ := Aside0.mk (blk_below (g := gb656) (o := .cells #[.int .i64 ((rd_T28 l0 x24_2).f0), .int .i64 ((rd_T28 l0 x24_2).f1), .bool ((rd_T28 l0 x24_2).f2), .int .i64 ((rd_T28 l0 x24_2).f3), .slice A655_4 ((rd_T28 l0 x24_2).f4).length c655_4] 28 (0, 0)) (by (with_reducible repeat (first | refine blk_drewN ?_ _ | refine blk_drew ?_ | refine blk_alloc ?_ _)); exact BK656.out) hb); have n1_ := Aside0.mk (below_step (by repeat (first | (with_reducible first | exact HB.out | apply below_alloc | apply pw_below_drewN | apply below_drew1 | refine below_set ?_ GE656.out) | exact HB.out)) hb); clear BK656; clear HB; have BK656 := n0_; have HB := n1_; clear n0_ n1_; (try clear hb); (try clear hb2); (try clear hk); (try clear hi)))
                          repeat (go_quiet (first | (go_at_call 27; (with_reducible refine (transport_Arrival.calls kj9 x24_2 a2 t657 t658 _ A19.out).mono ?_); rintro e w34 ⟨rfl, hb⟩; have n0_ := Aside0.mk (blk_below (g := gb656) (o := .cells #[.int .i64 ((rd_T28 l0 x24_2).f0), .int .i64 ((rd_T28 l0 x24_2).f1), .bool ((rd_T28 l0 x24_2).f2), .int .i64 ((rd_T28 l0 x24_2).f3), .slice A655_4 ((rd_T28 l0 x24_2).f4).length c655_4] 28 (0, 0)) (by (with_reducible repeat (first | refine blk_drewN ?_ _ | refine blk_drew ?_ | refine blk_alloc ?_ _)); exact BK656.out) hb); have n1_ := Aside0.mk (below_step (by repeat (first | (with_reducible first | exact HB.out | apply below_alloc | apply pw_below_drewN | apply below_drew1 | refine below_set ?_ GE656.out) | exact HB.out)) hb); clear BK656; clear HB; have BK656 := n0_; have HB := n1_; clear n0_ n1_; (try clear hb); (try clear hb2); (try clear hk); (try clear hi))); try go_wp2_with (first | (go_at_call 27; (with_reducible refine (transport_Arrival.calls kj9 x24_2 a2 t657 t658 _ A19.out).mono ?_); rintro e w34 ⟨rfl, hb⟩; have n0_ := Aside0.mk (blk_below (g := gb656) (o := .cells #[.int .i64 ((rd_T28 l0 x24_2).f0), .int .i64 ((rd_T28 l0 x24_2).f1), .bool ((rd_T28 l0 x24_2).f2), .int .i64 ((rd_T28 l0 x24_2).f3), .slice A655_4 ((rd_T28 l0 x24_2).f4).length c655_4] 28 (0, 0)) (by (with_reducible repeat (first | refine blk_drewN ?_ _ | refine blk_drew ?_ | refine blk_alloc ?_ _)); exact BK656.out) hb); have n1_ := Aside0.mk (below_step (by repeat (first | (with_reducible first | exact HB.out | apply below_alloc | apply pw_below_drewN | apply below_drew1 | refine below_set ?_ GE656.out) | exact HB.out)) hb); clear BK656; clear HB; have BK656 := n0_; have HB := n1_; clear n0_ n1_; (try clear hb); (try clear hb2); (try clear hk); (try clear hi))))
                          go_ret2
                          exact ⟨by first | rfl | (simp [errW_none, errW_some] <;> rfl) | (simp [*, errW_none, errW_some] <;> rfl), by repeat (first | (with_reducible first | exact HB.out | apply below_alloc | apply pw_below_drewN | apply below_drew1 | refine below_set ?_ GE656.out) | exact HB.out)⟩
                · rw [if_neg c9] at H
                  exact absurd H (by simp)
              · rw [if_neg c8] at H
                exact absurd H (by simp)
            · rw [if_neg c7] at H
              have c7b0 : decide (x24_2 < (l0.length : Int)) = false := decide_eq_false c7
              clear c7
              simp only [Option.some.injEq, Prod.mk.injEq] at H
              obtain ⟨rfl, rfl⟩ := H
              go_wp2
              repeat (go_quiet (fail); try go_wp2)
              go_ret2
              exact ⟨by first | rfl | (simp [errW_none, errW_some] <;> rfl) | (simp [*, errW_none, errW_some] <;> rfl), by repeat (first | (with_reducible first | exact HB.out | apply below_alloc | apply pw_below_drewN | apply below_drew1) | exact HB.out)⟩

end Go.Proofs.Ytdndhbfagoghfaa.P
