-- Written by this session's own program (wip/tools/myprint.py), which runs the kit's print with turns of its own: not a text of the kit's print.sh.
import Derived.Test.YtdndhbfagoghfaaPx0
import Derived.Test.YtdndhbfagoghfaaPx16
import Derived.Test.YtdndhbfagoghfaaPx28
import Derived.Test.YtdndhbfagoghfaaPx48
namespace Go.Proofs.Ytdndhbfagoghfaa.P
open Go.RowKit Go.Proofs.YtdndhbfagoghfaaW.PrintWords Go.Proofs.YtdndhbfagoghfaaW.PrintLast Go.Proofs.YtdndhbfagoghfaaW.PrintMore
attribute [local go_sem] max2_int min2_int max_two min_two max_three min_three max_four min_four   -- for this text's walks alone
set_option linter.unusedVariables false
set_option linter.unusedSimpArgs false

/-! ### cutroomlaw17_TransportSteady: function 10 -/
mutual
def cutroomlaw17_TransportSteady.j0 : Nat → Int → List Bool → Int → Bool → Option (Bool)
  | 0, _, _, _, _ => none
  | k + 1, x0, x1, x2, x32 => if x32 = true then ((cutroomlaw17_awake.f k).bind fun t695 => (some t695)) else (cutroomlaw17_TransportSteady.l0 k x0 x1 x2 ([] : List (S28)) 0)
def cutroomlaw17_TransportSteady.l0 : Nat → Int → List Bool → Int → List (S28) → Int → Option (Bool)
  | 0, _, _, _, _, _ => none
  | k + 1, x0, x1, x2, x7, x8 => if x8 < (x1.length : Int) then ((transport_Arrival.f k x8 x2).bind fun bt699 => (if bt699.2 = 0 then ((some (([1] : List Int) : List Int)).bind fun y701 => (if 0 ≤ x8 then (if rdOf false x1 x8 = true then (if x7.length < 2513169434916 then (cutroomlaw17_TransportSteady.l0 k x0 x1 x2 (x7 ++ [(⟨7, 0, false, Int.tmod (wrap64 (x0 + (Int.tmod bt699.1 2576980377600))) 2576980377600, y701⟩ : S28)]) (wrap64 (x8 + 1))) else (none)) else (if x7.length < 2513169434916 then (cutroomlaw17_TransportSteady.l0 k x0 x1 x2 (x7 ++ [(⟨7, 0, false, (-1), y701⟩ : S28)]) (wrap64 (x8 + 1))) else (none))) else (none))) else (some false))) else ((transport_Jitter.f k x7 7 x2).bind fun bt696 => ((cutroomlaw17_awake.f k).bind fun t698 => (if t698 = true then (if bt696.2 = 0 then (some (bt696.1 == 0)) else (some false)) else (some false))))
end
def cutroomlaw17_TransportSteady.f (k : Nat) (a0 : Int) (l1 : List Bool) (a2 : Int) : Option (Bool) := if (l1.length : Int) > 60 then (cutroomlaw17_TransportSteady.j0 k a0 l1 a2 true) else (if a0 < 0 then (cutroomlaw17_TransportSteady.j0 k a0 l1 a2 true) else (if a0 ≥ 2576980377600 then (cutroomlaw17_TransportSteady.j0 k a0 l1 a2 true) else (if a2 < 1 then (cutroomlaw17_TransportSteady.j0 k a0 l1 a2 true) else (cutroomlaw17_TransportSteady.j0 k a0 l1 a2 (decide (a2 > 1073741824))))))
theorem cutroomlaw17_TransportSteady.mono_l : ∀ k, (∀ y0 y1 y2 y3, LeO (cutroomlaw17_TransportSteady.j0 k y0 y1 y2 y3) (cutroomlaw17_TransportSteady.j0 (k + 1) y0 y1 y2 y3)) ∧ (∀ y0 y1 y2 y3 y4, LeO (cutroomlaw17_TransportSteady.l0 k y0 y1 y2 y3 y4) (cutroomlaw17_TransportSteady.l0 (k + 1) y0 y1 y2 y3 y4))
  | 0 => ⟨fun _ _ _ _ r h => by simp [cutroomlaw17_TransportSteady.j0] at h, fun _ _ _ _ _ r h => by simp [cutroomlaw17_TransportSteady.l0] at h⟩
  | k + 1 => by
    obtain ⟨ih0, ih1⟩ := cutroomlaw17_TransportSteady.mono_l k
    refine ⟨?_, ?_⟩
    · intro y0 y1 y2 y3
      unfold cutroomlaw17_TransportSteady.j0
      repeat' first
      | (with_reducible exact ih0 _ _ _ _)
      | (with_reducible exact ih1 _ _ _ _ _)
      | (with_reducible exact cutroomlaw17_awake.mono _)
      | (with_reducible exact transport_Arrival.mono _ _ _)
      | (with_reducible exact transport_Jitter.mono _ _ _ _)
      | (with_reducible exact LeO.refl _)
      | (with_reducible exact LeO.none _)
      | (with_reducible refine LeO.ite ?_ ?_)
      | (with_reducible refine LeO.bind ?_ (fun _ => ?_))
      | exact ih0 _ _ _ _
      | exact ih1 _ _ _ _ _
      | exact cutroomlaw17_awake.mono _
      | exact transport_Arrival.mono _ _ _
      | exact transport_Jitter.mono _ _ _ _
      | exact LeO.none _
      | refine LeO.ite ?_ ?_
      | refine LeO.bind ?_ (fun _ => ?_)
    · intro y0 y1 y2 y3 y4
      unfold cutroomlaw17_TransportSteady.l0
      repeat' first
      | (with_reducible exact ih0 _ _ _ _)
      | (with_reducible exact ih1 _ _ _ _ _)
      | (with_reducible exact cutroomlaw17_awake.mono _)
      | (with_reducible exact transport_Arrival.mono _ _ _)
      | (with_reducible exact transport_Jitter.mono _ _ _ _)
      | (with_reducible exact LeO.refl _)
      | (with_reducible exact LeO.none _)
      | (with_reducible refine LeO.ite ?_ ?_)
      | (with_reducible refine LeO.bind ?_ (fun _ => ?_))
      | exact ih0 _ _ _ _
      | exact ih1 _ _ _ _ _
      | exact cutroomlaw17_awake.mono _
      | exact transport_Arrival.mono _ _ _
      | exact transport_Jitter.mono _ _ _ _
      | exact LeO.none _
      | refine LeO.ite ?_ ?_
      | refine LeO.bind ?_ (fun _ => ?_)
theorem cutroomlaw17_TransportSteady.mono : ∀ a0 a1 a2 k, LeO (cutroomlaw17_TransportSteady.f k a0 a1 a2) (cutroomlaw17_TransportSteady.f (k + 1) a0 a1 a2) := by
  intro a0 a1 a2 k
  obtain ⟨ih0, ih1⟩ := cutroomlaw17_TransportSteady.mono_l k
  unfold cutroomlaw17_TransportSteady.f
  repeat' first
      | (with_reducible exact ih0 _ _ _ _)
      | (with_reducible exact ih1 _ _ _ _ _)
      | (with_reducible exact cutroomlaw17_awake.mono _)
      | (with_reducible exact transport_Arrival.mono _ _ _)
      | (with_reducible exact transport_Jitter.mono _ _ _ _)
      | (with_reducible exact LeO.refl _)
      | (with_reducible exact LeO.none _)
      | (with_reducible refine LeO.ite ?_ ?_)
      | (with_reducible refine LeO.bind ?_ (fun _ => ?_))
      | exact ih0 _ _ _ _
      | exact ih1 _ _ _ _ _
      | exact cutroomlaw17_awake.mono _
      | exact transport_Arrival.mono _ _ _
      | exact transport_Jitter.mono _ _ _ _
      | exact LeO.none _
      | refine LeO.ite ?_ ?_
      | refine LeO.bind ?_ (fun _ => ?_)
set_option maxHeartbeats 8000000 in
set_option maxRecDepth 100000 in
theorem cutroomlaw17_TransportSteady.calls (k : Nat) (a0 : Int) (A1 : Option Addr) (c1 : Nat) (l1 : List Bool) (a2 : Int) (r : Bool) (w : World) (hr1 : Kd.C Kd.bool w A1 l1.length l1) (hc1 : l1.length ≤ c1) (h : cutroomlaw17_TransportSteady.f k a0 l1 a2 = some r) :
    Calls Try.prog 10 #[.int .i64 a0, .slice A1 l1.length c1, .int .i64 a2] w fun e w' => e = .returned (.bool r) ∧ Below w.heap.size w w' := by
  have hu28 := Try.underlying28
  have HR1 := Aside0.mk hr1
  have HC1 := Aside0.mk hc1
  clear hr1 hc1
  have HB := Aside0.mk (Below.refl w.heap.size w)
  have H : (if (l1.length : Int) > 60 then (cutroomlaw17_TransportSteady.j0 k a0 l1 a2 true) else (if a0 < 0 then (cutroomlaw17_TransportSteady.j0 k a0 l1 a2 true) else (if a0 ≥ 2576980377600 then (cutroomlaw17_TransportSteady.j0 k a0 l1 a2 true) else (if a2 < 1 then (cutroomlaw17_TransportSteady.j0 k a0 l1 a2 true) else (cutroomlaw17_TransportSteady.j0 k a0 l1 a2 (decide (a2 > 1073741824))))))) = some r := h
  clear h
  have HC4 := Aside0.mk H
  clear H
  go_enter Try.func10, Try.ntmps10
  go_upto_region 1 with (fail)
  go_cut [32] (fun v32 wc => ∃ (kq : Nat) (x32_3 : Bool), v32 = .bool x32_3 ∧ Aside0 (cutroomlaw17_TransportSteady.j0 kq a0 l1 a2 x32_3 = some r) ∧ Aside0 (kq ≤ k) ∧ Aside0 (Below w.heap.size w wc))
  case first =>
    have H := HC4.out
    clear HC4
    by_cases c5 : (l1.length : Int) > 60
    · rw [if_pos c5] at H
      have c5b0 : decide (60 < (l1.length : Int)) = true := decide_eq_true c5
      have c5b1 : decide (60 < l1.length) = true := decide_eq_true (by omega)
      clear c5
      (first | rw [c5b0] | (simp only [i64_w, i32_w]; rw [c5b0]) | skip)
      have H' := Aside0.mk H
      clear H
      go_wp2
      go_meet
      case rel => exact ⟨_, (true), (by first | rfl | (simp; done) | (simp [*]; done)), H', ⟨by first | omega | exact Nat.le_refl _⟩, ⟨by repeat (first | (with_reducible first | exact HB.out | apply below_alloc | apply pw_below_drewN | apply below_drew1) | exact HB.out)⟩⟩
    · rw [if_neg c5] at H
      have c5b0 : decide (60 < (l1.length : Int)) = false := decide_eq_false c5
      have c5b1 : decide (60 < l1.length) = false := decide_eq_false (by omega)
      clear c5
      (first | rw [c5b0] | (simp only [i64_w, i32_w]; rw [c5b0]) | skip)
      by_cases c6 : a0 < 0
      · rw [if_pos c6] at H
        have c6b0 : decide (a0 < 0) = true := decide_eq_true c6
        clear c6
        have H' := Aside0.mk H
        clear H
        go_wp2
        go_meet
        case rel => exact ⟨_, (true), (by first | rfl | (simp; done) | (simp [*]; done)), H', ⟨by first | omega | exact Nat.le_refl _⟩, ⟨by repeat (first | (with_reducible first | exact HB.out | apply below_alloc | apply pw_below_drewN | apply below_drew1) | exact HB.out)⟩⟩
      · rw [if_neg c6] at H
        have c6b0 : decide (a0 < 0) = false := decide_eq_false c6
        clear c6
        by_cases c7 : a0 ≥ 2576980377600
        · rw [if_pos c7] at H
          have c7b0 : decide (2576980377600 ≤ a0) = true := decide_eq_true c7
          clear c7
          have H' := Aside0.mk H
          clear H
          go_wp2
          go_meet
          case rel => exact ⟨_, (true), (by first | rfl | (simp; done) | (simp [*]; done)), H', ⟨by first | omega | exact Nat.le_refl _⟩, ⟨by repeat (first | (with_reducible first | exact HB.out | apply below_alloc | apply pw_below_drewN | apply below_drew1) | exact HB.out)⟩⟩
        · rw [if_neg c7] at H
          have c7b0 : decide (2576980377600 ≤ a0) = false := decide_eq_false c7
          clear c7
          by_cases c8 : a2 < 1
          · rw [if_pos c8] at H
            have c8b0 : decide (a2 < 1) = true := decide_eq_true c8
            clear c8
            have H' := Aside0.mk H
            clear H
            go_wp2
            go_meet
            case rel => exact ⟨_, (true), (by first | rfl | (simp; done) | (simp [*]; done)), H', ⟨by first | omega | exact Nat.le_refl _⟩, ⟨by repeat (first | (with_reducible first | exact HB.out | apply below_alloc | apply pw_below_drewN | apply below_drew1) | exact HB.out)⟩⟩
          · rw [if_neg c8] at H
            have c8b0 : decide (a2 < 1) = false := decide_eq_false c8
            clear c8
            have H' := Aside0.mk H
            clear H
            go_wp2
            go_meet
            case rel => exact ⟨_, (decide (a2 > 1073741824)), (by first | rfl | (simp; done) | (simp [*]; done)), H', ⟨by first | omega | exact Nat.le_refl _⟩, ⟨by repeat (first | (with_reducible first | exact HB.out | apply below_alloc | apply pw_below_drewN | apply below_drew1) | exact HB.out)⟩⟩
  case rest =>
    clear HC4
    try clear c1
    try clear p2
    try clear c5
    try clear c5b0
    try clear c5b1
    try clear c6
    try clear c6b0
    try clear c7
    try clear c7b0
    try clear c8
    try clear c8b0
    obtain ⟨kq, x32_3, rfl, HA, HJ3, HB⟩ := hcut
    cases kq with
    | zero => exact absurd HA.out (by simp [cutroomlaw17_TransportSteady.j0])
    | succ kj3 =>
      have H := HA.out
      clear HA
      simp only [cutroomlaw17_TransportSteady.j0] at H
      by_cases c9 : x32_3 = true
      · subst c9
        have H1 : ((cutroomlaw17_awake.f kj3).bind fun t695 => (some t695)) = some r := by rw [if_pos rfl] at H; exact H
        clear H
        have H := H1
        clear H1
        replace H := Option.bind_eq_some_iff.mp H
        obtain ⟨t695, A100, H⟩ := H
        replace H : (some t695) = some r := H
        have A10 := Aside0.mk A100
        clear A100
        obtain rfl := Option.some.inj H
        go_wp2_with (first | ((with_reducible refine gate_callee (f := 15) rfl ?_); refine goesL_ (some 33) rfl rfl Try.func15 (by kernel_rfl) rfl #[] rfl (by (try simp only [List.map_toArray, List.map_cons, List.map_nil]); first | done | rfl | (simp only [List.length_drop, List.length_take]; rfl)) ?_; (with_reducible refine (cutroomlaw17_awake.calls kj3  t695 _ A10.out).mono ?_); rintro e w11 ⟨rfl, hb⟩; refine ⟨_, rfl, ?_⟩; have n0_ := Aside0.mk (below_step (by repeat (first | (with_reducible first | exact HB.out | apply below_alloc | apply pw_below_drewN | apply below_drew1) | exact HB.out)) hb); clear HB; have HB := n0_; clear n0_; (try clear hb); (try clear hb2); (try clear hk); (try clear hi)))
        go_ret
        exact ⟨by first | rfl | (simp [errW_none, errW_some] <;> rfl) | (simp [*, errW_none, errW_some] <;> rfl), by repeat (first | (with_reducible first | exact HB.out | apply below_alloc | apply pw_below_drewN | apply below_drew1) | exact HB.out)⟩
      · replace c9 := Bool.eq_false_iff.mpr c9
        subst c9
        have H1 : (cutroomlaw17_TransportSteady.l0 kj3 a0 l1 a2 ([] : List (S28)) 0) = some r := by rw [if_neg (show ¬ (false = true) by decide)] at H; exact H
        clear H
        have H := H1
        clear H1
        have H' := Aside0.mk H
        clear H
        go_wp2
        go_loopg [7, 8] kj3 (fun kq v7 v8 w' => ∃ (x7_2 : List (S28)) (x8_2 : Int), v8 = .int .i64 x8_2 ∧ Aside0 (cutroomlaw17_TransportSteady.l0 kq a0 l1 a2 x7_2 x8_2 = some r) ∧ Aside0 (kq ≤ kj3) ∧ Aside0 (Kd.S k28 28 w' w.heap.size (fun _ => True) v7 x7_2) ∧ Aside0 (Below w.heap.size w w'))
        case atStart => exact ⟨(([] : List (S28))), (0), (by first | rfl | (simp; done) | (simp [*]; done)), H', ⟨Nat.le_refl _⟩, ⟨by first | exact Kd.S_nil _ _ _ _ _ | exact Kd.N_nil _ _ _ _ _ | exact Kd.V_nil _ _ _ _ _ | exact Kd.Q_nil _ _ _ _ _ | exact Kd.R_nil _ _ _ _ _⟩, ⟨by repeat (first | (with_reducible first | exact HB.out | apply below_alloc | apply pw_below_drewN | apply below_drew1) | exact HB.out)⟩⟩
        case round =>
          clear H'
          try clear c1
          try clear p2
          try clear c5
          try clear c5b0
          try clear c5b1
          try clear c6
          try clear c6b0
          try clear c7
          try clear c7b0
          try clear c8
          try clear c8b0
          try clear c9
          try clear c10
          try clear p2
          obtain ⟨x7_2, x8_2, rfl, HA, HK2, HO_7, HB⟩ := hrel
          cases gk with
          | zero => exact absurd HA.out (by simp [cutroomlaw17_TransportSteady.l0])
          | succ k2 =>
            have H := HA.out
            clear HA
            simp only [cutroomlaw17_TransportSteady.l0] at H
            by_cases c12 : x8_2 < (l1.length : Int)
            · rw [if_pos c12] at H
              have c12b0 : decide (x8_2 < (l1.length : Int)) = true := decide_eq_true c12
              clear c12
              replace H := Option.bind_eq_some_iff.mp H
              obtain ⟨⟨t699, t700⟩, A130, H⟩ := H
              replace H : (if t700 = 0 then ((some (([1] : List Int) : List Int)).bind fun y701 => (if 0 ≤ x8_2 then (if rdOf false l1 x8_2 = true then (if x7_2.length < 2513169434916 then (cutroomlaw17_TransportSteady.l0 k2 a0 l1 a2 (x7_2 ++ [(⟨7, 0, false, Int.tmod (wrap64 (a0 + (Int.tmod t699 2576980377600))) 2576980377600, y701⟩ : S28)]) (wrap64 (x8_2 + 1))) else (none)) else (if x7_2.length < 2513169434916 then (cutroomlaw17_TransportSteady.l0 k2 a0 l1 a2 (x7_2 ++ [(⟨7, 0, false, (-1), y701⟩ : S28)]) (wrap64 (x8_2 + 1))) else (none))) else (none))) else (some false)) = some r := H
              have A13 := Aside0.mk A130
              clear A130
              by_cases c14 : t700 = 0
              · rw [if_pos c14] at H
                have c14b0 : (t700 == 0) = true := beq_iff_eq.mpr c14
                have c14b1 : (t700 != 0) = false := bne_eq_false_iff_eq.mpr c14
                clear c14
                obtain ⟨y701, hy701⟩ : ∃ y_ : List Int, y_ = (([1] : List Int)) := ⟨_, rfl⟩
                replace H : (if 0 ≤ x8_2 then (if rdOf false l1 x8_2 = true then (if x7_2.length < 2513169434916 then (cutroomlaw17_TransportSteady.l0 k2 a0 l1 a2 (x7_2 ++ [(⟨7, 0, false, Int.tmod (wrap64 (a0 + (Int.tmod t699 2576980377600))) 2576980377600, y701⟩ : S28)]) (wrap64 (x8_2 + 1))) else (none)) else (if x7_2.length < 2513169434916 then (cutroomlaw17_TransportSteady.l0 k2 a0 l1 a2 (x7_2 ++ [(⟨7, 0, false, (-1), y701⟩ : S28)]) (wrap64 (x8_2 + 1))) else (none))) else (none)) = some r := by first | (rw [hy701]; with_reducible exact H) | (have H2_ := (Option.bind_some _ _).symm.trans H; rw [hy701]; with_reducible exact H2_) | (have H2_ := (Option.bind_some _ _).symm.trans H; with_reducible exact H2_) | with_reducible exact H | (rw [hy701]; exact H) | exact H
                have Ny701 := Aside0.mk hy701
                clear hy701
                by_cases c15 : 0 ≤ x8_2
                · rw [if_pos c15] at H
                  have c15b0 : decide (0 ≤ x8_2) = true := decide_eq_true c15
                  clear c15
                  obtain ⟨bq16, hbq16⟩ : ∃ b_ : Bool, b_ = (rdOf false l1 x8_2) := ⟨_, rfl⟩
                  replace H : (if bq16 = true then (if x7_2.length < 2513169434916 then (cutroomlaw17_TransportSteady.l0 k2 a0 l1 a2 (x7_2 ++ [(⟨7, 0, false, Int.tmod (wrap64 (a0 + (Int.tmod t699 2576980377600))) 2576980377600, y701⟩ : S28)]) (wrap64 (x8_2 + 1))) else (none)) else (if x7_2.length < 2513169434916 then (cutroomlaw17_TransportSteady.l0 k2 a0 l1 a2 (x7_2 ++ [(⟨7, 0, false, (-1), y701⟩ : S28)]) (wrap64 (x8_2 + 1))) else (none))) = some r := by rw [← hbq16] at H; exact H
                  have Nbq16 := Aside0.mk hbq16
                  clear hbq16
                  by_cases c17 : bq16 = true
                  · subst c17
                    have H1 : (if x7_2.length < 2513169434916 then (cutroomlaw17_TransportSteady.l0 k2 a0 l1 a2 (x7_2 ++ [(⟨7, 0, false, Int.tmod (wrap64 (a0 + (Int.tmod t699 2576980377600))) 2576980377600, y701⟩ : S28)]) (wrap64 (x8_2 + 1))) else (none)) = some r := by rw [if_pos rfl] at H; exact H
                    clear H
                    have H := H1
                    clear H1
                    by_cases c18 : x7_2.length < 2513169434916
                    · rw [if_pos c18] at H
                      have LMc18 := Aside0.mk c18
                      clear c18
                      obtain ⟨y706, hy706⟩ : ∃ y_ : List (S28), y_ = (x7_2 ++ [(⟨7, 0, false, Int.tmod (wrap64 (a0 + (Int.tmod t699 2576980377600))) 2576980377600, y701⟩ : S28)]) := ⟨_, rfl⟩
                      replace H : (cutroomlaw17_TransportSteady.l0 k2 a0 l1 a2 y706 (wrap64 (x8_2 + 1))) = some r := by first | (rw [hy706]; with_reducible exact H) | (have H2_ := (Option.bind_some _ _).symm.trans H; rw [hy706]; with_reducible exact H2_) | (have H2_ := (Option.bind_some _ _).symm.trans H; with_reducible exact H2_) | with_reducible exact H | (rw [hy706]; exact H) | exact H
                      have Ny706 := Aside0.mk hy706
                      clear hy706
                      have H' := Aside0.mk H
                      clear H
                      go_wp2_with (first | ((with_reducible refine gate_callee (f := 27) rfl ?_); refine goesL_ (some 43) rfl rfl Try.func27 (by kernel_rfl) rfl #[.int .i64 x8_2, .int .i64 a2] rfl (by (try simp only [List.map_toArray, List.map_cons, List.map_nil]); first | done | rfl | (simp only [List.length_drop, List.length_take]; rfl)) ?_; (with_reducible refine (transport_Arrival.calls k2 x8_2 a2 t699 t700 _ A13.out).mono ?_); rintro e w19 ⟨rfl, hb⟩; refine ⟨_, rfl, ?_⟩; have n0_ := Aside0.mk (Kd.S_below (by (with_reducible repeat (first | apply Kd.S_alloc | apply Kd.S_drewN | apply Kd.S_drew)); exact HO_7.out) hb); have n1_ := Aside0.mk (below_step (by repeat (first | (with_reducible first | exact HB.out | apply below_alloc | apply pw_below_drewN | apply below_drew1) | exact HB.out)) hb); clear HO_7; clear HB; have HO_7 := n0_; have HB := n1_; clear n0_ n1_; (try clear hb); (try clear hb2); (try clear hk); (try clear hi)) | ((with_reducible refine gate_dst (N := 48) rfl ?_); refine Kd.R_lit (Kd.int .u8) _ 5 ?hg (N := 48) ?hd (xs := ([1] : List Int)) (inner := [.int .u8 1]) (ok := fun _ => True) (okp := fun _ => True) ?hr ?hp (fun _ hk => hk) trivial (Below.refl _ _) (Nat.le_refl _) (by simp) ?_; (case hd => rfl); (case hg => rfl); (case hr => first | (go_simp; done) | (go_simp; rfl)); (case hp => exact (Reps.one (show Kd.M (Kd.int .u8) _ _ _ 1 [.int .u8 1] from rfl) (Reps.none _ _))); intro v702 w20 ho21 hb hg_ hnew_; clear hg_ hnew_; (first | rw [← Ny701.out] at ho21 | (simp only [Int.reduceToNat] at ho21; rw [← Ny701.out] at ho21)); have n0_ := Aside0.mk (Kd.S_elder' (by (with_reducible repeat (first | apply Kd.S_alloc | apply Kd.S_drewN | apply Kd.S_drew)); exact HO_7.out) (Kd.R_base ho21) hb); have n1_ := Aside0.mk (Kd.R_lower ho21 (below_size (by repeat (first | (with_reducible first | exact HB.out | apply below_alloc | apply pw_below_drewN | apply below_drew1) | exact HB.out)))); have n2_ := Aside0.mk (below_step (by repeat (first | (with_reducible first | exact HB.out | apply below_alloc | apply pw_below_drewN | apply below_drew1) | exact HB.out)) hb); clear HO_7; clear HB; have HO_7 := n0_; have HO703 := n1_; have HB := n2_; clear n0_ n1_ n2_; clear hb ho21; obtain ⟨Ao22, co22, eo22⟩ := Kd.R_slice HO703.out; subst eo22) | ((with_reducible refine gate_dst (N := 11) rfl ?_); refine box_event ?hg (N := 11) ?hd (cs := #[.int .i64 0, .int .i64 0, .bool false, .int .i64 0, .slice none 0 0]) (t := 28) ?hr ?_; (case hd => rfl); (case hg => rfl); (case hr => first | (go_simp; done) | (go_simp; rfl)); intro gb704 hg w23 hbox hb; have n0_ := Aside0.mk (Kd.S_below (Kd.S_elderB (by (with_reducible repeat (first | apply Kd.S_alloc | apply Kd.S_drewN | apply Kd.S_drew)); exact HO_7.out) gb704 (Nat.le_of_eq hg.symm)) hb); have n1_ := Aside0.mk (Kd.R_below (by (with_reducible repeat (first | apply Kd.R_alloc | apply Kd.R_drewN | apply Kd.R_drew)); exact HO703.out) hb); have n2_ := Aside0.mk (below_step (by repeat (first | (with_reducible first | exact HB.out | apply below_alloc | apply pw_below_drewN | apply below_drew1) | exact HB.out)) hb); have n3_ := Aside0.mk (hbox); have n4_ := Aside0.mk ((by rw [hg]; exact (below_size (by repeat (first | (with_reducible first | exact HB.out | apply below_alloc | apply pw_below_drewN | apply below_drew1) | exact HB.out))) : w.heap.size ≤ gb704)); have n5_ := Aside0.mk ((by rw [hg]; exact (below_size (by repeat (first | (with_reducible first | exact HB.out | apply below_alloc | apply pw_below_drewN | apply below_drew1) | exact HB.out))) : w.heap.size ≤ gb704)); clear HO_7; clear HO703; clear HB; have HO_7 := n0_; have HO703 := n1_; have HB := n2_; have BK704 := n3_; have GW704 := n4_; have GE704 := n5_; clear n0_ n1_ n2_ n3_ n4_ n5_; clear hb hbox hg; have hcz24_0 : w23.cell? ⟨gb704, 0, none⟩ = some (.int .i64 0) := (blk_cell BK704.out 0).trans rfl; have hcz24_1 : w23.cell? ⟨gb704, 1, none⟩ = some (.int .i64 0) := (blk_cell BK704.out 1).trans rfl; have hcz24_2 : w23.cell? ⟨gb704, 2, none⟩ = some (.bool false) := (blk_cell BK704.out 2).trans rfl; have hcz24_3 : w23.cell? ⟨gb704, 3, none⟩ = some (.int .i64 0) := (blk_cell BK704.out 3).trans rfl; have hcz24_4 : w23.cell? ⟨gb704, 4, none⟩ = some (.slice none 0 0) := (blk_cell BK704.out 4).trans rfl; have hfz24_0 := blk_frozen BK704.out 0; have hfz24_1 := blk_frozen BK704.out 1; have hfz24_2 := blk_frozen BK704.out 2; have hfz24_3 := blk_frozen BK704.out 3; have hfz24_4 := blk_frozen BK704.out 4) | ((with_reducible refine gate_store (t := 28) (p := 11) rfl ?_); refine store_event (t := 28) (p := 11) (v := ?vo_w25) (w1 := (((((w23.setCell ⟨gb704, 0, none⟩ (.int .i64 7)).setCell ⟨gb704, 1, none⟩ (.int .i64 0)).setCell ⟨gb704, 2, none⟩ (.bool false)).setCell ⟨gb704, 3, none⟩ (.int .i64 (-1))).setCell ⟨gb704, 4, none⟩ (.slice Ao22 y701.length co22))) ?hg ?ho ?hn ?hr ?_; (case ho => rfl); (case hg => rfl); (case hn => rfl); (case hr => first | (go_simp; done) | (go_simp; rfl)); intro w25 hw; have n0_ : Aside0 (Kd.S k28 28 w25 w.heap.size (fun k_ => some k_ ≠ (.slice Ao22 y701.length co22 : Value).ownBlock ∧ k_ ≠ gb704) u7 x7_2) := ⟨(by rw [hw]; exact (by (with_reducible repeat (first | apply Kd.S_alloc | apply Kd.S_drewN | apply Kd.S_drew)); exact Kd.S_mono (Kd.S_far (p := ⟨gb704, 4, none⟩) (Kd.S_far (p := ⟨gb704, 3, none⟩) (Kd.S_far (p := ⟨gb704, 2, none⟩) (Kd.S_far (p := ⟨gb704, 1, none⟩) (Kd.S_far (p := ⟨gb704, 0, none⟩) (Kd.S_mono HO_7.out (fun k_ hk => (⟨hk, hk.2⟩ : _ ∧ k_ ≠ gb704))) (fun _ hk => hk.2) (.int .i64 7)) (fun _ hk => hk.2) (.int .i64 0)) (fun _ hk => hk.2) (.bool false)) (fun _ hk => hk.2) (.int .i64 (-1))) (fun _ hk => hk.2) (.slice Ao22 y701.length co22)) (fun _ hk => ⟨hk.1.1.2, hk.1.2⟩)))⟩; have n1_ : Aside0 (Kd.R (Kd.int .u8) 5 w25 w.heap.size (fun _ => True) (.slice Ao22 y701.length co22) y701) := ⟨(by rw [hw]; exact (by (with_reducible repeat (first | apply Kd.R_alloc | apply Kd.R_drewN | apply Kd.R_drew)); exact Kd.R_mono (Kd.R_far (p := ⟨gb704, 4, none⟩) (Kd.R_far (p := ⟨gb704, 3, none⟩) (Kd.R_far (p := ⟨gb704, 2, none⟩) (Kd.R_far (p := ⟨gb704, 1, none⟩) (Kd.R_far (p := ⟨gb704, 0, none⟩) (Kd.R_types HO703.out BK704.out (by decide)) (fun _ hk => hk.2) (.int .i64 7)) (fun _ hk => hk.2) (.int .i64 0)) (fun _ hk => hk.2) (.bool false)) (fun _ hk => hk.2) (.int .i64 (-1))) (fun _ hk => hk.2) (.slice Ao22 y701.length co22)) (fun _ hk => trivial)))⟩; have n2_ : Aside0 (w25.heap[gb704]? = some (.cells #[.int .i64 7, .int .i64 0, .bool false, .int .i64 (-1), .slice Ao22 y701.length co22] 28 (0, 0))) := ⟨(by rw [hw]; exact (by (with_reducible repeat (first | refine blk_drewN ?_ _ | refine blk_drew ?_ | refine blk_alloc ?_ _)); refine blk_put (cs := #[.int .i64 7, .int .i64 0, .bool false, .int .i64 (-1), .slice none 0 0]) ?_ 4 _ rfl; (with_reducible repeat (first | refine blk_drewN ?_ _ | refine blk_drew ?_ | refine blk_alloc ?_ _)); refine blk_put (cs := #[.int .i64 7, .int .i64 0, .bool false, .int .i64 0, .slice none 0 0]) ?_ 3 _ rfl; (with_reducible repeat (first | refine blk_drewN ?_ _ | refine blk_drew ?_ | refine blk_alloc ?_ _)); refine blk_put (cs := #[.int .i64 7, .int .i64 0, .bool false, .int .i64 0, .slice none 0 0]) ?_ 2 _ rfl; (with_reducible repeat (first | refine blk_drewN ?_ _ | refine blk_drew ?_ | refine blk_alloc ?_ _)); refine blk_put (cs := #[.int .i64 7, .int .i64 0, .bool false, .int .i64 0, .slice none 0 0]) ?_ 1 _ rfl; (with_reducible repeat (first | refine blk_drewN ?_ _ | refine blk_drew ?_ | refine blk_alloc ?_ _)); refine blk_put (cs := #[.int .i64 0, .int .i64 0, .bool false, .int .i64 0, .slice none 0 0]) ?_ 0 _ rfl; (with_reducible repeat (first | refine blk_drewN ?_ _ | refine blk_drew ?_ | refine blk_alloc ?_ _)); exact BK704.out))⟩; have n3_ : Aside0 (Below w.heap.size w w25) := ⟨(by rw [hw]; exact (by repeat (first | (with_reducible first | exact HB.out | apply below_alloc | apply pw_below_drewN | apply below_drew1 | refine below_set ?_ GE704.out) | exact HB.out)))⟩; clear hw; clear HO_7; clear HO703; clear BK704; clear HB; have HO_7 := n0_; have HO703 := n1_; have BK704 := n2_; have HB := n3_; clear n0_ n1_ n2_ n3_; have p705 : 0 ≤ (x8_2 : Int) := of_decide_eq_true (by first | (with_reducible assumption) | assumption); have q705 : x8_2 < (l1.length : Int) := of_decide_eq_true (by first | (with_reducible assumption) | assumption); obtain ⟨ad705, e705, hx705_0⟩ := Kd.at_bool HR1.out x8_2 p705 q705; (try rw [← Nbq16.out] at hx705_0); cases e705; replace hx705_0 := (HB.out.cell (World.block_lt_of_cell? w _ hx705_0)).trans hx705_0; replace p705 := eq_true p705; replace q705 := eq_true q705; have hcz26_0 : w25.cell? ⟨gb704, 0, none⟩ = some (.int .i64 7) := (blk_cell BK704.out 0).trans rfl; have hcz26_1 : w25.cell? ⟨gb704, 1, none⟩ = some (.int .i64 0) := (blk_cell BK704.out 1).trans rfl; have hcz26_2 : w25.cell? ⟨gb704, 2, none⟩ = some (.bool false) := (blk_cell BK704.out 2).trans rfl; have hcz26_3 : w25.cell? ⟨gb704, 3, none⟩ = some (.int .i64 (-1)) := (blk_cell BK704.out 3).trans rfl; have hcz26_4 : w25.cell? ⟨gb704, 4, none⟩ = some (.slice Ao22 y701.length co22) := (blk_cell BK704.out 4).trans rfl; have hfz26_0 := blk_frozen BK704.out 0; have hfz26_1 := blk_frozen BK704.out 1; have hfz26_2 := blk_frozen BK704.out 2; have hfz26_3 := blk_frozen BK704.out 3; have hfz26_4 := blk_frozen BK704.out 4) | ((with_reducible refine gate_store (t := 2) (p := 59) rfl ?_); refine store_event (t := 2) (p := 59) (v := ?vo_w27) (w1 := (w25.setCell ⟨gb704, 3, none⟩ (.int .i64 (Int.tmod (wrap64 (a0 + (Int.tmod t699 2576980377600))) 2576980377600)))) ?hg ?ho ?hn ?hr ?_; (case ho => rfl); (case hg => rfl); (case hn => rfl); (case hr => first | (go_simp; done) | (go_simp; rfl)); intro w27 hw; have n0_ : Aside0 (Kd.S k28 28 w27 w.heap.size (fun k_ => some k_ ≠ (.slice Ao22 y701.length co22 : Value).ownBlock ∧ k_ ≠ gb704) u7 x7_2) := ⟨(by rw [hw]; exact (by (with_reducible repeat (first | apply Kd.S_alloc | apply Kd.S_drewN | apply Kd.S_drew)); exact Kd.S_mono (Kd.S_far (p := ⟨gb704, 3, none⟩) (Kd.S_mono HO_7.out (fun k_ hk => (⟨hk, hk.2⟩ : _ ∧ k_ ≠ gb704))) (fun _ hk => hk.2) (.int .i64 (Int.tmod (wrap64 (a0 + (Int.tmod t699 2576980377600))) 2576980377600))) (fun _ hk => ⟨hk.1.1, hk.1.2⟩)))⟩; have n1_ : Aside0 (Kd.R (Kd.int .u8) 5 w27 w.heap.size (fun _ => True) (.slice Ao22 y701.length co22) y701) := ⟨(by rw [hw]; exact (by (with_reducible repeat (first | apply Kd.R_alloc | apply Kd.R_drewN | apply Kd.R_drew)); exact Kd.R_mono (Kd.R_far (p := ⟨gb704, 3, none⟩) (Kd.R_types HO703.out BK704.out (by decide)) (fun _ hk => hk.2) (.int .i64 (Int.tmod (wrap64 (a0 + (Int.tmod t699 2576980377600))) 2576980377600))) (fun _ hk => trivial)))⟩; have n2_ : Aside0 (w27.heap[gb704]? = some (.cells #[.int .i64 7, .int .i64 0, .bool false, .int .i64 (Int.tmod (wrap64 (a0 + (Int.tmod t699 2576980377600))) 2576980377600), .slice Ao22 y701.length co22] 28 (0, 0))) := ⟨(by rw [hw]; exact (by (with_reducible repeat (first | refine blk_drewN ?_ _ | refine blk_drew ?_ | refine blk_alloc ?_ _)); refine blk_put (cs := #[.int .i64 7, .int .i64 0, .bool false, .int .i64 (-1), .slice Ao22 y701.length co22]) ?_ 3 _ rfl; (with_reducible repeat (first | refine blk_drewN ?_ _ | refine blk_drew ?_ | refine blk_alloc ?_ _)); exact BK704.out))⟩; have n3_ : Aside0 (Below w.heap.size w w27) := ⟨(by rw [hw]; exact (by repeat (first | (with_reducible first | exact HB.out | apply below_alloc | apply pw_below_drewN | apply below_drew1 | refine below_set ?_ GE704.out) | exact HB.out)))⟩; clear hw; clear HO_7; clear HO703; clear BK704; clear HB; have HO_7 := n0_; have HO703 := n1_; have BK704 := n2_; have HB := n3_; clear n0_ n1_ n2_ n3_; have hcz28_0 : w27.cell? ⟨gb704, 0, none⟩ = some (.int .i64 7) := (blk_cell BK704.out 0).trans rfl; have hcz28_1 : w27.cell? ⟨gb704, 1, none⟩ = some (.int .i64 0) := (blk_cell BK704.out 1).trans rfl; have hcz28_2 : w27.cell? ⟨gb704, 2, none⟩ = some (.bool false) := (blk_cell BK704.out 2).trans rfl; have hcz28_3 : w27.cell? ⟨gb704, 3, none⟩ = some (.int .i64 (Int.tmod (wrap64 (a0 + (Int.tmod t699 2576980377600))) 2576980377600)) := (blk_cell BK704.out 3).trans rfl; have hcz28_4 : w27.cell? ⟨gb704, 4, none⟩ = some (.slice Ao22 y701.length co22) := (blk_cell BK704.out 4).trans rfl; have hfz28_0 := blk_frozen BK704.out 0; have hfz28_1 := blk_frozen BK704.out 1; have hfz28_2 := blk_frozen BK704.out 2; have hfz28_3 := blk_frozen BK704.out 3; have hfz28_4 := blk_frozen BK704.out 4) | ((with_reducible refine gate_builtin (b := .append) (xs := #[.tmp 60, .tmp 62]) rfl ?_); at_builtin; refine Kd.S_append k28 (w0 := w) w.heap.size rfl (.tmp 60) (.tmp 62) 40 28 (.agg #[(.int .i64 0), (.int .i64 0), (.bool false), (.int .i64 0), (.slice none 0 0)]) 56 rfl Try.underlying40 info28 rfl (by decide) (by omega) u7 x7_2 (⟨7, 0, false, Int.tmod (wrap64 (a0 + (Int.tmod t699 2576980377600))) 2576980377600, y701⟩ : S28) [.int .i64 7, .int .i64 0, .bool false, .int .i64 (Int.tmod (wrap64 (a0 + (Int.tmod t699 2576980377600))) 2576980377600), .slice Ao22 y701.length co22] (fun k_ => k_ ≠ gb704) (fun k_ => some k_ = (.slice Ao22 y701.length co22 : Value).ownBlock) rfl rfl ?aP (fun k_ hk_ => ((Kd.R_mono (ok' := fun k_ => ((fun k_ => k_ ≠ gb704)) k_ ∧ some k_ ≠ (u7 : Value).ownBlock) (Kd.R_types (Kd.R_apart' (HO703.out) (Kd.S_typed HO_7.out) (by decide)) BK704.out (by decide)) (fun k_ hk => ⟨hk.2, hk.1.2⟩))).1 k_ hk_.symm) ?aF ?aO ?aB ?aS ?aL ?_; (case aP => exact k28_mkM _ _ _ (⟨7, 0, false, Int.tmod (wrap64 (a0 + (Int.tmod t699 2576980377600))) 2576980377600, y701⟩ : S28) (Kd.R_mono (Kd.R_tight rfl (Kd.R_mono (ok' := fun k_ => ((fun k_ => k_ ≠ gb704)) k_ ∧ some k_ ≠ (u7 : Value).ownBlock) (Kd.R_types (Kd.R_apart' (HO703.out) (Kd.S_typed HO_7.out) (by decide)) BK704.out (by decide)) (fun k_ hk => ⟨hk.2, hk.1.2⟩))) (fun _ h_ => h_))); (case aB => exact (by repeat (first | (with_reducible first | exact HB.out | apply below_alloc | apply pw_below_drewN | apply below_drew1 | refine below_set ?_ GE704.out) | exact HB.out))); (case aF => exact (fun k_ hk => Kd.freshB (g := gb704) (o := .cells #[.int .i64 7, .int .i64 0, .bool false, .int .i64 (Int.tmod (wrap64 (a0 + (Int.tmod t699 2576980377600))) 2576980377600), .slice Ao22 y701.length co22] 28 (0, 0)) (by (with_reducible repeat (first | refine blk_drewN ?_ _ | refine blk_drew ?_ | refine blk_alloc ?_ _)); exact BK704.out) k_ hk)); (case aO => exact (by (with_reducible repeat (first | apply Kd.S_alloc | apply Kd.S_drewN | apply Kd.S_drew)); exact Kd.S_mono HO_7.out (fun k_ hk => ⟨hk.2, fun e_ => hk.1 e_⟩))); (case aS => exact (below_size (by repeat (first | (with_reducible first | exact HB.out | apply below_alloc | apply pw_below_drewN | apply below_drew1 | refine below_set ?_ GE704.out) | exact HB.out)))); (case aL => have := LMc18.out; omega); intro v707 w29 ho hb hg hat; rw [← Ny706.out] at ho; have n0_ := Aside0.mk (blk_grown (g := gb704) (o := .cells #[.int .i64 7, .int .i64 0, .bool false, .int .i64 (Int.tmod (wrap64 (a0 + (Int.tmod t699 2576980377600))) 2576980377600), .slice Ao22 y701.length co22] 28 (0, 0)) (by (with_reducible repeat (first | refine blk_drewN ?_ _ | refine blk_drew ?_ | refine blk_alloc ?_ _)); exact BK704.out) hg (Kd.S_away HO_7.out (fun _ hk => hk.2))); have n1_ := Aside0.mk (hb); have n2_ := Aside0.mk (ho); clear BK704; clear HB; clear HO_7; clear HO703; have BK704 := n0_; have HB := n1_; have HO708 := n2_; clear n0_ n1_ n2_; clear ho hb hg hat))
                      go_roundg k2
                      case measure => have := HJ3.out; have := HK2.out; omega
                      case rel => exact ⟨(y706), (wrap64 (x8_2 + 1)), (by first | rfl | (simp; done) | (simp [*]; done)), H', ⟨by have := HJ3.out; have := HK2.out; omega⟩, ⟨by (with_reducible repeat (first | apply Kd.S_alloc | apply Kd.S_drewN | apply Kd.S_drew)); exact Kd.S_mono HO708.out (fun _ hk => trivial)⟩, ⟨by repeat (first | (with_reducible first | exact HB.out | apply below_alloc | apply pw_below_drewN | apply below_drew1 | refine below_set ?_ GE704.out) | exact HB.out)⟩⟩
                    · rw [if_neg c18] at H
                      exact absurd H (by simp)
                  · replace c17 := Bool.eq_false_iff.mpr c17
                    subst c17
                    have H1 : (if x7_2.length < 2513169434916 then (cutroomlaw17_TransportSteady.l0 k2 a0 l1 a2 (x7_2 ++ [(⟨7, 0, false, (-1), y701⟩ : S28)]) (wrap64 (x8_2 + 1))) else (none)) = some r := by rw [if_neg (show ¬ (false = true) by decide)] at H; exact H
                    clear H
                    have H := H1
                    clear H1
                    by_cases c30 : x7_2.length < 2513169434916
                    · rw [if_pos c30] at H
                      have LMc30 := Aside0.mk c30
                      clear c30
                      obtain ⟨y709, hy709⟩ : ∃ y_ : List (S28), y_ = (x7_2 ++ [(⟨7, 0, false, (-1), y701⟩ : S28)]) := ⟨_, rfl⟩
                      replace H : (cutroomlaw17_TransportSteady.l0 k2 a0 l1 a2 y709 (wrap64 (x8_2 + 1))) = some r := by first | (rw [hy709]; with_reducible exact H) | (have H2_ := (Option.bind_some _ _).symm.trans H; rw [hy709]; with_reducible exact H2_) | (have H2_ := (Option.bind_some _ _).symm.trans H; with_reducible exact H2_) | with_reducible exact H | (rw [hy709]; exact H) | exact H
                      have Ny709 := Aside0.mk hy709
                      clear hy709
                      have H' := Aside0.mk H
                      clear H
                      go_wp2_with (first | ((with_reducible refine gate_callee (f := 27) rfl ?_); refine goesL_ (some 43) rfl rfl Try.func27 (by kernel_rfl) rfl #[.int .i64 x8_2, .int .i64 a2] rfl (by (try simp only [List.map_toArray, List.map_cons, List.map_nil]); first | done | rfl | (simp only [List.length_drop, List.length_take]; rfl)) ?_; (with_reducible refine (transport_Arrival.calls k2 x8_2 a2 t699 t700 _ A13.out).mono ?_); rintro e w31 ⟨rfl, hb⟩; refine ⟨_, rfl, ?_⟩; have n0_ := Aside0.mk (Kd.S_below (by (with_reducible repeat (first | apply Kd.S_alloc | apply Kd.S_drewN | apply Kd.S_drew)); exact HO_7.out) hb); have n1_ := Aside0.mk (below_step (by repeat (first | (with_reducible first | exact HB.out | apply below_alloc | apply pw_below_drewN | apply below_drew1) | exact HB.out)) hb); clear HO_7; clear HB; have HO_7 := n0_; have HB := n1_; clear n0_ n1_; (try clear hb); (try clear hb2); (try clear hk); (try clear hi)) | ((with_reducible refine gate_dst (N := 48) rfl ?_); refine Kd.R_lit (Kd.int .u8) _ 5 ?hg (N := 48) ?hd (xs := ([1] : List Int)) (inner := [.int .u8 1]) (ok := fun _ => True) (okp := fun _ => True) ?hr ?hp (fun _ hk => hk) trivial (Below.refl _ _) (Nat.le_refl _) (by simp) ?_; (case hd => rfl); (case hg => rfl); (case hr => first | (go_simp; done) | (go_simp; rfl)); (case hp => exact (Reps.one (show Kd.M (Kd.int .u8) _ _ _ 1 [.int .u8 1] from rfl) (Reps.none _ _))); intro v702 w32 ho33 hb hg_ hnew_; clear hg_ hnew_; (first | rw [← Ny701.out] at ho33 | (simp only [Int.reduceToNat] at ho33; rw [← Ny701.out] at ho33)); have n0_ := Aside0.mk (Kd.S_elder' (by (with_reducible repeat (first | apply Kd.S_alloc | apply Kd.S_drewN | apply Kd.S_drew)); exact HO_7.out) (Kd.R_base ho33) hb); have n1_ := Aside0.mk (Kd.R_lower ho33 (below_size (by repeat (first | (with_reducible first | exact HB.out | apply below_alloc | apply pw_below_drewN | apply below_drew1) | exact HB.out)))); have n2_ := Aside0.mk (below_step (by repeat (first | (with_reducible first | exact HB.out | apply below_alloc | apply pw_below_drewN | apply below_drew1) | exact HB.out)) hb); clear HO_7; clear HB; have HO_7 := n0_; have HO703 := n1_; have HB := n2_; clear n0_ n1_ n2_; clear hb ho33; obtain ⟨Ao34, co34, eo34⟩ := Kd.R_slice HO703.out; subst eo34) | ((with_reducible refine gate_dst (N := 11) rfl ?_); refine box_event ?hg (N := 11) ?hd (cs := #[.int .i64 0, .int .i64 0, .bool false, .int .i64 0, .slice none 0 0]) (t := 28) ?hr ?_; (case hd => rfl); (case hg => rfl); (case hr => first | (go_simp; done) | (go_simp; rfl)); intro gb704 hg w35 hbox hb; have n0_ := Aside0.mk (Kd.S_below (Kd.S_elderB (by (with_reducible repeat (first | apply Kd.S_alloc | apply Kd.S_drewN | apply Kd.S_drew)); exact HO_7.out) gb704 (Nat.le_of_eq hg.symm)) hb); have n1_ := Aside0.mk (Kd.R_below (by (with_reducible repeat (first | apply Kd.R_alloc | apply Kd.R_drewN | apply Kd.R_drew)); exact HO703.out) hb); have n2_ := Aside0.mk (below_step (by repeat (first | (with_reducible first | exact HB.out | apply below_alloc | apply pw_below_drewN | apply below_drew1) | exact HB.out)) hb); have n3_ := Aside0.mk (hbox); have n4_ := Aside0.mk ((by rw [hg]; exact (below_size (by repeat (first | (with_reducible first | exact HB.out | apply below_alloc | apply pw_below_drewN | apply below_drew1) | exact HB.out))) : w.heap.size ≤ gb704)); have n5_ := Aside0.mk ((by rw [hg]; exact (below_size (by repeat (first | (with_reducible first | exact HB.out | apply below_alloc | apply pw_below_drewN | apply below_drew1) | exact HB.out))) : w.heap.size ≤ gb704)); clear HO_7; clear HO703; clear HB; have HO_7 := n0_; have HO703 := n1_; have HB := n2_; have BK704 := n3_; have GW704 := n4_; have GE704 := n5_; clear n0_ n1_ n2_ n3_ n4_ n5_; clear hb hbox hg; have hcz36_0 : w35.cell? ⟨gb704, 0, none⟩ = some (.int .i64 0) := (blk_cell BK704.out 0).trans rfl; have hcz36_1 : w35.cell? ⟨gb704, 1, none⟩ = some (.int .i64 0) := (blk_cell BK704.out 1).trans rfl; have hcz36_2 : w35.cell? ⟨gb704, 2, none⟩ = some (.bool false) := (blk_cell BK704.out 2).trans rfl; have hcz36_3 : w35.cell? ⟨gb704, 3, none⟩ = some (.int .i64 0) := (blk_cell BK704.out 3).trans rfl; have hcz36_4 : w35.cell? ⟨gb704, 4, none⟩ = some (.slice none 0 0) := (blk_cell BK704.out 4).trans rfl; have hfz36_0 := blk_frozen BK704.out 0; have hfz36_1 := blk_frozen BK704.out 1; have hfz36_2 := blk_frozen BK704.out 2; have hfz36_3 := blk_frozen BK704.out 3; have hfz36_4 := blk_frozen BK704.out 4) | ((with_reducible refine gate_store (t := 28) (p := 11) rfl ?_); refine store_event (t := 28) (p := 11) (v := ?vo_w37) (w1 := (((((w35.setCell ⟨gb704, 0, none⟩ (.int .i64 7)).setCell ⟨gb704, 1, none⟩ (.int .i64 0)).setCell ⟨gb704, 2, none⟩ (.bool false)).setCell ⟨gb704, 3, none⟩ (.int .i64 (-1))).setCell ⟨gb704, 4, none⟩ (.slice Ao34 y701.length co34))) ?hg ?ho ?hn ?hr ?_; (case ho => rfl); (case hg => rfl); (case hn => rfl); (case hr => first | (go_simp; done) | (go_simp; rfl)); intro w37 hw; have n0_ : Aside0 (Kd.S k28 28 w37 w.heap.size (fun k_ => some k_ ≠ (.slice Ao34 y701.length co34 : Value).ownBlock ∧ k_ ≠ gb704) u7 x7_2) := ⟨(by rw [hw]; exact (by (with_reducible repeat (first | apply Kd.S_alloc | apply Kd.S_drewN | apply Kd.S_drew)); exact Kd.S_mono (Kd.S_far (p := ⟨gb704, 4, none⟩) (Kd.S_far (p := ⟨gb704, 3, none⟩) (Kd.S_far (p := ⟨gb704, 2, none⟩) (Kd.S_far (p := ⟨gb704, 1, none⟩) (Kd.S_far (p := ⟨gb704, 0, none⟩) (Kd.S_mono HO_7.out (fun k_ hk => (⟨hk, hk.2⟩ : _ ∧ k_ ≠ gb704))) (fun _ hk => hk.2) (.int .i64 7)) (fun _ hk => hk.2) (.int .i64 0)) (fun _ hk => hk.2) (.bool false)) (fun _ hk => hk.2) (.int .i64 (-1))) (fun _ hk => hk.2) (.slice Ao34 y701.length co34)) (fun _ hk => ⟨hk.1.1.2, hk.1.2⟩)))⟩; have n1_ : Aside0 (Kd.R (Kd.int .u8) 5 w37 w.heap.size (fun _ => True) (.slice Ao34 y701.length co34) y701) := ⟨(by rw [hw]; exact (by (with_reducible repeat (first | apply Kd.R_alloc | apply Kd.R_drewN | apply Kd.R_drew)); exact Kd.R_mono (Kd.R_far (p := ⟨gb704, 4, none⟩) (Kd.R_far (p := ⟨gb704, 3, none⟩) (Kd.R_far (p := ⟨gb704, 2, none⟩) (Kd.R_far (p := ⟨gb704, 1, none⟩) (Kd.R_far (p := ⟨gb704, 0, none⟩) (Kd.R_types HO703.out BK704.out (by decide)) (fun _ hk => hk.2) (.int .i64 7)) (fun _ hk => hk.2) (.int .i64 0)) (fun _ hk => hk.2) (.bool false)) (fun _ hk => hk.2) (.int .i64 (-1))) (fun _ hk => hk.2) (.slice Ao34 y701.length co34)) (fun _ hk => trivial)))⟩; have n2_ : Aside0 (w37.heap[gb704]? = some (.cells #[.int .i64 7, .int .i64 0, .bool false, .int .i64 (-1), .slice Ao34 y701.length co34] 28 (0, 0))) := ⟨(by rw [hw]; exact (by (with_reducible repeat (first | refine blk_drewN ?_ _ | refine blk_drew ?_ | refine blk_alloc ?_ _)); refine blk_put (cs := #[.int .i64 7, .int .i64 0, .bool false, .int .i64 (-1), .slice none 0 0]) ?_ 4 _ rfl; (with_reducible repeat (first | refine blk_drewN ?_ _ | refine blk_drew ?_ | refine blk_alloc ?_ _)); refine blk_put (cs := #[.int .i64 7, .int .i64 0, .bool false, .int .i64 0, .slice none 0 0]) ?_ 3 _ rfl; (with_reducible repeat (first | refine blk_drewN ?_ _ | refine blk_drew ?_ | refine blk_alloc ?_ _)); refine blk_put (cs := #[.int .i64 7, .int .i64 0, .bool false, .int .i64 0, .slice none 0 0]) ?_ 2 _ rfl; (with_reducible repeat (first | refine blk_drewN ?_ _ | refine blk_drew ?_ | refine blk_alloc ?_ _)); refine blk_put (cs := #[.int .i64 7, .int .i64 0, .bool false, .int .i64 0, .slice none 0 0]) ?_ 1 _ rfl; (with_reducible repeat (first | refine blk_drewN ?_ _ | refine blk_drew ?_ | refine blk_alloc ?_ _)); refine blk_put (cs := #[.int .i64 0, .int .i64 0, .bool false, .int .i64 0, .slice none 0 0]) ?_ 0 _ rfl; (with_reducible repeat (first | refine blk_drewN ?_ _ | refine blk_drew ?_ | refine blk_alloc ?_ _)); exact BK704.out))⟩; have n3_ : Aside0 (Below w.heap.size w w37) := ⟨(by rw [hw]; exact (by repeat (first | (with_reducible first | exact HB.out | apply below_alloc | apply pw_below_drewN | apply below_drew1 | refine below_set ?_ GE704.out) | exact HB.out)))⟩; clear hw; clear HO_7; clear HO703; clear BK704; clear HB; have HO_7 := n0_; have HO703 := n1_; have BK704 := n2_; have HB := n3_; clear n0_ n1_ n2_ n3_; have p705 : 0 ≤ (x8_2 : Int) := of_decide_eq_true (by first | (with_reducible assumption) | assumption); have q705 : x8_2 < (l1.length : Int) := of_decide_eq_true (by first | (with_reducible assumption) | assumption); obtain ⟨ad705, e705, hx705_0⟩ := Kd.at_bool HR1.out x8_2 p705 q705; (try rw [← Nbq16.out] at hx705_0); cases e705; replace hx705_0 := (HB.out.cell (World.block_lt_of_cell? w _ hx705_0)).trans hx705_0; replace p705 := eq_true p705; replace q705 := eq_true q705; have hcz38_0 : w37.cell? ⟨gb704, 0, none⟩ = some (.int .i64 7) := (blk_cell BK704.out 0).trans rfl; have hcz38_1 : w37.cell? ⟨gb704, 1, none⟩ = some (.int .i64 0) := (blk_cell BK704.out 1).trans rfl; have hcz38_2 : w37.cell? ⟨gb704, 2, none⟩ = some (.bool false) := (blk_cell BK704.out 2).trans rfl; have hcz38_3 : w37.cell? ⟨gb704, 3, none⟩ = some (.int .i64 (-1)) := (blk_cell BK704.out 3).trans rfl; have hcz38_4 : w37.cell? ⟨gb704, 4, none⟩ = some (.slice Ao34 y701.length co34) := (blk_cell BK704.out 4).trans rfl; have hfz38_0 := blk_frozen BK704.out 0; have hfz38_1 := blk_frozen BK704.out 1; have hfz38_2 := blk_frozen BK704.out 2; have hfz38_3 := blk_frozen BK704.out 3; have hfz38_4 := blk_frozen BK704.out 4) | ((with_reducible refine gate_builtin (b := .append) (xs := #[.tmp 60, .tmp 62]) rfl ?_); at_builtin; refine Kd.S_append k28 (w0 := w) w.heap.size rfl (.tmp 60) (.tmp 62) 40 28 (.agg #[(.int .i64 0), (.int .i64 0), (.bool false), (.int .i64 0), (.slice none 0 0)]) 56 rfl Try.underlying40 info28 rfl (by decide) (by omega) u7 x7_2 (⟨7, 0, false, (-1), y701⟩ : S28) [.int .i64 7, .int .i64 0, .bool false, .int .i64 (-1), .slice Ao34 y701.length co34] (fun k_ => k_ ≠ gb704) (fun k_ => some k_ = (.slice Ao34 y701.length co34 : Value).ownBlock) rfl rfl ?aP (fun k_ hk_ => ((Kd.R_mono (ok' := fun k_ => ((fun k_ => k_ ≠ gb704)) k_ ∧ some k_ ≠ (u7 : Value).ownBlock) (Kd.R_types (Kd.R_apart' (HO703.out) (Kd.S_typed HO_7.out) (by decide)) BK704.out (by decide)) (fun k_ hk => ⟨hk.2, hk.1.2⟩))).1 k_ hk_.symm) ?aF ?aO ?aB ?aS ?aL ?_; (case aP => exact k28_mkM _ _ _ (⟨7, 0, false, (-1), y701⟩ : S28) (Kd.R_mono (Kd.R_tight rfl (Kd.R_mono (ok' := fun k_ => ((fun k_ => k_ ≠ gb704)) k_ ∧ some k_ ≠ (u7 : Value).ownBlock) (Kd.R_types (Kd.R_apart' (HO703.out) (Kd.S_typed HO_7.out) (by decide)) BK704.out (by decide)) (fun k_ hk => ⟨hk.2, hk.1.2⟩))) (fun _ h_ => h_))); (case aB => exact (by repeat (first | (with_reducible first | exact HB.out | apply below_alloc | apply pw_below_drewN | apply below_drew1 | refine below_set ?_ GE704.out) | exact HB.out))); (case aF => exact (fun k_ hk => Kd.freshB (g := gb704) (o := .cells #[.int .i64 7, .int .i64 0, .bool false, .int .i64 (-1), .slice Ao34 y701.length co34] 28 (0, 0)) (by (with_reducible repeat (first | refine blk_drewN ?_ _ | refine blk_drew ?_ | refine blk_alloc ?_ _)); exact BK704.out) k_ hk)); (case aO => exact (by (with_reducible repeat (first | apply Kd.S_alloc | apply Kd.S_drewN | apply Kd.S_drew)); exact Kd.S_mono HO_7.out (fun k_ hk => ⟨hk.2, fun e_ => hk.1 e_⟩))); (case aS => exact (below_size (by repeat (first | (with_reducible first | exact HB.out | apply below_alloc | apply pw_below_drewN | apply below_drew1 | refine below_set ?_ GE704.out) | exact HB.out)))); (case aL => have := LMc30.out; omega); intro v710 w39 ho hb hg hat; rw [← Ny709.out] at ho; have n0_ := Aside0.mk (blk_grown (g := gb704) (o := .cells #[.int .i64 7, .int .i64 0, .bool false, .int .i64 (-1), .slice Ao34 y701.length co34] 28 (0, 0)) (by (with_reducible repeat (first | refine blk_drewN ?_ _ | refine blk_drew ?_ | refine blk_alloc ?_ _)); exact BK704.out) hg (Kd.S_away HO_7.out (fun _ hk => hk.2))); have n1_ := Aside0.mk (hb); have n2_ := Aside0.mk (ho); clear BK704; clear HB; clear HO_7; clear HO703; have BK704 := n0_; have HB := n1_; have HO711 := n2_; clear n0_ n1_ n2_; clear ho hb hg hat))
                      go_roundg k2
                      case measure => have := HJ3.out; have := HK2.out; omega
                      case rel => exact ⟨(y709), (wrap64 (x8_2 + 1)), (by first | rfl | (simp; done) | (simp [*]; done)), H', ⟨by have := HJ3.out; have := HK2.out; omega⟩, ⟨by (with_reducible repeat (first | apply Kd.S_alloc | apply Kd.S_drewN | apply Kd.S_drew)); exact Kd.S_mono HO711.out (fun _ hk => trivial)⟩, ⟨by repeat (first | (with_reducible first | exact HB.out | apply below_alloc | apply pw_below_drewN | apply below_drew1 | refine below_set ?_ GE704.out) | exact HB.out)⟩⟩
                    · rw [if_neg c30] at H
                      exact absurd H (by simp)
                · rw [if_neg c15] at H
                  exact absurd H (by simp)
              · rw [if_neg c14] at H
                have c14b0 : (t700 == 0) = false := beq_eq_false_iff_ne.mpr c14
                have c14b1 : (t700 != 0) = true := bne_iff_ne.mpr c14
                obtain rfl := Option.some.inj H
                go_wp2_with (first | ((with_reducible refine gate_callee (f := 27) rfl ?_); refine goesL_ (some 43) rfl rfl Try.func27 (by kernel_rfl) rfl #[.int .i64 x8_2, .int .i64 a2] rfl (by (try simp only [List.map_toArray, List.map_cons, List.map_nil]); first | done | rfl | (simp only [List.length_drop, List.length_take]; rfl)) ?_; (with_reducible refine (transport_Arrival.calls k2 x8_2 a2 t699 t700 _ A13.out).mono ?_); rintro e w40 ⟨rfl, hb⟩; refine ⟨_, rfl, ?_⟩; have n0_ := Aside0.mk (Kd.S_below (by (with_reducible repeat (first | apply Kd.S_alloc | apply Kd.S_drewN | apply Kd.S_drew)); exact HO_7.out) hb); have n1_ := Aside0.mk (below_step (by repeat (first | (with_reducible first | exact HB.out | apply below_alloc | apply pw_below_drewN | apply below_drew1) | exact HB.out)) hb); clear HO_7; clear HB; have HO_7 := n0_; have HB := n1_; clear n0_ n1_; (try clear hb); (try clear hb2); (try clear hk); (try clear hi)))
                go_ret
                exact ⟨by first | rfl | (simp [errW_none, errW_some] <;> rfl) | (simp [*, errW_none, errW_some] <;> rfl), by repeat (first | (with_reducible first | exact HB.out | apply below_alloc | apply pw_below_drewN | apply below_drew1) | exact HB.out)⟩
            · rw [if_neg c12] at H
              have c12b0 : decide (x8_2 < (l1.length : Int)) = false := decide_eq_false c12
              clear c12
              replace H := Option.bind_eq_some_iff.mp H
              obtain ⟨⟨t696, t697⟩, A410, H⟩ := H
              replace H : ((cutroomlaw17_awake.f k2).bind fun t698 => (if t698 = true then (if t697 = 0 then (some (t696 == 0)) else (some false)) else (some false))) = some r := H
              have A41 := Aside0.mk A410
              clear A410
              replace H := Option.bind_eq_some_iff.mp H
              obtain ⟨t698, A420, H⟩ := H
              replace H : (if t698 = true then (if t697 = 0 then (some (t696 == 0)) else (some false)) else (some false)) = some r := H
              have A42 := Aside0.mk A420
              clear A420
              by_cases c43 : t698 = true
              · subst c43
                have H1 : (if t697 = 0 then (some (t696 == 0)) else (some false)) = some r := by rw [if_pos rfl] at H; exact H
                clear H
                have H := H1
                clear H1
                by_cases c44 : t697 = 0
                · rw [if_pos c44] at H
                  have c44b0 : (t697 == 0) = true := beq_iff_eq.mpr c44
                  have c44b1 : (t697 != 0) = false := bne_eq_false_iff_eq.mpr c44
                  clear c44
                  obtain rfl := Option.some.inj H
                  obtain ⟨Ao45, co45, eo45⟩ := Kd.S_slice HO_7.out
                  subst eo45
                  go_wp2_with (first | ((with_reducible refine gate_callee (f := 29) rfl ?_); refine goesL_ (some 67) rfl rfl Try.func29 (by kernel_rfl) rfl #[.slice Ao45 x7_2.length co45, .int .i64 7, .int .i64 a2] rfl (by (try simp only [List.map_toArray, List.map_cons, List.map_nil]); first | done | rfl | (simp only [List.length_drop, List.length_take]; rfl)) ?_; (with_reducible refine (transport_Jitter.calls k2 _ _ x7_2 7 a2 t696 t697 _ ?side1 ?side2 A41.out).mono ?_); (case side1 => repeat (first | exact (Kd.S_reads' HO_7.out).2.2 | (with_reducible refine Kd.C_alloc ?_ _) | (with_reducible refine Kd.C_drewN ?_ _) | (with_reducible refine Kd.C_drew ?_))); (case side2 => exact (Kd.S_reads' HO_7.out).2.1); rintro e w46 ⟨rfl, hb⟩; refine ⟨_, rfl, ?_⟩; have n0_ := Aside0.mk (Kd.S_below (by (with_reducible repeat (first | apply Kd.S_alloc | apply Kd.S_drewN | apply Kd.S_drew)); exact HO_7.out) hb); have n1_ := Aside0.mk (below_step (by repeat (first | (with_reducible first | exact HB.out | apply below_alloc | apply pw_below_drewN | apply below_drew1) | exact HB.out)) hb); clear HO_7; clear HB; have HO_7 := n0_; have HB := n1_; clear n0_ n1_; (try clear hb); (try clear hb2); (try clear hk); (try clear hi)) | ((with_reducible refine gate_callee (f := 15) rfl ?_); refine goesL_ (some 70) rfl rfl Try.func15 (by kernel_rfl) rfl #[] rfl (by (try simp only [List.map_toArray, List.map_cons, List.map_nil]); first | done | rfl | (simp only [List.length_drop, List.length_take]; rfl)) ?_; (with_reducible refine (cutroomlaw17_awake.calls k2  true _ A42.out).mono ?_); rintro e w47 ⟨rfl, hb⟩; refine ⟨_, rfl, ?_⟩; have n0_ := Aside0.mk (Kd.S_below (by (with_reducible repeat (first | apply Kd.S_alloc | apply Kd.S_drewN | apply Kd.S_drew)); exact HO_7.out) hb); have n1_ := Aside0.mk (below_step (by repeat (first | (with_reducible first | exact HB.out | apply below_alloc | apply pw_below_drewN | apply below_drew1) | exact HB.out)) hb); clear HO_7; clear HB; have HO_7 := n0_; have HB := n1_; clear n0_ n1_; (try clear hb); (try clear hb2); (try clear hk); (try clear hi)))
                  go_ret
                  exact ⟨by first | rfl | (simp [errW_none, errW_some] <;> rfl) | (simp [*, errW_none, errW_some] <;> rfl), by repeat (first | (with_reducible first | exact HB.out | apply below_alloc | apply pw_below_drewN | apply below_drew1) | exact HB.out)⟩
                · rw [if_neg c44] at H
                  have c44b0 : (t697 == 0) = false := beq_eq_false_iff_ne.mpr c44
                  have c44b1 : (t697 != 0) = true := bne_iff_ne.mpr c44
                  obtain rfl := Option.some.inj H
                  obtain ⟨Ao48, co48, eo48⟩ := Kd.S_slice HO_7.out
                  subst eo48
                  go_wp2_with (first | ((with_reducible refine gate_callee (f := 29) rfl ?_); refine goesL_ (some 67) rfl rfl Try.func29 (by kernel_rfl) rfl #[.slice Ao48 x7_2.length co48, .int .i64 7, .int .i64 a2] rfl (by (try simp only [List.map_toArray, List.map_cons, List.map_nil]); first | done | rfl | (simp only [List.length_drop, List.length_take]; rfl)) ?_; (with_reducible refine (transport_Jitter.calls k2 _ _ x7_2 7 a2 t696 t697 _ ?side1 ?side2 A41.out).mono ?_); (case side1 => repeat (first | exact (Kd.S_reads' HO_7.out).2.2 | (with_reducible refine Kd.C_alloc ?_ _) | (with_reducible refine Kd.C_drewN ?_ _) | (with_reducible refine Kd.C_drew ?_))); (case side2 => exact (Kd.S_reads' HO_7.out).2.1); rintro e w49 ⟨rfl, hb⟩; refine ⟨_, rfl, ?_⟩; have n0_ := Aside0.mk (Kd.S_below (by (with_reducible repeat (first | apply Kd.S_alloc | apply Kd.S_drewN | apply Kd.S_drew)); exact HO_7.out) hb); have n1_ := Aside0.mk (below_step (by repeat (first | (with_reducible first | exact HB.out | apply below_alloc | apply pw_below_drewN | apply below_drew1) | exact HB.out)) hb); clear HO_7; clear HB; have HO_7 := n0_; have HB := n1_; clear n0_ n1_; (try clear hb); (try clear hb2); (try clear hk); (try clear hi)) | ((with_reducible refine gate_callee (f := 15) rfl ?_); refine goesL_ (some 70) rfl rfl Try.func15 (by kernel_rfl) rfl #[] rfl (by (try simp only [List.map_toArray, List.map_cons, List.map_nil]); first | done | rfl | (simp only [List.length_drop, List.length_take]; rfl)) ?_; (with_reducible refine (cutroomlaw17_awake.calls k2  true _ A42.out).mono ?_); rintro e w50 ⟨rfl, hb⟩; refine ⟨_, rfl, ?_⟩; have n0_ := Aside0.mk (Kd.S_below (by (with_reducible repeat (first | apply Kd.S_alloc | apply Kd.S_drewN | apply Kd.S_drew)); exact HO_7.out) hb); have n1_ := Aside0.mk (below_step (by repeat (first | (with_reducible first | exact HB.out | apply below_alloc | apply pw_below_drewN | apply below_drew1) | exact HB.out)) hb); clear HO_7; clear HB; have HO_7 := n0_; have HB := n1_; clear n0_ n1_; (try clear hb); (try clear hb2); (try clear hk); (try clear hi)))
                  go_ret
                  exact ⟨by first | rfl | (simp [errW_none, errW_some] <;> rfl) | (simp [*, errW_none, errW_some] <;> rfl), by repeat (first | (with_reducible first | exact HB.out | apply below_alloc | apply pw_below_drewN | apply below_drew1) | exact HB.out)⟩
              · replace c43 := Bool.eq_false_iff.mpr c43
                subst c43
                have H1 : (some false) = some r := by rw [if_neg (show ¬ (false = true) by decide)] at H; exact H
                clear H
                have H := H1
                clear H1
                obtain rfl := Option.some.inj H
                obtain ⟨Ao51, co51, eo51⟩ := Kd.S_slice HO_7.out
                subst eo51
                go_wp2_with (first | ((with_reducible refine gate_callee (f := 29) rfl ?_); refine goesL_ (some 67) rfl rfl Try.func29 (by kernel_rfl) rfl #[.slice Ao51 x7_2.length co51, .int .i64 7, .int .i64 a2] rfl (by (try simp only [List.map_toArray, List.map_cons, List.map_nil]); first | done | rfl | (simp only [List.length_drop, List.length_take]; rfl)) ?_; (with_reducible refine (transport_Jitter.calls k2 _ _ x7_2 7 a2 t696 t697 _ ?side1 ?side2 A41.out).mono ?_); (case side1 => repeat (first | exact (Kd.S_reads' HO_7.out).2.2 | (with_reducible refine Kd.C_alloc ?_ _) | (with_reducible refine Kd.C_drewN ?_ _) | (with_reducible refine Kd.C_drew ?_))); (case side2 => exact (Kd.S_reads' HO_7.out).2.1); rintro e w52 ⟨rfl, hb⟩; refine ⟨_, rfl, ?_⟩; have n0_ := Aside0.mk (Kd.S_below (by (with_reducible repeat (first | apply Kd.S_alloc | apply Kd.S_drewN | apply Kd.S_drew)); exact HO_7.out) hb); have n1_ := Aside0.mk (below_step (by repeat (first | (with_reducible first | exact HB.out | apply below_alloc | apply pw_below_drewN | apply below_drew1) | exact HB.out)) hb); clear HO_7; clear HB; have HO_7 := n0_; have HB := n1_; clear n0_ n1_; (try clear hb); (try clear hb2); (try clear hk); (try clear hi)) | ((with_reducible refine gate_callee (f := 15) rfl ?_); refine goesL_ (some 70) rfl rfl Try.func15 (by kernel_rfl) rfl #[] rfl (by (try simp only [List.map_toArray, List.map_cons, List.map_nil]); first | done | rfl | (simp only [List.length_drop, List.length_take]; rfl)) ?_; (with_reducible refine (cutroomlaw17_awake.calls k2  false _ A42.out).mono ?_); rintro e w53 ⟨rfl, hb⟩; refine ⟨_, rfl, ?_⟩; have n0_ := Aside0.mk (Kd.S_below (by (with_reducible repeat (first | apply Kd.S_alloc | apply Kd.S_drewN | apply Kd.S_drew)); exact HO_7.out) hb); have n1_ := Aside0.mk (below_step (by repeat (first | (with_reducible first | exact HB.out | apply below_alloc | apply pw_below_drewN | apply below_drew1) | exact HB.out)) hb); clear HO_7; clear HB; have HO_7 := n0_; have HB := n1_; clear n0_ n1_; (try clear hb); (try clear hb2); (try clear hk); (try clear hi)))
                go_ret
                exact ⟨by first | rfl | (simp [errW_none, errW_some] <;> rfl) | (simp [*, errW_none, errW_some] <;> rfl), by repeat (first | (with_reducible first | exact HB.out | apply below_alloc | apply pw_below_drewN | apply below_drew1) | exact HB.out)⟩

/-- THE ONE PURE STATEMENT of cutroomlaw17_TransportSteady: yours. -/
def cutroomlaw17_TransportSteady.Pure : Prop := ∀ (a0 : Int) (l1 : List Bool) (a2 : Int), (Lit.int .i64 a0).wf = true → (l1.length ≤ maxLen ∧ l1.length * 1 ≤ 140737488351232 ∧ ∀ q0 ∈ l1, True) → (Lit.int .i64 a2).wf = true → ∃ k, cutroomlaw17_TransportSteady.f k a0 l1 a2 = some true

end Go.Proofs.Ytdndhbfagoghfaa.P
