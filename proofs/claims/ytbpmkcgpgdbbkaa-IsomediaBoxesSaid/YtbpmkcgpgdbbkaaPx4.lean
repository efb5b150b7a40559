-- Written by this session's own program (wip/tools/myprint.py), which runs the kit's print with turns of its own: not a text of the kit's print.sh.
import Derived.Test.YtbpmkcgpgdbbkaaPx0
import Derived.Test.YtbpmkcgpgdbbkaaPx13
import Derived.Test.YtbpmkcgpgdbbkaaPx29
import Derived.Test.YtbpmkcgpgdbbkaaPx30
namespace Go.Proofs.Ytbpmkcgpgdbbkaa.P
open Go.RowKit Go.Proofs.YtbpmkcgpgdbbkaaW.PrintWords Go.Proofs.YtbpmkcgpgdbbkaaW.PrintLast Go.Proofs.YtbpmkcgpgdbbkaaW.PrintMore
attribute [local go_sem] max2_int min2_int max_two min_two max_three min_three max_four min_four   -- for this text's walks alone
set_option linter.unusedVariables false
set_option linter.unusedSimpArgs false

/-! ### cutroomlaw18_IsomediaBoxes: function 3 -/
mutual
def cutroomlaw18_IsomediaBoxes.j0 : Nat → List (S31) → List (S32) → Bool → Option (Bool)
 | 0, _, _, _ => none
 | k + 1, x7, x9, x38 => if x38 = true then (some false) else (cutroomlaw18_IsomediaBoxes.l0 k x7 x9 0)
def cutroomlaw18_IsomediaBoxes.l0 : Nat → List (S31) → List (S32) → Int → Option (Bool)
 | 0, _, _, _ => none
 | k + 1, x7, x9, x11 => if x11 < (x7.length : Int) then (if 0 ≤ x11 then (if x11 < (x9.length : Int) then (if ((rd_T31 x7 x11).f0).toList = ((rd_T32 x9 x11).f0).toList then (if ((rd_T31 x7 x11).f1) = ((rd_T32 x9 x11).f1) then (if ((rd_T31 x7 x11).f2) = ((rd_T32 x9 x11).f2) then (if ((rd_T31 x7 x11).f3) = ((rd_T32 x9 x11).f3) then (cutroomlaw18_IsomediaBoxes.l0 k x7 x9 (wrap64 (x11 + 1))) else (some false)) else (some false)) else (some false)) else (some false)) else (none)) else (none)) else ((cutroomlaw18_awake.f k).bind fun t136 => (some t136))
end
def cutroomlaw18_IsomediaBoxes.f (k : Nat) (l0 : List Int) (a1 : Int) (a2 : Int) : Option (Bool) := if (l0.length : Int) > 1000 then (some true) else ((isomedia_Boxes.f k l0 a1 a2).bind fun bt120 => ((cutroomref18_Boxes.f k l0 a1 a2).bind fun bt124 => (if bt120.2 = bt124.2 then (cutroomlaw18_IsomediaBoxes.j0 k bt120.1 bt124.1 ((bt120.1.length : Int) != (bt124.1.length : Int))) else (cutroomlaw18_IsomediaBoxes.j0 k bt120.1 bt124.1 true))))
theorem cutroomlaw18_IsomediaBoxes.mono_l : ∀ k, (∀ y0 y1 y2, LeO (cutroomlaw18_IsomediaBoxes.j0 k y0 y1 y2) (cutroomlaw18_IsomediaBoxes.j0 (k + 1) y0 y1 y2)) ∧ (∀ y0 y1 y2, LeO (cutroomlaw18_IsomediaBoxes.l0 k y0 y1 y2) (cutroomlaw18_IsomediaBoxes.l0 (k + 1) y0 y1 y2))
 | 0 => ⟨fun _ _ _ r h => by simp [cutroomlaw18_IsomediaBoxes.j0] at h, fun _ _ _ r h => by simp [cutroomlaw18_IsomediaBoxes.l0] at h⟩
 | k + 1 => by
  obtain ⟨ih0, ih1⟩ := cutroomlaw18_IsomediaBoxes.mono_l k
  refine ⟨?_, ?_⟩
  ·intro y0 y1 y2
   unfold cutroomlaw18_IsomediaBoxes.j0
   repeat' first
   | (with_reducible exact ih0 _ _ _)
   | (with_reducible exact ih1 _ _ _)
   | (with_reducible exact cutroomlaw18_awake.mono _)
   | (with_reducible exact cutroomref18_Boxes.mono _ _ _ _)
   | (with_reducible exact isomedia_Boxes.mono _ _ _ _)
   | (with_reducible exact LeO.refl _)
   | (with_reducible exact LeO.none _)
   | (with_reducible refine LeO.ite ?_ ?_)
   | (with_reducible refine LeO.bind ?_ (fun _ => ?_))
   | exact ih0 _ _ _
   | exact ih1 _ _ _
   | exact cutroomlaw18_awake.mono _
   | exact cutroomref18_Boxes.mono _ _ _ _
   | exact isomedia_Boxes.mono _ _ _ _
   | exact LeO.none _
   | refine LeO.ite ?_ ?_
   | refine LeO.bind ?_ (fun _ => ?_)
  ·intro y0 y1 y2
   unfold cutroomlaw18_IsomediaBoxes.l0
   repeat' first
   | (with_reducible exact ih0 _ _ _)
   | (with_reducible exact ih1 _ _ _)
   | (with_reducible exact cutroomlaw18_awake.mono _)
   | (with_reducible exact cutroomref18_Boxes.mono _ _ _ _)
   | (with_reducible exact isomedia_Boxes.mono _ _ _ _)
   | (with_reducible exact LeO.refl _)
   | (with_reducible exact LeO.none _)
   | (with_reducible refine LeO.ite ?_ ?_)
   | (with_reducible refine LeO.bind ?_ (fun _ => ?_))
   | exact ih0 _ _ _
   | exact ih1 _ _ _
   | exact cutroomlaw18_awake.mono _
   | exact cutroomref18_Boxes.mono _ _ _ _
   | exact isomedia_Boxes.mono _ _ _ _
   | exact LeO.none _
   | refine LeO.ite ?_ ?_
   | refine LeO.bind ?_ (fun _ => ?_)
theorem cutroomlaw18_IsomediaBoxes.mono : ∀ a0 a1 a2 k, LeO (cutroomlaw18_IsomediaBoxes.f k a0 a1 a2) (cutroomlaw18_IsomediaBoxes.f (k + 1) a0 a1 a2) := by
 intro a0 a1 a2 k
 obtain ⟨ih0, ih1⟩ := cutroomlaw18_IsomediaBoxes.mono_l k
 unfold cutroomlaw18_IsomediaBoxes.f
 repeat' first
   | (with_reducible exact ih0 _ _ _)
   | (with_reducible exact ih1 _ _ _)
   | (with_reducible exact cutroomlaw18_awake.mono _)
   | (with_reducible exact cutroomref18_Boxes.mono _ _ _ _)
   | (with_reducible exact isomedia_Boxes.mono _ _ _ _)
   | (with_reducible exact LeO.refl _)
   | (with_reducible exact LeO.none _)
   | (with_reducible refine LeO.ite ?_ ?_)
   | (with_reducible refine LeO.bind ?_ (fun _ => ?_))
   | exact ih0 _ _ _
   | exact ih1 _ _ _
   | exact cutroomlaw18_awake.mono _
   | exact cutroomref18_Boxes.mono _ _ _ _
   | exact isomedia_Boxes.mono _ _ _ _
   | exact LeO.none _
   | refine LeO.ite ?_ ?_
   | refine LeO.bind ?_ (fun _ => ?_)
set_option maxHeartbeats 8000000 in
set_option maxRecDepth 100000 in
theorem cutroomlaw18_IsomediaBoxes.calls (k : Nat) (A0 : Option Addr) (c0 : Nat) (l0 : List Int) (a1 : Int) (a2 : Int) (r : Bool) (w : World) (hr0 : Kd.C (Kd.int .u8) w A0 l0.length l0) (hc0 : l0.length ≤ c0) (h : cutroomlaw18_IsomediaBoxes.f k l0 a1 a2 = some r) :
  Calls Try.prog 3 #[.slice A0 l0.length c0, .int .i64 a1, .int .i64 a2] w fun e w' => e = .returned (.bool r) ∧ Below w.heap.size w w' := by
 have HR0 := Aside0.mk hr0
 have HC0 := Aside0.mk hc0
 clear hr0 hc0
 have HB := Aside0.mk (Below.refl w.heap.size w)
 have H : (if (l0.length : Int) > 1000 then (some true) else ((isomedia_Boxes.f k l0 a1 a2).bind fun bt120 => ((cutroomref18_Boxes.f k l0 a1 a2).bind fun bt124 => (if bt120.2 = bt124.2 then (cutroomlaw18_IsomediaBoxes.j0 k bt120.1 bt124.1 ((bt120.1.length : Int) != (bt124.1.length : Int))) else (cutroomlaw18_IsomediaBoxes.j0 k bt120.1 bt124.1 true))))) = some r := h
 clear h
 by_cases c4 : (l0.length : Int) > 1000
 ·rw [if_pos c4] at H
  have c4b0 : decide (1000 < (l0.length : Int)) = true := decide_eq_true c4
  have c4b1 : decide (1000 < l0.length) = true := decide_eq_true (by omega)
  clear c4
  obtain rfl := Option.some.inj H
  go_enter Try.func3, Try.ntmps3
  go_wp2
  repeat (go_quiet (fail); try go_wp2)
  go_ret
  exact ⟨by first | rfl | (simp [errW_none, errW_some] <;> rfl) | (simp [*, errW_none, errW_some] <;> rfl), by repeat (first | (with_reducible first | exact HB.out | apply below_alloc | apply pw_below_drewN | apply below_drew1) | exact HB.out)⟩
 ·rw [if_neg c4] at H
  have c4b0 : decide (1000 < (l0.length : Int)) = false := decide_eq_false c4
  have c4b1 : decide (1000 < l0.length) = false := decide_eq_false (by omega)
  clear c4
  replace H := Option.bind_eq_some_iff.mp H
  obtain ⟨⟨t120, t121⟩, A50, H⟩ := H
  replace H : ((cutroomref18_Boxes.f k l0 a1 a2).bind fun bt124 => (if t121 = bt124.2 then (cutroomlaw18_IsomediaBoxes.j0 k t120 bt124.1 ((t120.length : Int) != (bt124.1.length : Int))) else (cutroomlaw18_IsomediaBoxes.j0 k t120 bt124.1 true))) = some r := H
  have A5 := Aside0.mk A50
  clear A50
  replace H := Option.bind_eq_some_iff.mp H
  obtain ⟨⟨t124, t125⟩, A60, H⟩ := H
  replace H : (if t121 = t125 then (cutroomlaw18_IsomediaBoxes.j0 k t120 t124 ((t120.length : Int) != (t124.length : Int))) else (cutroomlaw18_IsomediaBoxes.j0 k t120 t124 true)) = some r := H
  have A6 := Aside0.mk A60
  clear A60
  have HC7 := Aside0.mk H
  clear H
  go_enter Try.func3, Try.ntmps3
  go_upto_region 5 with (first | (go_at_call 10; (with_reducible refine (isomedia_Boxes.calls k _ _ l0 a1 a2 t120 t121 _ ?side1 ?side2 A5.out).mono ?_); (case side1 => repeat (first | exact HR0.out | (with_reducible refine Kd.C_alloc ?_ _) | (with_reducible refine Kd.C_drewN ?_ _) | (with_reducible refine Kd.C_drew ?_))); (case side2 => exact HC0.out); rintro e w8 ⟨v122, rfl, ho0, hb⟩; have n0_ := Aside0.mk (Kd.R_lower ho0 (below_size (by repeat (first | (with_reducible first | exact HB.out | apply below_alloc | apply pw_below_drewN | apply below_drew1) | exact HB.out)))); have n1_ := Aside0.mk (below_step (by repeat (first | (with_reducible first | exact HB.out | apply below_alloc | apply pw_below_drewN | apply below_drew1) | exact HB.out)) hb); clear HB; have HO123 := n0_; have HB := n1_; clear n0_ n1_; (try clear hb); (try clear hb2); (try clear hk); (try clear hi); (try clear ho0)) | (go_at_call 11; (with_reducible refine (cutroomref18_Boxes.calls k _ _ l0 a1 a2 t124 t125 _ ?side1 ?side2 A6.out).mono ?_); (case side1 => repeat (first | exact (Kd.C_below HR0.out HB.out) | (with_reducible refine Kd.C_alloc ?_ _) | (with_reducible refine Kd.C_drewN ?_ _) | (with_reducible refine Kd.C_drew ?_))); (case side2 => exact HC0.out); rintro e w9 ⟨v126, rfl, ho0, hb⟩; have n0_ := Aside0.mk (Kd.R_below (by (with_reducible repeat (first | apply Kd.R_alloc | apply Kd.R_drewN | apply Kd.R_drew)); exact HO123.out) hb); have n1_ := Aside0.mk (Kd.R_lower ho0 (below_size (by repeat (first | (with_reducible first | exact HB.out | apply below_alloc | apply pw_below_drewN | apply below_drew1) | exact HB.out)))); have n2_ := Aside0.mk (below_step (by repeat (first | (with_reducible first | exact HB.out | apply below_alloc | apply pw_below_drewN | apply below_drew1) | exact HB.out)) hb); clear HO123; clear HB; have HO123 := n0_; have HO127 := n1_; have HB := n2_; clear n0_ n1_ n2_; (try clear hb); (try clear hb2); (try clear hk); (try clear hi); (try clear ho0)))
  repeat (go_quiet (first | (go_at_call 10; (with_reducible refine (isomedia_Boxes.calls k _ _ l0 a1 a2 t120 t121 _ ?side1 ?side2 A5.out).mono ?_); (case side1 => repeat (first | exact HR0.out | (with_reducible refine Kd.C_alloc ?_ _) | (with_reducible refine Kd.C_drewN ?_ _) | (with_reducible refine Kd.C_drew ?_))); (case side2 => exact HC0.out); rintro e w8 ⟨v122, rfl, ho0, hb⟩; have n0_ := Aside0.mk (Kd.R_lower ho0 (below_size (by repeat (first | (with_reducible first | exact HB.out | apply below_alloc | apply pw_below_drewN | apply below_drew1) | exact HB.out)))); have n1_ := Aside0.mk (below_step (by repeat (first | (with_reducible first | exact HB.out | apply below_alloc | apply pw_below_drewN | apply below_drew1) | exact HB.out)) hb); clear HB; have HO123 := n0_; have HB := n1_; clear n0_ n1_; (try clear hb); (try clear hb2); (try clear hk); (try clear hi); (try clear ho0)) | (go_at_call 11; (with_reducible refine (cutroomref18_Boxes.calls k _ _ l0 a1 a2 t124 t125 _ ?side1 ?side2 A6.out).mono ?_); (case side1 => repeat (first | exact (Kd.C_below HR0.out HB.out) | (with_reducible refine Kd.C_alloc ?_ _) | (with_reducible refine Kd.C_drewN ?_ _) | (with_reducible refine Kd.C_drew ?_))); (case side2 => exact HC0.out); rintro e w9 ⟨v126, rfl, ho0, hb⟩; have n0_ := Aside0.mk (Kd.R_below (by (with_reducible repeat (first | apply Kd.R_alloc | apply Kd.R_drewN | apply Kd.R_drew)); exact HO123.out) hb); have n1_ := Aside0.mk (Kd.R_lower ho0 (below_size (by repeat (first | (with_reducible first | exact HB.out | apply below_alloc | apply pw_below_drewN | apply below_drew1) | exact HB.out)))); have n2_ := Aside0.mk (below_step (by repeat (first | (with_reducible first | exact HB.out | apply below_alloc | apply pw_below_drewN | apply below_drew1) | exact HB.out)) hb); clear HO123; clear HB; have HO123 := n0_; have HO127 := n1_; have HB := n2_; clear n0_ n1_ n2_; (try clear hb); (try clear hb2); (try clear hk); (try clear hi); (try clear ho0))); go_upto_region 5 with (first | (go_at_call 10; (with_reducible refine (isomedia_Boxes.calls k _ _ l0 a1 a2 t120 t121 _ ?side1 ?side2 A5.out).mono ?_); (case side1 => repeat (first | exact HR0.out | (with_reducible refine Kd.C_alloc ?_ _) | (with_reducible refine Kd.C_drewN ?_ _) | (with_reducible refine Kd.C_drew ?_))); (case side2 => exact HC0.out); rintro e w8 ⟨v122, rfl, ho0, hb⟩; have n0_ := Aside0.mk (Kd.R_lower ho0 (below_size (by repeat (first | (with_reducible first | exact HB.out | apply below_alloc | apply pw_below_drewN | apply below_drew1) | exact HB.out)))); have n1_ := Aside0.mk (below_step (by repeat (first | (with_reducible first | exact HB.out | apply below_alloc | apply pw_below_drewN | apply below_drew1) | exact HB.out)) hb); clear HB; have HO123 := n0_; have HB := n1_; clear n0_ n1_; (try clear hb); (try clear hb2); (try clear hk); (try clear hi); (try clear ho0)) | (go_at_call 11; (with_reducible refine (cutroomref18_Boxes.calls k _ _ l0 a1 a2 t124 t125 _ ?side1 ?side2 A6.out).mono ?_); (case side1 => repeat (first | exact (Kd.C_below HR0.out HB.out) | (with_reducible refine Kd.C_alloc ?_ _) | (with_reducible refine Kd.C_drewN ?_ _) | (with_reducible refine Kd.C_drew ?_))); (case side2 => exact HC0.out); rintro e w9 ⟨v126, rfl, ho0, hb⟩; have n0_ := Aside0.mk (Kd.R_below (by (with_reducible repeat (first | apply Kd.R_alloc | apply Kd.R_drewN | apply Kd.R_drew)); exact HO123.out) hb); have n1_ := Aside0.mk (Kd.R_lower ho0 (below_size (by repeat (first | (with_reducible first | exact HB.out | apply below_alloc | apply pw_below_drewN | apply below_drew1) | exact HB.out)))); have n2_ := Aside0.mk (below_step (by repeat (first | (with_reducible first | exact HB.out | apply below_alloc | apply pw_below_drewN | apply below_drew1) | exact HB.out)) hb); clear HO123; clear HB; have HO123 := n0_; have HO127 := n1_; have HB := n2_; clear n0_ n1_ n2_; (try clear hb); (try clear hb2); (try clear hk); (try clear hi); (try clear ho0))))
  (try simp only [Act.put, List.setIfInBounds_toArray, List.set_cons_zero, List.set_cons_succ])
  go_cut [38] (fun v38 wc => ∃ (kq : Nat) (x38_6 : Bool), v38 = .bool x38_6 ∧ Aside0 (cutroomlaw18_IsomediaBoxes.j0 kq t120 t124 x38_6 = some r) ∧ Aside0 (kq ≤ k) ∧ Aside0 (Kd.R k31 31 wc w.heap.size (fun _ => True) v122 t120) ∧ Aside0 (Kd.R k32 32 wc w.heap.size (fun _ => True) v126 t124) ∧ Aside0 (Below w.heap.size w wc))
  case first =>
   have H := HC7.out
   clear HC7
   by_cases c10 : t121 = t125
   ·rw [if_pos c10] at H
    have c10b0 : (t121 == t125) = true := beq_iff_eq.mpr c10
    have c10b1 : (t121 != t125) = false := bne_eq_false_iff_eq.mpr c10
    clear c10
    (first | rw [c10b0] | (simp only [i64_w, i32_w]; rw [c10b0]) | skip)
    have H' := Aside0.mk H
    clear H
    obtain ⟨Ao11, co11, eo11⟩ := Kd.R_slice HO123.out
    subst eo11
    obtain ⟨Ao12, co12, eo12⟩ := Kd.R_slice HO127.out
    subst eo12
    go_wp2
    repeat (go_quiet (fail); try go_wp2)
    go_meet
    case rel => exact ⟨_, (((t120.length : Int) != (t124.length : Int))), (by first | rfl | (simp; done) | (simp [*]; done)), H', ⟨by first | omega | exact Nat.le_refl _⟩, ⟨by (with_reducible repeat (first | apply Kd.R_alloc | apply Kd.R_drewN | apply Kd.R_drew)); exact HO123.out⟩, ⟨by (with_reducible repeat (first | apply Kd.R_alloc | apply Kd.R_drewN | apply Kd.R_drew)); exact HO127.out⟩, ⟨by repeat (first | (with_reducible first | exact HB.out | apply below_alloc | apply pw_below_drewN | apply below_drew1) | exact HB.out)⟩⟩
   ·rw [if_neg c10] at H
    have c10b0 : (t121 == t125) = false := beq_eq_false_iff_ne.mpr c10
    have c10b1 : (t121 != t125) = true := bne_iff_ne.mpr c10
    (first | rw [c10b0] | (simp only [i64_w, i32_w]; rw [c10b0]) | skip)
    have H' := Aside0.mk H
    clear H
    go_wp2
    repeat (go_quiet (fail); try go_wp2)
    go_meet
    case rel => exact ⟨_, (true), (by first | rfl | (simp; done) | (simp [*]; done)), H', ⟨by first | omega | exact Nat.le_refl _⟩, ⟨by (with_reducible repeat (first | apply Kd.R_alloc | apply Kd.R_drewN | apply Kd.R_drew)); exact HO123.out⟩, ⟨by (with_reducible repeat (first | apply Kd.R_alloc | apply Kd.R_drewN | apply Kd.R_drew)); exact HO127.out⟩, ⟨by repeat (first | (with_reducible first | exact HB.out | apply below_alloc | apply pw_below_drewN | apply below_drew1) | exact HB.out)⟩⟩
  case rest =>
   clear HC7
   (try clear c1);(try clear p2);(try clear c3);(try clear c4);(try clear c4b0);(try clear c4b1);(try clear c10);(try clear c10b0);(try clear c10b1)
   obtain ⟨kq, x38_6, rfl, HA, HJ6, HO_7, HO_9, HB⟩ := hcut
   cases kq with
   | zero => exact absurd HA.out (by simp [cutroomlaw18_IsomediaBoxes.j0])
   | succ kj6 =>
    have H := HA.out
    clear HA
    simp only [cutroomlaw18_IsomediaBoxes.j0] at H
    by_cases c13 : x38_6 = true
    ·subst c13
     have H1 : (some false) = some r := by rw [if_pos rfl] at H; exact H
     clear H
     have H := H1
     clear H1
     obtain rfl := Option.some.inj H
     go_wp2
     repeat (go_quiet (fail); try go_wp2)
     go_ret
     exact ⟨by first | rfl | (simp [errW_none, errW_some] <;> rfl) | (simp [*, errW_none, errW_some] <;> rfl), by repeat (first | (with_reducible first | exact HB.out | apply below_alloc | apply pw_below_drewN | apply below_drew1) | exact HB.out)⟩
    ·replace c13 := Bool.eq_false_iff.mpr c13
     subst c13
     have H1 : (cutroomlaw18_IsomediaBoxes.l0 kj6 t120 t124 0) = some r := by rw [if_neg (show ¬ (false = true) by decide)] at H; exact H
     clear H
     have H := H1
     clear H1
     have H' := Aside0.mk H
     clear H
     go_wp2
     repeat (go_quiet (fail); try go_wp2)
     go_loopg [11] kj6 (fun kq v11 w' => ∃ (x11_2 : Int), v11 = .int .i64 x11_2 ∧ Aside0 (cutroomlaw18_IsomediaBoxes.l0 kq t120 t124 x11_2 = some r) ∧ Aside0 (kq ≤ kj6) ∧ Aside0 (Kd.R k31 31 w' w.heap.size (fun _ => True) v122 t120) ∧ Aside0 (Kd.R k32 32 w' w.heap.size (fun _ => True) v126 t124) ∧ Aside0 (Below w.heap.size w w'))
     case atStart => exact ⟨(0), (by first | rfl | (simp; done) | (simp [*]; done)), H', ⟨Nat.le_refl _⟩, ⟨by (with_reducible repeat (first | apply Kd.R_alloc | apply Kd.R_drewN | apply Kd.R_drew)); exact HO_7.out⟩, ⟨by (with_reducible repeat (first | apply Kd.R_alloc | apply Kd.R_drewN | apply Kd.R_drew)); exact HO_9.out⟩, ⟨by repeat (first | (with_reducible first | exact HB.out | apply below_alloc | apply pw_below_drewN | apply below_drew1) | exact HB.out)⟩⟩
     case round =>
      clear H'
      (try clear c1);(try clear p2);(try clear c3);(try clear c4);(try clear c4b0);(try clear c4b1);(try clear c10);(try clear c10b0);(try clear c10b1);(try clear c13);(try clear p2)
      obtain ⟨x11_2, rfl, HA, HK2, HO_7, HO_9, HB⟩ := hrel
      cases gk with
      | zero => exact absurd HA.out (by simp [cutroomlaw18_IsomediaBoxes.l0])
      | succ k2 =>
       have H := HA.out
       clear HA
       simp only [cutroomlaw18_IsomediaBoxes.l0] at H
       by_cases c14 : x11_2 < (t120.length : Int)
       ·rw [if_pos c14] at H
        have c14b0 : decide (x11_2 < (t120.length : Int)) = true := decide_eq_true c14
        clear c14
        by_cases c15 : 0 ≤ x11_2
        ·rw [if_pos c15] at H
         have c15b0 : decide (0 ≤ x11_2) = true := decide_eq_true c15
         clear c15
         by_cases c16 : x11_2 < (t124.length : Int)
         ·rw [if_pos c16] at H
          have c16b0 : decide (x11_2 < (t124.length : Int)) = true := decide_eq_true c16
          clear c16
          by_cases c17 : ((rd_T31 t120 x11_2).f0).toList = ((rd_T32 t124 x11_2).f0).toList
          ·rw [if_pos c17] at H
           have c17b0 : (((rd_T31 t120 x11_2).f0).toList == ((rd_T32 t124 x11_2).f0).toList) = true := beq_iff_eq.mpr c17
           have c17b1 : (((rd_T31 t120 x11_2).f0).toList != ((rd_T32 t124 x11_2).f0).toList) = false := bne_eq_false_iff_eq.mpr c17
           clear c17
           by_cases c18 : ((rd_T31 t120 x11_2).f1) = ((rd_T32 t124 x11_2).f1)
           ·rw [if_pos c18] at H
            have c18b0 : (((rd_T31 t120 x11_2).f1) == ((rd_T32 t124 x11_2).f1)) = true := beq_iff_eq.mpr c18
            have c18b1 : (((rd_T31 t120 x11_2).f1) != ((rd_T32 t124 x11_2).f1)) = false := bne_eq_false_iff_eq.mpr c18
            clear c18
            by_cases c19 : ((rd_T31 t120 x11_2).f2) = ((rd_T32 t124 x11_2).f2)
            ·rw [if_pos c19] at H
             have c19b0 : (((rd_T31 t120 x11_2).f2) == ((rd_T32 t124 x11_2).f2)) = true := beq_iff_eq.mpr c19
             have c19b1 : (((rd_T31 t120 x11_2).f2) != ((rd_T32 t124 x11_2).f2)) = false := bne_eq_false_iff_eq.mpr c19
             clear c19
             by_cases c20 : ((rd_T31 t120 x11_2).f3) = ((rd_T32 t124 x11_2).f3)
             ·rw [if_pos c20] at H
              have c20b0 : (((rd_T31 t120 x11_2).f3) == ((rd_T32 t124 x11_2).f3)) = true := beq_iff_eq.mpr c20
              have c20b1 : (((rd_T31 t120 x11_2).f3) != ((rd_T32 t124 x11_2).f3)) = false := bne_eq_false_iff_eq.mpr c20
              clear c20
              have H' := Aside0.mk H
              clear H
              obtain ⟨Ao21, co21, eo21⟩ := Kd.R_slice HO_7.out
              subst eo21
              have p128 : 0 ≤ (x11_2 : Int) := of_decide_eq_true (by first | (with_reducible assumption) | assumption)
              have q128 : x11_2 < (t120.length : Int) := of_decide_eq_true (by first | (with_reducible assumption) | assumption)
              obtain ⟨ad128, e128, hx128_0, hx128_1, hx128_2, hx128_3⟩ := at_T31 (Kd.R_reads' HO_7.out).2.2 x11_2 p128 q128
              cases e128
              replace p128 := eq_true p128
              replace q128 := eq_true q128
              obtain ⟨Ao22, co22, eo22⟩ := Kd.R_slice HO_9.out
              subst eo22
              have p129 : 0 ≤ (x11_2 : Int) := of_decide_eq_true (by first | (with_reducible assumption) | assumption)
              have q129 : x11_2 < (t124.length : Int) := of_decide_eq_true (by first | (with_reducible assumption) | assumption)
              obtain ⟨ad129, e129, hx129_0, hx129_1, hx129_2, hx129_3⟩ := at_T32 (Kd.R_reads' HO_9.out).2.2 x11_2 p129 q129
              cases e129
              replace p129 := eq_true p129
              replace q129 := eq_true q129
              have p130 : 0 ≤ (x11_2 : Int) := of_decide_eq_true (by first | (with_reducible assumption) | assumption)
              have q130 : x11_2 < (t120.length : Int) := of_decide_eq_true (by first | (with_reducible assumption) | assumption)
              obtain ⟨ad130, e130, hx130_0, hx130_1, hx130_2, hx130_3⟩ := at_T31 (Kd.R_reads' HO_7.out).2.2 x11_2 p130 q130
              obtain rfl : ad128 = ad130 := (by injection e130)
              replace p130 := eq_true p130
              replace q130 := eq_true q130
              have p131 : 0 ≤ (x11_2 : Int) := of_decide_eq_true (by first | (with_reducible assumption) | assumption)
              have q131 : x11_2 < (t124.length : Int) := of_decide_eq_true (by first | (with_reducible assumption) | assumption)
              obtain ⟨ad131, e131, hx131_0, hx131_1, hx131_2, hx131_3⟩ := at_T32 (Kd.R_reads' HO_9.out).2.2 x11_2 p131 q131
              obtain rfl : ad129 = ad131 := (by injection e131)
              replace p131 := eq_true p131
              replace q131 := eq_true q131
              have p132 : 0 ≤ (x11_2 : Int) := of_decide_eq_true (by first | (with_reducible assumption) | assumption)
              have q132 : x11_2 < (t120.length : Int) := of_decide_eq_true (by first | (with_reducible assumption) | assumption)
              obtain ⟨ad132, e132, hx132_0, hx132_1, hx132_2, hx132_3⟩ := at_T31 (Kd.R_reads' HO_7.out).2.2 x11_2 p132 q132
              obtain rfl : ad128 = ad132 := (by injection e132)
              replace p132 := eq_true p132
              replace q132 := eq_true q132
              have p133 : 0 ≤ (x11_2 : Int) := of_decide_eq_true (by first | (with_reducible assumption) | assumption)
              have q133 : x11_2 < (t124.length : Int) := of_decide_eq_true (by first | (with_reducible assumption) | assumption)
              obtain ⟨ad133, e133, hx133_0, hx133_1, hx133_2, hx133_3⟩ := at_T32 (Kd.R_reads' HO_9.out).2.2 x11_2 p133 q133
              obtain rfl : ad129 = ad133 := (by injection e133)
              replace p133 := eq_true p133
              replace q133 := eq_true q133
              have p134 : 0 ≤ (x11_2 : Int) := of_decide_eq_true (by first | (with_reducible assumption) | assumption)
              have q134 : x11_2 < (t120.length : Int) := of_decide_eq_true (by first | (with_reducible assumption) | assumption)
              obtain ⟨ad134, e134, hx134_0, hx134_1, hx134_2, hx134_3⟩ := at_T31 (Kd.R_reads' HO_7.out).2.2 x11_2 p134 q134
              obtain rfl : ad128 = ad134 := (by injection e134)
              replace p134 := eq_true p134
              replace q134 := eq_true q134
              have p135 : 0 ≤ (x11_2 : Int) := of_decide_eq_true (by first | (with_reducible assumption) | assumption)
              have q135 : x11_2 < (t124.length : Int) := of_decide_eq_true (by first | (with_reducible assumption) | assumption)
              obtain ⟨ad135, e135, hx135_0, hx135_1, hx135_2, hx135_3⟩ := at_T32 (Kd.R_reads' HO_9.out).2.2 x11_2 p135 q135
              obtain rfl : ad129 = ad135 := (by injection e135)
              replace p135 := eq_true p135
              replace q135 := eq_true q135
              go_wp2
              repeat (go_quiet (fail); try go_wp2)
              go_roundg k2
              case measure => have := HJ6.out; have := HK2.out; omega
              case rel => exact ⟨(wrap64 (x11_2 + 1)), (by first | rfl | (simp; done) | (simp [*]; done)), H', ⟨by have := HJ6.out; have := HK2.out; omega⟩, ⟨by (with_reducible repeat (first | apply Kd.R_alloc | apply Kd.R_drewN | apply Kd.R_drew)); exact HO_7.out⟩, ⟨by (with_reducible repeat (first | apply Kd.R_alloc | apply Kd.R_drewN | apply Kd.R_drew)); exact HO_9.out⟩, ⟨by repeat (first | (with_reducible first | exact HB.out | apply below_alloc | apply pw_below_drewN | apply below_drew1) | exact HB.out)⟩⟩
             ·rw [if_neg c20] at H
              have c20b0 : (((rd_T31 t120 x11_2).f3) == ((rd_T32 t124 x11_2).f3)) = false := beq_eq_false_iff_ne.mpr c20
              have c20b1 : (((rd_T31 t120 x11_2).f3) != ((rd_T32 t124 x11_2).f3)) = true := bne_iff_ne.mpr c20
              obtain rfl := Option.some.inj H
              obtain ⟨Ao23, co23, eo23⟩ := Kd.R_slice HO_7.out
              subst eo23
              have p128 : 0 ≤ (x11_2 : Int) := of_decide_eq_true (by first | (with_reducible assumption) | assumption)
              have q128 : x11_2 < (t120.length : Int) := of_decide_eq_true (by first | (with_reducible assumption) | assumption)
              obtain ⟨ad128, e128, hx128_0, hx128_1, hx128_2, hx128_3⟩ := at_T31 (Kd.R_reads' HO_7.out).2.2 x11_2 p128 q128
              cases e128
              replace p128 := eq_true p128
              replace q128 := eq_true q128
              obtain ⟨Ao24, co24, eo24⟩ := Kd.R_slice HO_9.out
              subst eo24
              have p129 : 0 ≤ (x11_2 : Int) := of_decide_eq_true (by first | (with_reducible assumption) | assumption)
              have q129 : x11_2 < (t124.length : Int) := of_decide_eq_true (by first | (with_reducible assumption) | assumption)
              obtain ⟨ad129, e129, hx129_0, hx129_1, hx129_2, hx129_3⟩ := at_T32 (Kd.R_reads' HO_9.out).2.2 x11_2 p129 q129
              cases e129
              replace p129 := eq_true p129
              replace q129 := eq_true q129
              have p130 : 0 ≤ (x11_2 : Int) := of_decide_eq_true (by first | (with_reducible assumption) | assumption)
              have q130 : x11_2 < (t120.length : Int) := of_decide_eq_true (by first | (with_reducible assumption) | assumption)
              obtain ⟨ad130, e130, hx130_0, hx130_1, hx130_2, hx130_3⟩ := at_T31 (Kd.R_reads' HO_7.out).2.2 x11_2 p130 q130
              obtain rfl : ad128 = ad130 := (by injection e130)
              replace p130 := eq_true p130
              replace q130 := eq_true q130
              have p131 : 0 ≤ (x11_2 : Int) := of_decide_eq_true (by first | (with_reducible assumption) | assumption)
              have q131 : x11_2 < (t124.length : Int) := of_decide_eq_true (by first | (with_reducible assumption) | assumption)
              obtain ⟨ad131, e131, hx131_0, hx131_1, hx131_2, hx131_3⟩ := at_T32 (Kd.R_reads' HO_9.out).2.2 x11_2 p131 q131
              obtain rfl : ad129 = ad131 := (by injection e131)
              replace p131 := eq_true p131
              replace q131 := eq_true q131
              have p132 : 0 ≤ (x11_2 : Int) := of_decide_eq_true (by first | (with_reducible assumption) | assumption)
              have q132 : x11_2 < (t120.length : Int) := of_decide_eq_true (by first | (with_reducible assumption) | assumption)
              obtain ⟨ad132, e132, hx132_0, hx132_1, hx132_2, hx132_3⟩ := at_T31 (Kd.R_reads' HO_7.out).2.2 x11_2 p132 q132
              obtain rfl : ad128 = ad132 := (by injection e132)
              replace p132 := eq_true p132
              replace q132 := eq_true q132
              have p133 : 0 ≤ (x11_2 : Int) := of_decide_eq_true (by first | (with_reducible assumption) | assumption)
              have q133 : x11_2 < (t124.length : Int) := of_decide_eq_true (by first | (with_reducible assumption) | assumption)
              obtain ⟨ad133, e133, hx133_0, hx133_1, hx133_2, hx133_3⟩ := at_T32 (Kd.R_reads' HO_9.out).2.2 x11_2 p133 q133
              obtain rfl : ad129 = ad133 := (by injection e133)
              replace p133 := eq_true p133
              replace q133 := eq_true q133
              have p134 : 0 ≤ (x11_2 : Int) := of_decide_eq_true (by first | (with_reducible assumption) | assumption)
              have q134 : x11_2 < (t120.length : Int) := of_decide_eq_true (by first | (with_reducible assumption) | assumption)
              obtain ⟨ad134, e134, hx134_0, hx134_1, hx134_2, hx134_3⟩ := at_T31 (Kd.R_reads' HO_7.out).2.2 x11_2 p134 q134
              obtain rfl : ad128 = ad134 := (by injection e134)
              replace p134 := eq_true p134
              replace q134 := eq_true q134
              have p135 : 0 ≤ (x11_2 : Int) := of_decide_eq_true (by first | (with_reducible assumption) | assumption)
              have q135 : x11_2 < (t124.length : Int) := of_decide_eq_true (by first | (with_reducible assumption) | assumption)
              obtain ⟨ad135, e135, hx135_0, hx135_1, hx135_2, hx135_3⟩ := at_T32 (Kd.R_reads' HO_9.out).2.2 x11_2 p135 q135
              obtain rfl : ad129 = ad135 := (by injection e135)
              replace p135 := eq_true p135
              replace q135 := eq_true q135
              go_wp2
              repeat (go_quiet (fail); try go_wp2)
              go_ret
              exact ⟨by first | rfl | (simp [errW_none, errW_some] <;> rfl) | (simp [*, errW_none, errW_some] <;> rfl), by repeat (first | (with_reducible first | exact HB.out | apply below_alloc | apply pw_below_drewN | apply below_drew1) | exact HB.out)⟩
            ·rw [if_neg c19] at H
             have c19b0 : (((rd_T31 t120 x11_2).f2) == ((rd_T32 t124 x11_2).f2)) = false := beq_eq_false_iff_ne.mpr c19
             have c19b1 : (((rd_T31 t120 x11_2).f2) != ((rd_T32 t124 x11_2).f2)) = true := bne_iff_ne.mpr c19
             obtain rfl := Option.some.inj H
             obtain ⟨Ao25, co25, eo25⟩ := Kd.R_slice HO_7.out
             subst eo25
             have p128 : 0 ≤ (x11_2 : Int) := of_decide_eq_true (by first | (with_reducible assumption) | assumption)
             have q128 : x11_2 < (t120.length : Int) := of_decide_eq_true (by first | (with_reducible assumption) | assumption)
             obtain ⟨ad128, e128, hx128_0, hx128_1, hx128_2, hx128_3⟩ := at_T31 (Kd.R_reads' HO_7.out).2.2 x11_2 p128 q128
             cases e128
             replace p128 := eq_true p128
             replace q128 := eq_true q128
             obtain ⟨Ao26, co26, eo26⟩ := Kd.R_slice HO_9.out
             subst eo26
             have p129 : 0 ≤ (x11_2 : Int) := of_decide_eq_true (by first | (with_reducible assumption) | assumption)
             have q129 : x11_2 < (t124.length : Int) := of_decide_eq_true (by first | (with_reducible assumption) | assumption)
             obtain ⟨ad129, e129, hx129_0, hx129_1, hx129_2, hx129_3⟩ := at_T32 (Kd.R_reads' HO_9.out).2.2 x11_2 p129 q129
             cases e129
             replace p129 := eq_true p129
             replace q129 := eq_true q129
             have p130 : 0 ≤ (x11_2 : Int) := of_decide_eq_true (by first | (with_reducible assumption) | assumption)
             have q130 : x11_2 < (t120.length : Int) := of_decide_eq_true (by first | (with_reducible assumption) | assumption)
             obtain ⟨ad130, e130, hx130_0, hx130_1, hx130_2, hx130_3⟩ := at_T31 (Kd.R_reads' HO_7.out).2.2 x11_2 p130 q130
             obtain rfl : ad128 = ad130 := (by injection e130)
             replace p130 := eq_true p130
             replace q130 := eq_true q130
             have p131 : 0 ≤ (x11_2 : Int) := of_decide_eq_true (by first | (with_reducible assumption) | assumption)
             have q131 : x11_2 < (t124.length : Int) := of_decide_eq_true (by first | (with_reducible assumption) | assumption)
             obtain ⟨ad131, e131, hx131_0, hx131_1, hx131_2, hx131_3⟩ := at_T32 (Kd.R_reads' HO_9.out).2.2 x11_2 p131 q131
             obtain rfl : ad129 = ad131 := (by injection e131)
             replace p131 := eq_true p131
             replace q131 := eq_true q131
             have p132 : 0 ≤ (x11_2 : Int) := of_decide_eq_true (by first | (with_reducible assumption) | assumption)
             have q132 : x11_2 < (t120.length : Int) := of_decide_eq_true (by first | (with_reducible assumption) | assumption)
             obtain ⟨ad132, e132, hx132_0, hx132_1, hx132_2, hx132_3⟩ := at_T31 (Kd.R_reads' HO_7.out).2.2 x11_2 p132 q132
             obtain rfl : ad128 = ad132 := (by injection e132)
             replace p132 := eq_true p132
             replace q132 := eq_true q132
             have p133 : 0 ≤ (x11_2 : Int) := of_decide_eq_true (by first | (with_reducible assumption) | assumption)
             have q133 : x11_2 < (t124.length : Int) := of_decide_eq_true (by first | (with_reducible assumption) | assumption)
             obtain ⟨ad133, e133, hx133_0, hx133_1, hx133_2, hx133_3⟩ := at_T32 (Kd.R_reads' HO_9.out).2.2 x11_2 p133 q133
             obtain rfl : ad129 = ad133 := (by injection e133)
             replace p133 := eq_true p133
             replace q133 := eq_true q133
             go_wp2
             repeat (go_quiet (fail); try go_wp2)
             go_ret
             exact ⟨by first | rfl | (simp [errW_none, errW_some] <;> rfl) | (simp [*, errW_none, errW_some] <;> rfl), by repeat (first | (with_reducible first | exact HB.out | apply below_alloc | apply pw_below_drewN | apply below_drew1) | exact HB.out)⟩
           ·rw [if_neg c18] at H
            have c18b0 : (((rd_T31 t120 x11_2).f1) == ((rd_T32 t124 x11_2).f1)) = false := beq_eq_false_iff_ne.mpr c18
            have c18b1 : (((rd_T31 t120 x11_2).f1) != ((rd_T32 t124 x11_2).f1)) = true := bne_iff_ne.mpr c18
            obtain rfl := Option.some.inj H
            obtain ⟨Ao27, co27, eo27⟩ := Kd.R_slice HO_7.out
            subst eo27
            have p128 : 0 ≤ (x11_2 : Int) := of_decide_eq_true (by first | (with_reducible assumption) | assumption)
            have q128 : x11_2 < (t120.length : Int) := of_decide_eq_true (by first | (with_reducible assumption) | assumption)
            obtain ⟨ad128, e128, hx128_0, hx128_1, hx128_2, hx128_3⟩ := at_T31 (Kd.R_reads' HO_7.out).2.2 x11_2 p128 q128
            cases e128
            replace p128 := eq_true p128
            replace q128 := eq_true q128
            obtain ⟨Ao28, co28, eo28⟩ := Kd.R_slice HO_9.out
            subst eo28
            have p129 : 0 ≤ (x11_2 : Int) := of_decide_eq_true (by first | (with_reducible assumption) | assumption)
            have q129 : x11_2 < (t124.length : Int) := of_decide_eq_true (by first | (with_reducible assumption) | assumption)
            obtain ⟨ad129, e129, hx129_0, hx129_1, hx129_2, hx129_3⟩ := at_T32 (Kd.R_reads' HO_9.out).2.2 x11_2 p129 q129
            cases e129
            replace p129 := eq_true p129
            replace q129 := eq_true q129
            have p130 : 0 ≤ (x11_2 : Int) := of_decide_eq_true (by first | (with_reducible assumption) | assumption)
            have q130 : x11_2 < (t120.length : Int) := of_decide_eq_true (by first | (with_reducible assumption) | assumption)
            obtain ⟨ad130, e130, hx130_0, hx130_1, hx130_2, hx130_3⟩ := at_T31 (Kd.R_reads' HO_7.out).2.2 x11_2 p130 q130
            obtain rfl : ad128 = ad130 := (by injection e130)
            replace p130 := eq_true p130
            replace q130 := eq_true q130
            have p131 : 0 ≤ (x11_2 : Int) := of_decide_eq_true (by first | (with_reducible assumption) | assumption)
            have q131 : x11_2 < (t124.length : Int) := of_decide_eq_true (by first | (with_reducible assumption) | assumption)
            obtain ⟨ad131, e131, hx131_0, hx131_1, hx131_2, hx131_3⟩ := at_T32 (Kd.R_reads' HO_9.out).2.2 x11_2 p131 q131
            obtain rfl : ad129 = ad131 := (by injection e131)
            replace p131 := eq_true p131
            replace q131 := eq_true q131
            go_wp2
            repeat (go_quiet (fail); try go_wp2)
            go_ret
            exact ⟨by first | rfl | (simp [errW_none, errW_some] <;> rfl) | (simp [*, errW_none, errW_some] <;> rfl), by repeat (first | (with_reducible first | exact HB.out | apply below_alloc | apply pw_below_drewN | apply below_drew1) | exact HB.out)⟩
          ·rw [if_neg c17] at H
           have c17b0 : (((rd_T31 t120 x11_2).f0).toList == ((rd_T32 t124 x11_2).f0).toList) = false := beq_eq_false_iff_ne.mpr c17
           have c17b1 : (((rd_T31 t120 x11_2).f0).toList != ((rd_T32 t124 x11_2).f0).toList) = true := bne_iff_ne.mpr c17
           obtain rfl := Option.some.inj H
           obtain ⟨Ao29, co29, eo29⟩ := Kd.R_slice HO_7.out
           subst eo29
           have p128 : 0 ≤ (x11_2 : Int) := of_decide_eq_true (by first | (with_reducible assumption) | assumption)
           have q128 : x11_2 < (t120.length : Int) := of_decide_eq_true (by first | (with_reducible assumption) | assumption)
           obtain ⟨ad128, e128, hx128_0, hx128_1, hx128_2, hx128_3⟩ := at_T31 (Kd.R_reads' HO_7.out).2.2 x11_2 p128 q128
           cases e128
           replace p128 := eq_true p128
           replace q128 := eq_true q128
           obtain ⟨Ao30, co30, eo30⟩ := Kd.R_slice HO_9.out
           subst eo30
           have p129 : 0 ≤ (x11_2 : Int) := of_decide_eq_true (by first | (with_reducible assumption) | assumption)
           have q129 : x11_2 < (t124.length : Int) := of_decide_eq_true (by first | (with_reducible assumption) | assumption)
           obtain ⟨ad129, e129, hx129_0, hx129_1, hx129_2, hx129_3⟩ := at_T32 (Kd.R_reads' HO_9.out).2.2 x11_2 p129 q129
           cases e129
           replace p129 := eq_true p129
           replace q129 := eq_true q129
           go_wp2
           repeat (go_quiet (fail); try go_wp2)
           go_ret
           exact ⟨by first | rfl | (simp [errW_none, errW_some] <;> rfl) | (simp [*, errW_none, errW_some] <;> rfl), by repeat (first | (with_reducible first | exact HB.out | apply below_alloc | apply pw_below_drewN | apply below_drew1) | exact HB.out)⟩
         ·rw [if_neg c16] at H
          exact absurd H (by simp)
        ·rw [if_neg c15] at H
         exact absurd H (by simp)
       ·rw [if_neg c14] at H
        have c14b0 : decide (x11_2 < (t120.length : Int)) = false := decide_eq_false c14
        clear c14
        replace H := Option.bind_eq_some_iff.mp H
        obtain ⟨t136, A310, H⟩ := H
        replace H : (some t136) = some r := H
        have A31 := Aside0.mk A310
        clear A310
        obtain rfl := Option.some.inj H
        obtain ⟨Ao32, co32, eo32⟩ := Kd.R_slice HO_7.out
        subst eo32
        go_wp2_with (first | (go_at_call 12; (with_reducible refine (cutroomlaw18_awake.calls k2  t136 _ A31.out).mono ?_); rintro e w33 ⟨rfl, hb⟩; have n0_ := Aside0.mk (Kd.R_below (by (with_reducible repeat (first | apply Kd.R_alloc | apply Kd.R_drewN | apply Kd.R_drew)); exact HO_7.out) hb); have n1_ := Aside0.mk (Kd.R_below (by (with_reducible repeat (first | apply Kd.R_alloc | apply Kd.R_drewN | apply Kd.R_drew)); exact HO_9.out) hb); have n2_ := Aside0.mk (below_step (by repeat (first | (with_reducible first | exact HB.out | apply below_alloc | apply pw_below_drewN | apply below_drew1) | exact HB.out)) hb); clear HO_7; clear HO_9; clear HB; have HO_7 := n0_; have HO_9 := n1_; have HB := n2_; clear n0_ n1_ n2_; (try clear hb); (try clear hb2); (try clear hk); (try clear hi)))
        repeat (go_quiet (first | (go_at_call 12; (with_reducible refine (cutroomlaw18_awake.calls k2  t136 _ A31.out).mono ?_); rintro e w33 ⟨rfl, hb⟩; have n0_ := Aside0.mk (Kd.R_below (by (with_reducible repeat (first | apply Kd.R_alloc | apply Kd.R_drewN | apply Kd.R_drew)); exact HO_7.out) hb); have n1_ := Aside0.mk (Kd.R_below (by (with_reducible repeat (first | apply Kd.R_alloc | apply Kd.R_drewN | apply Kd.R_drew)); exact HO_9.out) hb); have n2_ := Aside0.mk (below_step (by repeat (first | (with_reducible first | exact HB.out | apply below_alloc | apply pw_below_drewN | apply below_drew1) | exact HB.out)) hb); clear HO_7; clear HO_9; clear HB; have HO_7 := n0_; have HO_9 := n1_; have HB := n2_; clear n0_ n1_ n2_; (try clear hb); (try clear hb2); (try clear hk); (try clear hi))); try go_wp2_with (first | (go_at_call 12; (with_reducible refine (cutroomlaw18_awake.calls k2  t136 _ A31.out).mono ?_); rintro e w33 ⟨rfl, hb⟩; have n0_ := Aside0.mk (Kd.R_below (by (with_reducible repeat (first | apply Kd.R_alloc | apply Kd.R_drewN | apply Kd.R_drew)); exact HO_7.out) hb); have n1_ := Aside0.mk (Kd.R_below (by (with_reducible repeat (first | apply Kd.R_alloc | apply Kd.R_drewN | apply Kd.R_drew)); exact HO_9.out) hb); have n2_ := Aside0.mk (below_step (by repeat (first | (with_reducible first | exact HB.out | apply below_alloc | apply pw_below_drewN | apply below_drew1) | exact HB.out)) hb); clear HO_7; clear HO_9; clear HB; have HO_7 := n0_; have HO_9 := n1_; have HB := n2_; clear n0_ n1_ n2_; (try clear hb); (try clear hb2); (try clear hk); (try clear hi))))
        go_ret
        exact ⟨by first | rfl | (simp [errW_none, errW_some] <;> rfl) | (simp [*, errW_none, errW_some] <;> rfl), by repeat (first | (with_reducible first | exact HB.out | apply below_alloc | apply pw_below_drewN | apply below_drew1) | exact HB.out)⟩

/-- THE ONE PURE STATEMENT of cutroomlaw18_IsomediaBoxes: yours. -/
def cutroomlaw18_IsomediaBoxes.Pure : Prop := ∀ (l0 : List Int) (a1 : Int) (a2 : Int), l0.length ≤ maxLen → l0.length * 1 ≤ 140737488351232 → (∀ x ∈ l0, (Lit.int .u8 x).wf = true) → (Lit.int .i64 a1).wf = true → (Lit.int .i64 a2).wf = true → ∃ k, cutroomlaw18_IsomediaBoxes.f k l0 a1 a2 = some true
theorem cutroomlaw18_IsomediaBoxes.walk (P : cutroomlaw18_IsomediaBoxes.Pure) (a0 : Option Addr) (len0 cap0 : Nat) (z0 : List Int) (a1 : Int) (a2 : Int) (w : World) (w0 : (a0 = none ∧ len0 = 0 ∧ cap0 = 0 ∧ z0 = []) ∨ ∃ x, a0 = some x ∧ len0 ≤ cap0 ∧ cap0 ≤ maxLen ∧ z0.length = cap0 ∧ (∀ i, i < z0.length → w.cell? (x.add i) = some (.int .u8 (z0.getD i 0))) ∧ ∀ n ∈ z0, (Lit.int .u8 n).wf = true) (y0 : len0 * 1 ≤ 140737488351232) (w1 : (Lit.int .i64 a1).wf = true) (w2 : (Lit.int .i64 a2).wf = true) :
  Calls Try.prog 3 #[.slice a0 len0 cap0, .int .i64 a1, .int .i64 a2] w fun e w' => e = .returned (.bool true) ∧ Below w.heap.size w w' := by
 obtain ⟨l0, rfl, hr0, hm0, hw0, hc0⟩ := ReadsInt.ofRowC w0
 obtain ⟨k, h⟩ := P l0 a1 a2 hm0 y0 hw0 w1 w2
 refine (cutroomlaw18_IsomediaBoxes.calls k _ _ l0 a1 a2 true w (Kd.C_of_reads (d := (0 : Int)) (h1 := fun _ => rfl) hr0) hc0 h).mono ?_
 rintro e w' ⟨rfl, hd⟩
 exact ⟨rfl, hd⟩

end Go.Proofs.Ytbpmkcgpgdbbkaa.P
