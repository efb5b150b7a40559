-- Written by this session's own program (wip/tools/myprint.py), which runs the kit's print with turns of its own: not a text of the kit's print.sh.
import Derived.Test.YtdndhbfagoghfaaPx0
import Derived.Test.YtdndhbfagoghfaaPx16
import Derived.Test.YtdndhbfagoghfaaPx22
import Derived.Test.YtdndhbfagoghfaaPx40
import Derived.Test.YtdndhbfagoghfaaPx41
namespace Go.Proofs.Ytdndhbfagoghfaa.P
open Go.RowKit Go.Proofs.YtdndhbfagoghfaaW.PrintWords Go.Proofs.YtdndhbfagoghfaaW.PrintLast Go.Proofs.YtdndhbfagoghfaaW.PrintMore
open List renaming setIfInBounds_toArray → sA, set_cons_zero → sZ, set_cons_succ → sS
open Bool renaming true → T', false → F'
open Go.Proofs.YtdndhbfagoghfaaW.PrintWords renaming below_alloc → zA, pw_below_drewN → zN, below_drew1 → zD, blk_drewN → yN, blk_drew → yD, blk_alloc → yA, below_size → zS, below_step → zT, blk_below → yB, below_set → zP, cell_far → xF, add_block → xB, gate_callee → xC, gate_dst → xD
attribute [local go_sem] max2_int min2_int max_two min_two max_three min_three max_four min_four   -- for this text's walks alone
set_option linter.unusedVariables false
set_option linter.unusedSimpArgs false

/-! ### cutroomlaw17_TransportScans: function 5 -/
mutual
def cutroomlaw17_TransportScans.j0 : Nat → List (S50) → List (S51) → Bool → Option (Bool)
 | 0, _, _, _ => none
 | k + 1, x4, x6, x31 => if x31 = true then (some false) else (cutroomlaw17_TransportScans.l0 k x4 x6 0)
def cutroomlaw17_TransportScans.l0 : Nat → List (S50) → List (S51) → Int → Option (Bool)
 | 0, _, _, _ => none
 | k + 1, x4, x6, x7 => if x7 < (x4.length : Int) then (if 0 ≤ x7 then (if x7 < (x6.length : Int) then (if ((rd_T50 x4 x7).f0) = ((rd_T51 x6 x7).f0) then (if ((rd_T50 x4 x7).f1) = ((rd_T51 x6 x7).f1) then (cutroomlaw17_TransportScans.l0 k x4 x6 (wrap64 (x7 + 1))) else (some false)) else (some false)) else (none)) else (none)) else ((cutroomlaw17_awake.f k).bind fun t490 => (some t490))
end
def cutroomlaw17_TransportScans.f (k : Nat) (l0 : List Int) : Option (Bool) := if (l0.length : Int) > 3000 then (some true) else ((transport_Scan.f k l0).bind fun bt473 => ((cutroomref17_Scan.f k l0).bind fun bt479 => ((cutroomlaw17_sameAll.f k bt473.1 bt479.1).bind fun t485 => (if t485 = true then (cutroomlaw17_TransportScans.j0 k bt473.2 bt479.2 ((bt473.2.length : Int) != (bt479.2.length : Int))) else (cutroomlaw17_TransportScans.j0 k bt473.2 bt479.2 true)))))
theorem cutroomlaw17_TransportScans.mono_l : ∀ k, (∀ y0 y1 y2, LeO (cutroomlaw17_TransportScans.j0 k y0 y1 y2) (cutroomlaw17_TransportScans.j0 (k + 1) y0 y1 y2)) ∧ (∀ y0 y1 y2, LeO (cutroomlaw17_TransportScans.l0 k y0 y1 y2) (cutroomlaw17_TransportScans.l0 (k + 1) y0 y1 y2))
 | 0 => ⟨fun _ _ _ r h => by simp [cutroomlaw17_TransportScans.j0] at h, fun _ _ _ r h => by simp [cutroomlaw17_TransportScans.l0] at h⟩
 | k + 1 => by
  obtain ⟨ih0, ih1⟩ := cutroomlaw17_TransportScans.mono_l k
  refine ⟨?_, ?_⟩
  ·intro y0 y1 y2
   unfold cutroomlaw17_TransportScans.j0
   repeat' first
   | (with_reducible exact ih0 _ _ _)
   | (with_reducible exact ih1 _ _ _)
   | (with_reducible exact cutroomlaw17_awake.mono _)
   | (with_reducible exact cutroomlaw17_sameAll.mono _ _ _)
   | (with_reducible exact cutroomref17_Scan.mono _ _)
   | (with_reducible exact transport_Scan.mono _ _)
   | (with_reducible exact LeO.refl _)
   | (with_reducible exact LeO.none _)
   | (with_reducible refine LeO.ite ?_ ?_)
   | (with_reducible refine LeO.bind ?_ (fun _ => ?_))
   | exact ih0 _ _ _
   | exact ih1 _ _ _
   | exact cutroomlaw17_awake.mono _
   | exact cutroomlaw17_sameAll.mono _ _ _
   | exact cutroomref17_Scan.mono _ _
   | exact transport_Scan.mono _ _
   | exact LeO.none _
   | refine LeO.ite ?_ ?_
   | refine LeO.bind ?_ (fun _ => ?_)
  ·intro y0 y1 y2
   unfold cutroomlaw17_TransportScans.l0
   repeat' first
   | (with_reducible exact ih0 _ _ _)
   | (with_reducible exact ih1 _ _ _)
   | (with_reducible exact cutroomlaw17_awake.mono _)
   | (with_reducible exact cutroomlaw17_sameAll.mono _ _ _)
   | (with_reducible exact cutroomref17_Scan.mono _ _)
   | (with_reducible exact transport_Scan.mono _ _)
   | (with_reducible exact LeO.refl _)
   | (with_reducible exact LeO.none _)
   | (with_reducible refine LeO.ite ?_ ?_)
   | (with_reducible refine LeO.bind ?_ (fun _ => ?_))
   | exact ih0 _ _ _
   | exact ih1 _ _ _
   | exact cutroomlaw17_awake.mono _
   | exact cutroomlaw17_sameAll.mono _ _ _
   | exact cutroomref17_Scan.mono _ _
   | exact transport_Scan.mono _ _
   | exact LeO.none _
   | refine LeO.ite ?_ ?_
   | refine LeO.bind ?_ (fun _ => ?_)
theorem cutroomlaw17_TransportScans.mono : ∀ a0 k, LeO (cutroomlaw17_TransportScans.f k a0) (cutroomlaw17_TransportScans.f (k + 1) a0) := by
 intro a0 k
 obtain ⟨ih0, ih1⟩ := cutroomlaw17_TransportScans.mono_l k
 unfold cutroomlaw17_TransportScans.f
 repeat' first
   | (with_reducible exact ih0 _ _ _)
   | (with_reducible exact ih1 _ _ _)
   | (with_reducible exact cutroomlaw17_awake.mono _)
   | (with_reducible exact cutroomlaw17_sameAll.mono _ _ _)
   | (with_reducible exact cutroomref17_Scan.mono _ _)
   | (with_reducible exact transport_Scan.mono _ _)
   | (with_reducible exact LeO.refl _)
   | (with_reducible exact LeO.none _)
   | (with_reducible refine LeO.ite ?_ ?_)
   | (with_reducible refine LeO.bind ?_ (fun _ => ?_))
   | exact ih0 _ _ _
   | exact ih1 _ _ _
   | exact cutroomlaw17_awake.mono _
   | exact cutroomlaw17_sameAll.mono _ _ _
   | exact cutroomref17_Scan.mono _ _
   | exact transport_Scan.mono _ _
   | exact LeO.none _
   | refine LeO.ite ?_ ?_
   | refine LeO.bind ?_ (fun _ => ?_)
set_option maxHeartbeats 8000000 in
set_option maxRecDepth 100000 in
theorem cutroomlaw17_TransportScans.calls (k : Nat) (A0 : Option Addr) (c0 : Nat) (l0 : List Int) (r : Bool) (w : World) (hr0 : Kd.C (Kd.int .u8) w A0 l0.length l0) (hc0 : l0.length ≤ c0) (h : cutroomlaw17_TransportScans.f k l0 = some r) :
  Calls Try.prog 5 #[.slice A0 l0.length c0] w fun e w' => e = .returned (.bool r) ∧ Below w.heap.size w w' := by
 have HR0 := Aside0.mk hr0
 have HC0 := Aside0.mk hc0
 clear hr0 hc0
 have HB := Aside0.mk (Below.refl w.heap.size w)
 have H : (if (l0.length : Int) > 3000 then (some true) else ((transport_Scan.f k l0).bind fun bt473 => ((cutroomref17_Scan.f k l0).bind fun bt479 => ((cutroomlaw17_sameAll.f k bt473.1 bt479.1).bind fun t485 => (if t485 = true then (cutroomlaw17_TransportScans.j0 k bt473.2 bt479.2 ((bt473.2.length : Int) != (bt479.2.length : Int))) else (cutroomlaw17_TransportScans.j0 k bt473.2 bt479.2 true)))))) = some r := h
 clear h
 by_cases c2 : (l0.length : Int) > 3000
 ·rw [if_pos c2] at H
  have c2b0 : decide (3000 < (l0.length : Int)) = true := decide_eq_true c2
  have c2b1 : decide (3000 < l0.length) = true := decide_eq_true (by omega)
  clear c2
  obtain rfl := Option.some.inj H
  go_enter Try.func5, Try.ntmps5
  go_wp2
  repeat (go_quiet (fail); try go_wp2)
  go_ret
  exact ⟨by first | rfl | (simp [errW_none, errW_some] <;> rfl) | (simp [*, errW_none, errW_some] <;> rfl), by repeat (first | (with_reducible first | exact HB.out | apply zA | apply zN | apply zD) | exact HB.out)⟩
 ·rw [if_neg c2] at H
  have c2b0 : decide (3000 < (l0.length : Int)) = false := decide_eq_false c2
  have c2b1 : decide (3000 < l0.length) = false := decide_eq_false (by omega)
  clear c2
  replace H := Option.bind_eq_some_iff.mp H
  obtain ⟨⟨t473, t474⟩, A30, H⟩ := H
  replace H : ((cutroomref17_Scan.f k l0).bind fun bt479 => ((cutroomlaw17_sameAll.f k t473 bt479.1).bind fun t485 => (if t485 = true then (cutroomlaw17_TransportScans.j0 k t474 bt479.2 ((t474.length : Int) != (bt479.2.length : Int))) else (cutroomlaw17_TransportScans.j0 k t474 bt479.2 true)))) = some r := H
  have A3 := Aside0.mk A30
  clear A30
  replace H := Option.bind_eq_some_iff.mp H
  obtain ⟨⟨t479, t480⟩, A40, H⟩ := H
  replace H : ((cutroomlaw17_sameAll.f k t473 t479).bind fun t485 => (if t485 = true then (cutroomlaw17_TransportScans.j0 k t474 t480 ((t474.length : Int) != (t480.length : Int))) else (cutroomlaw17_TransportScans.j0 k t474 t480 true))) = some r := H
  have A4 := Aside0.mk A40
  clear A40
  have HC5 := Aside0.mk H
  clear H
  go_enter Try.func5, Try.ntmps5
  go_upto_region 5 with (first | (go_at_call 19; (with_reducible refine (transport_Scan.calls k _ _ l0 t473 t474 _ ?side1 ?side2 A3.out).mono ?_); (case side1 => repeat (first | exact HR0.out | (with_reducible refine Kd.C_alloc ?_ _) | (with_reducible refine Kd.C_drewN ?_ _) | (with_reducible refine Kd.C_drew ?_))); (case side2 => exact HC0.out); rintro e w6 ⟨v475, v477, rfl, ho0, ho1, hb⟩; have n0_ := Aside0.mk (Kd.S_lower ho0 (zS (by repeat (first | (with_reducible first | exact HB.out | apply zA | apply zN | apply zD) | exact HB.out)))); have n1_ := Aside0.mk (Kd.R_lower ho1 (zS (by repeat (first | (with_reducible first | exact HB.out | apply zA | apply zN | apply zD) | exact HB.out)))); have n2_ := Aside0.mk (zT (by repeat (first | (with_reducible first | exact HB.out | apply zA | apply zN | apply zD) | exact HB.out)) hb); clear HB; have HO476 := n0_; have HO478 := n1_; have HB := n2_; clear n0_ n1_ n2_; (try clear hb); (try clear hb2); (try clear hk); (try clear hi); (try clear ho0); (try clear ho1)) | (go_at_call 20; (with_reducible refine (cutroomref17_Scan.calls k _ _ l0 t479 t480 _ ?side1 ?side2 A4.out).mono ?_); (case side1 => repeat (first | exact (Kd.C_below HR0.out HB.out) | (with_reducible refine Kd.C_alloc ?_ _) | (with_reducible refine Kd.C_drewN ?_ _) | (with_reducible refine Kd.C_drew ?_))); (case side2 => exact HC0.out); rintro e w7 ⟨v481, v483, rfl, ho0, ho1, hb⟩; have n0_ := Aside0.mk (Kd.S_below (by (with_reducible repeat (first | apply Kd.S_alloc | apply Kd.S_drewN | apply Kd.S_drew)); exact HO476.out) hb); have n1_ := Aside0.mk (Kd.R_below (by (with_reducible repeat (first | apply Kd.R_alloc | apply Kd.R_drewN | apply Kd.R_drew)); exact HO478.out) hb); have n2_ := Aside0.mk (Kd.S_lower ho0 (zS (by repeat (first | (with_reducible first | exact HB.out | apply zA | apply zN | apply zD) | exact HB.out)))); have n3_ := Aside0.mk (Kd.R_lower ho1 (zS (by repeat (first | (with_reducible first | exact HB.out | apply zA | apply zN | apply zD) | exact HB.out)))); have n4_ := Aside0.mk (zT (by repeat (first | (with_reducible first | exact HB.out | apply zA | apply zN | apply zD) | exact HB.out)) hb); clear HO476; clear HO478; clear HB; have HO476 := n0_; have HO478 := n1_; have HO482 := n2_; have HO484 := n3_; have HB := n4_; clear n0_ n1_ n2_ n3_ n4_; (try clear hb); (try clear hb2); (try clear hk); (try clear hi); (try clear ho0); (try clear ho1)))
  repeat (go_quiet (first | (go_at_call 19; (with_reducible refine (transport_Scan.calls k _ _ l0 t473 t474 _ ?side1 ?side2 A3.out).mono ?_); (case side1 => repeat (first | exact HR0.out | (with_reducible refine Kd.C_alloc ?_ _) | (with_reducible refine Kd.C_drewN ?_ _) | (with_reducible refine Kd.C_drew ?_))); (case side2 => exact HC0.out); rintro e w6 ⟨v475, v477, rfl, ho0, ho1, hb⟩; have n0_ := Aside0.mk (Kd.S_lower ho0 (zS (by repeat (first | (with_reducible first | exact HB.out | apply zA | apply zN | apply zD) | exact HB.out)))); have n1_ := Aside0.mk (Kd.R_lower ho1 (zS (by repeat (first | (with_reducible first | exact HB.out | apply zA | apply zN | apply zD) | exact HB.out)))); have n2_ := Aside0.mk (zT (by repeat (first | (with_reducible first | exact HB.out | apply zA | apply zN | apply zD) | exact HB.out)) hb); clear HB; have HO476 := n0_; have HO478 := n1_; have HB := n2_; clear n0_ n1_ n2_; (try clear hb); (try clear hb2); (try clear hk); (try clear hi); (try clear ho0); (try clear ho1)) | (go_at_call 20; (with_reducible refine (cutroomref17_Scan.calls k _ _ l0 t479 t480 _ ?side1 ?side2 A4.out).mono ?_); (case side1 => repeat (first | exact (Kd.C_below HR0.out HB.out) | (with_reducible refine Kd.C_alloc ?_ _) | (with_reducible refine Kd.C_drewN ?_ _) | (with_reducible refine Kd.C_drew ?_))); (case side2 => exact HC0.out); rintro e w7 ⟨v481, v483, rfl, ho0, ho1, hb⟩; have n0_ := Aside0.mk (Kd.S_below (by (with_reducible repeat (first | apply Kd.S_alloc | apply Kd.S_drewN | apply Kd.S_drew)); exact HO476.out) hb); have n1_ := Aside0.mk (Kd.R_below (by (with_reducible repeat (first | apply Kd.R_alloc | apply Kd.R_drewN | apply Kd.R_drew)); exact HO478.out) hb); have n2_ := Aside0.mk (Kd.S_lower ho0 (zS (by repeat (first | (with_reducible first | exact HB.out | apply zA | apply zN | apply zD) | exact HB.out)))); have n3_ := Aside0.mk (Kd.R_lower ho1 (zS (by repeat (first | (with_reducible first | exact HB.out | apply zA | apply zN | apply zD) | exact HB.out)))); have n4_ := Aside0.mk (zT (by repeat (first | (with_reducible first | exact HB.out | apply zA | apply zN | apply zD) | exact HB.out)) hb); clear HO476; clear HO478; clear HB; have HO476 := n0_; have HO478 := n1_; have HO482 := n2_; have HO484 := n3_; have HB := n4_; clear n0_ n1_ n2_ n3_ n4_; (try clear hb); (try clear hb2); (try clear hk); (try clear hi); (try clear ho0); (try clear ho1))); go_upto_region 5 with (first | (go_at_call 19; (with_reducible refine (transport_Scan.calls k _ _ l0 t473 t474 _ ?side1 ?side2 A3.out).mono ?_); (case side1 => repeat (first | exact HR0.out | (with_reducible refine Kd.C_alloc ?_ _) | (with_reducible refine Kd.C_drewN ?_ _) | (with_reducible refine Kd.C_drew ?_))); (case side2 => exact HC0.out); rintro e w6 ⟨v475, v477, rfl, ho0, ho1, hb⟩; have n0_ := Aside0.mk (Kd.S_lower ho0 (zS (by repeat (first | (with_reducible first | exact HB.out | apply zA | apply zN | apply zD) | exact HB.out)))); have n1_ := Aside0.mk (Kd.R_lower ho1 (zS (by repeat (first | (with_reducible first | exact HB.out | apply zA | apply zN | apply zD) | exact HB.out)))); have n2_ := Aside0.mk (zT (by repeat (first | (with_reducible first | exact HB.out | apply zA | apply zN | apply zD) | exact HB.out)) hb); clear HB; have HO476 := n0_; have HO478 := n1_; have HB := n2_; clear n0_ n1_ n2_; (try clear hb); (try clear hb2); (try clear hk); (try clear hi); (try clear ho0); (try clear ho1)) | (go_at_call 20; (with_reducible refine (cutroomref17_Scan.calls k _ _ l0 t479 t480 _ ?side1 ?side2 A4.out).mono ?_); (case side1 => repeat (first | exact (Kd.C_below HR0.out HB.out) | (with_reducible refine Kd.C_alloc ?_ _) | (with_reducible refine Kd.C_drewN ?_ _) | (with_reducible refine Kd.C_drew ?_))); (case side2 => exact HC0.out); rintro e w7 ⟨v481, v483, rfl, ho0, ho1, hb⟩; have n0_ := Aside0.mk (Kd.S_below (by (with_reducible repeat (first | apply Kd.S_alloc | apply Kd.S_drewN | apply Kd.S_drew)); exact HO476.out) hb); have n1_ := Aside0.mk (Kd.R_below (by (with_reducible repeat (first | apply Kd.R_alloc | apply Kd.R_drewN | apply Kd.R_drew)); exact HO478.out) hb); have n2_ := Aside0.mk (Kd.S_lower ho0 (zS (by repeat (first | (with_reducible first | exact HB.out | apply zA | apply zN | apply zD) | exact HB.out)))); have n3_ := Aside0.mk (Kd.R_lower ho1 (zS (by repeat (first | (with_reducible first | exact HB.out | apply zA | apply zN | apply zD) | exact HB.out)))); have n4_ := Aside0.mk (zT (by repeat (first | (with_reducible first | exact HB.out | apply zA | apply zN | apply zD) | exact HB.out)) hb); clear HO476; clear HO478; clear HB; have HO476 := n0_; have HO478 := n1_; have HO482 := n2_; have HO484 := n3_; have HB := n4_; clear n0_ n1_ n2_ n3_ n4_; (try clear hb); (try clear hb2); (try clear hk); (try clear hi); (try clear ho0); (try clear ho1))))
  (try simp only [Act.put, sA, sZ, sS])
  go_cut [31] (fun v31 wc => ∃ (kq : Nat) (x31_4 : Bool), v31 = .bool x31_4 ∧ Aside0 (cutroomlaw17_TransportScans.j0 kq t474 t480 x31_4 = some r) ∧ Aside0 (kq ≤ k) ∧ Aside0 (Kd.R k50 50 wc w.heap.size (fun _ => True) v477 t474) ∧ Aside0 (Kd.R k51 51 wc w.heap.size (fun _ => True) v483 t480) ∧ Aside0 (Below w.heap.size w wc))
  case first =>
   have H := HC5.out
   clear HC5
   replace H := Option.bind_eq_some_iff.mp H
   obtain ⟨t485, A80, H⟩ := H
   replace H : (if t485 = true then (cutroomlaw17_TransportScans.j0 k t474 t480 ((t474.length : Int) != (t480.length : Int))) else (cutroomlaw17_TransportScans.j0 k t474 t480 true)) = some r := H
   have A8 := Aside0.mk A80
   clear A80
   by_cases c9 : t485 = true
   ·subst c9
    have H1 : (cutroomlaw17_TransportScans.j0 k t474 t480 ((t474.length : Int) != (t480.length : Int))) = some r := by rw [if_pos rfl] at H; exact H
    clear H
    have H := H1
    clear H1
    have H' := Aside0.mk H
    clear H
    obtain ⟨Ao10, co10, eo10⟩ := Kd.S_slice HO476.out
    subst eo10
    obtain ⟨Ao11, co11, eo11⟩ := Kd.S_slice HO482.out
    subst eo11
    go_wp2_with (first | (go_at_call 21; (with_reducible refine (cutroomlaw17_sameAll.calls k _ _ t473 _ _ t479 true _ ?side1 ?side2 ?side3 ?side4 A8.out).mono ?_); (case side1 => repeat (first | exact (Kd.S_reads' HO476.out).2.2 | (with_reducible refine Kd.C_alloc ?_ _) | (with_reducible refine Kd.C_drewN ?_ _) | (with_reducible refine Kd.C_drew ?_))); (case side2 => exact (Kd.S_reads' HO476.out).2.1); (case side3 => repeat (first | exact (Kd.S_reads' HO482.out).2.2 | (with_reducible refine Kd.C_alloc ?_ _) | (with_reducible refine Kd.C_drewN ?_ _) | (with_reducible refine Kd.C_drew ?_))); (case side4 => exact (Kd.S_reads' HO482.out).2.1); rintro e w12 ⟨rfl, hb⟩; have n0_ := Aside0.mk (Kd.S_below (by (with_reducible repeat (first | apply Kd.S_alloc | apply Kd.S_drewN | apply Kd.S_drew)); exact HO476.out) hb); have n1_ := Aside0.mk (Kd.R_below (by (with_reducible repeat (first | apply Kd.R_alloc | apply Kd.R_drewN | apply Kd.R_drew)); exact HO478.out) hb); have n2_ := Aside0.mk (Kd.S_below (by (with_reducible repeat (first | apply Kd.S_alloc | apply Kd.S_drewN | apply Kd.S_drew)); exact HO482.out) hb); have n3_ := Aside0.mk (Kd.R_below (by (with_reducible repeat (first | apply Kd.R_alloc | apply Kd.R_drewN | apply Kd.R_drew)); exact HO484.out) hb); have n4_ := Aside0.mk (zT (by repeat (first | (with_reducible first | exact HB.out | apply zA | apply zN | apply zD) | exact HB.out)) hb); clear HO476; clear HO478; clear HO482; clear HO484; clear HB; have HO476 := n0_; have HO478 := n1_; have HO482 := n2_; have HO484 := n3_; have HB := n4_; clear n0_ n1_ n2_ n3_ n4_; (try clear hb); (try clear hb2); (try clear hk); (try clear hi); obtain ⟨Ao13, co13, eo13⟩ := Kd.R_slice HO478.out; subst eo13; obtain ⟨Ao14, co14, eo14⟩ := Kd.R_slice HO484.out; subst eo14))
    repeat (go_quiet (fail); try go_wp2_with (first | (go_at_call 21; (with_reducible refine (cutroomlaw17_sameAll.calls k _ _ t473 _ _ t479 true _ ?side1 ?side2 ?side3 ?side4 A8.out).mono ?_); (case side1 => repeat (first | exact (Kd.S_reads' HO476.out).2.2 | (with_reducible refine Kd.C_alloc ?_ _) | (with_reducible refine Kd.C_drewN ?_ _) | (with_reducible refine Kd.C_drew ?_))); (case side2 => exact (Kd.S_reads' HO476.out).2.1); (case side3 => repeat (first | exact (Kd.S_reads' HO482.out).2.2 | (with_reducible refine Kd.C_alloc ?_ _) | (with_reducible refine Kd.C_drewN ?_ _) | (with_reducible refine Kd.C_drew ?_))); (case side4 => exact (Kd.S_reads' HO482.out).2.1); rintro e w12 ⟨rfl, hb⟩; have n0_ := Aside0.mk (Kd.S_below (by (with_reducible repeat (first | apply Kd.S_alloc | apply Kd.S_drewN | apply Kd.S_drew)); exact HO476.out) hb); have n1_ := Aside0.mk (Kd.R_below (by (with_reducible repeat (first | apply Kd.R_alloc | apply Kd.R_drewN | apply Kd.R_drew)); exact HO478.out) hb); have n2_ := Aside0.mk (Kd.S_below (by (with_reducible repeat (first | apply Kd.S_alloc | apply Kd.S_drewN | apply Kd.S_drew)); exact HO482.out) hb); have n3_ := Aside0.mk (Kd.R_below (by (with_reducible repeat (first | apply Kd.R_alloc | apply Kd.R_drewN | apply Kd.R_drew)); exact HO484.out) hb); have n4_ := Aside0.mk (zT (by repeat (first | (with_reducible first | exact HB.out | apply zA | apply zN | apply zD) | exact HB.out)) hb); clear HO476; clear HO478; clear HO482; clear HO484; clear HB; have HO476 := n0_; have HO478 := n1_; have HO482 := n2_; have HO484 := n3_; have HB := n4_; clear n0_ n1_ n2_ n3_ n4_; (try clear hb); (try clear hb2); (try clear hk); (try clear hi); obtain ⟨Ao13, co13, eo13⟩ := Kd.R_slice HO478.out; subst eo13; obtain ⟨Ao14, co14, eo14⟩ := Kd.R_slice HO484.out; subst eo14)))
    go_meet
    case rel => exact ⟨_, (((t474.length : Int) != (t480.length : Int))), (by first | rfl | (simp; done) | (simp [*]; done)), H', ⟨by first | omega | exact Nat.le_refl _⟩, ⟨by (with_reducible repeat (first | apply Kd.R_alloc | apply Kd.R_drewN | apply Kd.R_drew)); exact HO478.out⟩, ⟨by (with_reducible repeat (first | apply Kd.R_alloc | apply Kd.R_drewN | apply Kd.R_drew)); exact HO484.out⟩, ⟨by repeat (first | (with_reducible first | exact HB.out | apply zA | apply zN | apply zD) | exact HB.out)⟩⟩
   ·replace c9 := Bool.eq_false_iff.mpr c9
    subst c9
    have H1 : (cutroomlaw17_TransportScans.j0 k t474 t480 true) = some r := by rw [if_neg (show ¬ (false = true) by decide)] at H; exact H
    clear H
    have H := H1
    clear H1
    have H' := Aside0.mk H
    clear H
    obtain ⟨Ao15, co15, eo15⟩ := Kd.S_slice HO476.out
    subst eo15
    obtain ⟨Ao16, co16, eo16⟩ := Kd.S_slice HO482.out
    subst eo16
    go_wp2_with (first | (go_at_call 21; (with_reducible refine (cutroomlaw17_sameAll.calls k _ _ t473 _ _ t479 false _ ?side1 ?side2 ?side3 ?side4 A8.out).mono ?_); (case side1 => repeat (first | exact (Kd.S_reads' HO476.out).2.2 | (with_reducible refine Kd.C_alloc ?_ _) | (with_reducible refine Kd.C_drewN ?_ _) | (with_reducible refine Kd.C_drew ?_))); (case side2 => exact (Kd.S_reads' HO476.out).2.1); (case side3 => repeat (first | exact (Kd.S_reads' HO482.out).2.2 | (with_reducible refine Kd.C_alloc ?_ _) | (with_reducible refine Kd.C_drewN ?_ _) | (with_reducible refine Kd.C_drew ?_))); (case side4 => exact (Kd.S_reads' HO482.out).2.1); rintro e w17 ⟨rfl, hb⟩; have n0_ := Aside0.mk (Kd.S_below (by (with_reducible repeat (first | apply Kd.S_alloc | apply Kd.S_drewN | apply Kd.S_drew)); exact HO476.out) hb); have n1_ := Aside0.mk (Kd.R_below (by (with_reducible repeat (first | apply Kd.R_alloc | apply Kd.R_drewN | apply Kd.R_drew)); exact HO478.out) hb); have n2_ := Aside0.mk (Kd.S_below (by (with_reducible repeat (first | apply Kd.S_alloc | apply Kd.S_drewN | apply Kd.S_drew)); exact HO482.out) hb); have n3_ := Aside0.mk (Kd.R_below (by (with_reducible repeat (first | apply Kd.R_alloc | apply Kd.R_drewN | apply Kd.R_drew)); exact HO484.out) hb); have n4_ := Aside0.mk (zT (by repeat (first | (with_reducible first | exact HB.out | apply zA | apply zN | apply zD) | exact HB.out)) hb); clear HO476; clear HO478; clear HO482; clear HO484; clear HB; have HO476 := n0_; have HO478 := n1_; have HO482 := n2_; have HO484 := n3_; have HB := n4_; clear n0_ n1_ n2_ n3_ n4_; (try clear hb); (try clear hb2); (try clear hk); (try clear hi)))
    repeat (go_quiet (fail); try go_wp2_with (first | (go_at_call 21; (with_reducible refine (cutroomlaw17_sameAll.calls k _ _ t473 _ _ t479 false _ ?side1 ?side2 ?side3 ?side4 A8.out).mono ?_); (case side1 => repeat (first | exact (Kd.S_reads' HO476.out).2.2 | (with_reducible refine Kd.C_alloc ?_ _) | (with_reducible refine Kd.C_drewN ?_ _) | (with_reducible refine Kd.C_drew ?_))); (case side2 => exact (Kd.S_reads' HO476.out).2.1); (case side3 => repeat (first | exact (Kd.S_reads' HO482.out).2.2 | (with_reducible refine Kd.C_alloc ?_ _) | (with_reducible refine Kd.C_drewN ?_ _) | (with_reducible refine Kd.C_drew ?_))); (case side4 => exact (Kd.S_reads' HO482.out).2.1); rintro e w17 ⟨rfl, hb⟩; have n0_ := Aside0.mk (Kd.S_below (by (with_reducible repeat (first | apply Kd.S_alloc | apply Kd.S_drewN | apply Kd.S_drew)); exact HO476.out) hb); have n1_ := Aside0.mk (Kd.R_below (by (with_reducible repeat (first | apply Kd.R_alloc | apply Kd.R_drewN | apply Kd.R_drew)); exact HO478.out) hb); have n2_ := Aside0.mk (Kd.S_below (by (with_reducible repeat (first | apply Kd.S_alloc | apply Kd.S_drewN | apply Kd.S_drew)); exact HO482.out) hb); have n3_ := Aside0.mk (Kd.R_below (by (with_reducible repeat (first | apply Kd.R_alloc | apply Kd.R_drewN | apply Kd.R_drew)); exact HO484.out) hb); have n4_ := Aside0.mk (zT (by repeat (first | (with_reducible first | exact HB.out | apply zA | apply zN | apply zD) | exact HB.out)) hb); clear HO476; clear HO478; clear HO482; clear HO484; clear HB; have HO476 := n0_; have HO478 := n1_; have HO482 := n2_; have HO484 := n3_; have HB := n4_; clear n0_ n1_ n2_ n3_ n4_; (try clear hb); (try clear hb2); (try clear hk); (try clear hi))))
    go_meet
    case rel => exact ⟨_, (true), (by first | rfl | (simp; done) | (simp [*]; done)), H', ⟨by first | omega | exact Nat.le_refl _⟩, ⟨by (with_reducible repeat (first | apply Kd.R_alloc | apply Kd.R_drewN | apply Kd.R_drew)); exact HO478.out⟩, ⟨by (with_reducible repeat (first | apply Kd.R_alloc | apply Kd.R_drewN | apply Kd.R_drew)); exact HO484.out⟩, ⟨by repeat (first | (with_reducible first | exact HB.out | apply zA | apply zN | apply zD) | exact HB.out)⟩⟩
  case rest =>
   clear HC5
   (try clear c2);(try clear c2b0);(try clear c2b1);(try clear p2);(try clear c5);(try clear c9)
   obtain ⟨kq, x31_4, rfl, HA, HJ4, HO_4, HO_6, HB⟩ := hcut
   cases kq with
   | zero => exact absurd HA.out (by simp [cutroomlaw17_TransportScans.j0])
   | succ kj4 =>
    have H := HA.out
    clear HA
    simp only [cutroomlaw17_TransportScans.j0] at H
    by_cases c18 : x31_4 = true
    ·subst c18
     have H1 : (some false) = some r := by rw [if_pos rfl] at H; exact H
     clear H
     have H := H1
     clear H1
     obtain rfl := Option.some.inj H
     go_wp2
     repeat (go_quiet (fail); try go_wp2)
     go_ret
     exact ⟨by first | rfl | (simp [errW_none, errW_some] <;> rfl) | (simp [*, errW_none, errW_some] <;> rfl), by repeat (first | (with_reducible first | exact HB.out | apply zA | apply zN | apply zD) | exact HB.out)⟩
    ·replace c18 := Bool.eq_false_iff.mpr c18
     subst c18
     have H1 : (cutroomlaw17_TransportScans.l0 kj4 t474 t480 0) = some r := by rw [if_neg (show ¬ (false = true) by decide)] at H; exact H
     clear H
     have H := H1
     clear H1
     have H' := Aside0.mk H
     clear H
     go_wp2
     repeat (go_quiet (fail); try go_wp2)
     go_loopg [7] kj4 (fun kq v7 w' => ∃ (x7_2 : Int), v7 = .int .i64 x7_2 ∧ Aside0 (cutroomlaw17_TransportScans.l0 kq t474 t480 x7_2 = some r) ∧ Aside0 (kq ≤ kj4) ∧ Aside0 (Kd.R k50 50 w' w.heap.size (fun _ => True) v477 t474) ∧ Aside0 (Kd.R k51 51 w' w.heap.size (fun _ => True) v483 t480) ∧ Aside0 (Below w.heap.size w w'))
     case atStart => exact ⟨(0), (by first | rfl | (simp; done) | (simp [*]; done)), H', ⟨Nat.le_refl _⟩, ⟨by (with_reducible repeat (first | apply Kd.R_alloc | apply Kd.R_drewN | apply Kd.R_drew)); exact HO_4.out⟩, ⟨by (with_reducible repeat (first | apply Kd.R_alloc | apply Kd.R_drewN | apply Kd.R_drew)); exact HO_6.out⟩, ⟨by repeat (first | (with_reducible first | exact HB.out | apply zA | apply zN | apply zD) | exact HB.out)⟩⟩
     case round =>
      clear H'
      (try clear c1);(try clear c2);(try clear c2b0);(try clear c2b1);(try clear p2);(try clear c5);(try clear c9);(try clear c18);(try clear p2)
      obtain ⟨x7_2, rfl, HA, HK2, HO_4, HO_6, HB⟩ := hrel
      cases gk with
      | zero => exact absurd HA.out (by simp [cutroomlaw17_TransportScans.l0])
      | succ k2 =>
       have H := HA.out
       clear HA
       simp only [cutroomlaw17_TransportScans.l0] at H
       by_cases c19 : x7_2 < (t474.length : Int)
       ·rw [if_pos c19] at H
        have c19b0 : decide (x7_2 < (t474.length : Int)) = true := decide_eq_true c19
        clear c19
        by_cases c20 : 0 ≤ x7_2
        ·rw [if_pos c20] at H
         have c20b0 : decide (0 ≤ x7_2) = true := decide_eq_true c20
         clear c20
         by_cases c21 : x7_2 < (t480.length : Int)
         ·rw [if_pos c21] at H
          have c21b0 : decide (x7_2 < (t480.length : Int)) = true := decide_eq_true c21
          clear c21
          by_cases c22 : ((rd_T50 t474 x7_2).f0) = ((rd_T51 t480 x7_2).f0)
          ·rw [if_pos c22] at H
           have c22b0 : (((rd_T50 t474 x7_2).f0) == ((rd_T51 t480 x7_2).f0)) = true := beq_iff_eq.mpr c22
           have c22b1 : (((rd_T50 t474 x7_2).f0) != ((rd_T51 t480 x7_2).f0)) = false := bne_eq_false_iff_eq.mpr c22
           clear c22
           by_cases c23 : ((rd_T50 t474 x7_2).f1) = ((rd_T51 t480 x7_2).f1)
           ·rw [if_pos c23] at H
            have c23b0 : (((rd_T50 t474 x7_2).f1) == ((rd_T51 t480 x7_2).f1)) = true := beq_iff_eq.mpr c23
            have c23b1 : (((rd_T50 t474 x7_2).f1) != ((rd_T51 t480 x7_2).f1)) = false := bne_eq_false_iff_eq.mpr c23
            clear c23
            have H' := Aside0.mk H
            clear H
            obtain ⟨Ao24, co24, eo24⟩ := Kd.R_slice HO_4.out
            subst eo24
            have p486 : 0 ≤ (x7_2 : Int) := of_decide_eq_true (by first | (with_reducible assumption) | assumption)
            have q486 : x7_2 < (t474.length : Int) := of_decide_eq_true (by first | (with_reducible assumption) | assumption)
            obtain ⟨ad486, e486, hx486_0, hx486_1⟩ := at_T50 (Kd.R_reads' HO_4.out).2.2 x7_2 p486 q486
            cases e486
            replace p486 := eq_true p486
            replace q486 := eq_true q486
            obtain ⟨Ao25, co25, eo25⟩ := Kd.R_slice HO_6.out
            subst eo25
            have p487 : 0 ≤ (x7_2 : Int) := of_decide_eq_true (by first | (with_reducible assumption) | assumption)
            have q487 : x7_2 < (t480.length : Int) := of_decide_eq_true (by first | (with_reducible assumption) | assumption)
            obtain ⟨ad487, e487, hx487_0, hx487_1⟩ := at_T51 (Kd.R_reads' HO_6.out).2.2 x7_2 p487 q487
            cases e487
            replace p487 := eq_true p487
            replace q487 := eq_true q487
            have p488 : 0 ≤ (x7_2 : Int) := of_decide_eq_true (by first | (with_reducible assumption) | assumption)
            have q488 : x7_2 < (t474.length : Int) := of_decide_eq_true (by first | (with_reducible assumption) | assumption)
            obtain ⟨ad488, e488, hx488_0, hx488_1⟩ := at_T50 (Kd.R_reads' HO_4.out).2.2 x7_2 p488 q488
            obtain rfl : ad486 = ad488 := (by injection e488)
            replace p488 := eq_true p488
            replace q488 := eq_true q488
            have p489 : 0 ≤ (x7_2 : Int) := of_decide_eq_true (by first | (with_reducible assumption) | assumption)
            have q489 : x7_2 < (t480.length : Int) := of_decide_eq_true (by first | (with_reducible assumption) | assumption)
            obtain ⟨ad489, e489, hx489_0, hx489_1⟩ := at_T51 (Kd.R_reads' HO_6.out).2.2 x7_2 p489 q489
            obtain rfl : ad487 = ad489 := (by injection e489)
            replace p489 := eq_true p489
            replace q489 := eq_true q489
            go_wp2
            repeat (go_quiet (fail); try go_wp2)
            go_roundg k2
            case measure => have := HJ4.out; have := HK2.out; omega
            case rel => exact ⟨(wrap64 (x7_2 + 1)), (by first | rfl | (simp; done) | (simp [*]; done)), H', ⟨by have := HJ4.out; have := HK2.out; omega⟩, ⟨by (with_reducible repeat (first | apply Kd.R_alloc | apply Kd.R_drewN | apply Kd.R_drew)); exact HO_4.out⟩, ⟨by (with_reducible repeat (first | apply Kd.R_alloc | apply Kd.R_drewN | apply Kd.R_drew)); exact HO_6.out⟩, ⟨by repeat (first | (with_reducible first | exact HB.out | apply zA | apply zN | apply zD) | exact HB.out)⟩⟩
           ·rw [if_neg c23] at H
            have c23b0 : (((rd_T50 t474 x7_2).f1) == ((rd_T51 t480 x7_2).f1)) = false := beq_eq_false_iff_ne.mpr c23
            have c23b1 : (((rd_T50 t474 x7_2).f1) != ((rd_T51 t480 x7_2).f1)) = true := bne_iff_ne.mpr c23
            obtain rfl := Option.some.inj H
            obtain ⟨Ao26, co26, eo26⟩ := Kd.R_slice HO_4.out
            subst eo26
            have p486 : 0 ≤ (x7_2 : Int) := of_decide_eq_true (by first | (with_reducible assumption) | assumption)
            have q486 : x7_2 < (t474.length : Int) := of_decide_eq_true (by first | (with_reducible assumption) | assumption)
            obtain ⟨ad486, e486, hx486_0, hx486_1⟩ := at_T50 (Kd.R_reads' HO_4.out).2.2 x7_2 p486 q486
            cases e486
            replace p486 := eq_true p486
            replace q486 := eq_true q486
            obtain ⟨Ao27, co27, eo27⟩ := Kd.R_slice HO_6.out
            subst eo27
            have p487 : 0 ≤ (x7_2 : Int) := of_decide_eq_true (by first | (with_reducible assumption) | assumption)
            have q487 : x7_2 < (t480.length : Int) := of_decide_eq_true (by first | (with_reducible assumption) | assumption)
            obtain ⟨ad487, e487, hx487_0, hx487_1⟩ := at_T51 (Kd.R_reads' HO_6.out).2.2 x7_2 p487 q487
            cases e487
            replace p487 := eq_true p487
            replace q487 := eq_true q487
            have p488 : 0 ≤ (x7_2 : Int) := of_decide_eq_true (by first | (with_reducible assumption) | assumption)
            have q488 : x7_2 < (t474.length : Int) := of_decide_eq_true (by first | (with_reducible assumption) | assumption)
            obtain ⟨ad488, e488, hx488_0, hx488_1⟩ := at_T50 (Kd.R_reads' HO_4.out).2.2 x7_2 p488 q488
            obtain rfl : ad486 = ad488 := (by injection e488)
            replace p488 := eq_true p488
            replace q488 := eq_true q488
            have p489 : 0 ≤ (x7_2 : Int) := of_decide_eq_true (by first | (with_reducible assumption) | assumption)
            have q489 : x7_2 < (t480.length : Int) := of_decide_eq_true (by first | (with_reducible assumption) | assumption)
            obtain ⟨ad489, e489, hx489_0, hx489_1⟩ := at_T51 (Kd.R_reads' HO_6.out).2.2 x7_2 p489 q489
            obtain rfl : ad487 = ad489 := (by injection e489)
            replace p489 := eq_true p489
            replace q489 := eq_true q489
            go_wp2
            repeat (go_quiet (fail); try go_wp2)
            go_ret
            exact ⟨by first | rfl | (simp [errW_none, errW_some] <;> rfl) | (simp [*, errW_none, errW_some] <;> rfl), by repeat (first | (with_reducible first | exact HB.out | apply zA | apply zN | apply zD) | exact HB.out)⟩
          ·rw [if_neg c22] at H
           have c22b0 : (((rd_T50 t474 x7_2).f0) == ((rd_T51 t480 x7_2).f0)) = false := beq_eq_false_iff_ne.mpr c22
           have c22b1 : (((rd_T50 t474 x7_2).f0) != ((rd_T51 t480 x7_2).f0)) = true := bne_iff_ne.mpr c22
           obtain rfl := Option.some.inj H
           obtain ⟨Ao28, co28, eo28⟩ := Kd.R_slice HO_4.out
           subst eo28
           have p486 : 0 ≤ (x7_2 : Int) := of_decide_eq_true (by first | (with_reducible assumption) | assumption)
           have q486 : x7_2 < (t474.length : Int) := of_decide_eq_true (by first | (with_reducible assumption) | assumption)
           obtain ⟨ad486, e486, hx486_0, hx486_1⟩ := at_T50 (Kd.R_reads' HO_4.out).2.2 x7_2 p486 q486
           cases e486
           replace p486 := eq_true p486
           replace q486 := eq_true q486
           obtain ⟨Ao29, co29, eo29⟩ := Kd.R_slice HO_6.out
           subst eo29
           have p487 : 0 ≤ (x7_2 : Int) := of_decide_eq_true (by first | (with_reducible assumption) | assumption)
           have q487 : x7_2 < (t480.length : Int) := of_decide_eq_true (by first | (with_reducible assumption) | assumption)
           obtain ⟨ad487, e487, hx487_0, hx487_1⟩ := at_T51 (Kd.R_reads' HO_6.out).2.2 x7_2 p487 q487
           cases e487
           replace p487 := eq_true p487
           replace q487 := eq_true q487
           go_wp2
           repeat (go_quiet (fail); try go_wp2)
           go_ret
           exact ⟨by first | rfl | (simp [errW_none, errW_some] <;> rfl) | (simp [*, errW_none, errW_some] <;> rfl), by repeat (first | (with_reducible first | exact HB.out | apply zA | apply zN | apply zD) | exact HB.out)⟩
         ·rw [if_neg c21] at H
          exact absurd H (by simp)
        ·rw [if_neg c20] at H
         exact absurd H (by simp)
       ·rw [if_neg c19] at H
        have c19b0 : decide (x7_2 < (t474.length : Int)) = false := decide_eq_false c19
        clear c19
        replace H := Option.bind_eq_some_iff.mp H
        obtain ⟨t490, A300, H⟩ := H
        replace H : (some t490) = some r := H
        have A30 := Aside0.mk A300
        clear A300
        obtain rfl := Option.some.inj H
        obtain ⟨Ao31, co31, eo31⟩ := Kd.R_slice HO_4.out
        subst eo31
        go_wp2_with (first | (go_at_call 15; (with_reducible refine (cutroomlaw17_awake.calls k2  t490 _ A30.out).mono ?_); rintro e w32 ⟨rfl, hb⟩; have n0_ := Aside0.mk (Kd.R_below (by (with_reducible repeat (first | apply Kd.R_alloc | apply Kd.R_drewN | apply Kd.R_drew)); exact HO_4.out) hb); have n1_ := Aside0.mk (Kd.R_below (by (with_reducible repeat (first | apply Kd.R_alloc | apply Kd.R_drewN | apply Kd.R_drew)); exact HO_6.out) hb); have n2_ := Aside0.mk (zT (by repeat (first | (with_reducible first | exact HB.out | apply zA | apply zN | apply zD) | exact HB.out)) hb); clear HO_4; clear HO_6; clear HB; have HO_4 := n0_; have HO_6 := n1_; have HB := n2_; clear n0_ n1_ n2_; (try clear hb); (try clear hb2); (try clear hk); (try clear hi)))
        repeat (go_quiet (fail); try go_wp2_with (first | (go_at_call 15; (with_reducible refine (cutroomlaw17_awake.calls k2  t490 _ A30.out).mono ?_); rintro e w32 ⟨rfl, hb⟩; have n0_ := Aside0.mk (Kd.R_below (by (with_reducible repeat (first | apply Kd.R_alloc | apply Kd.R_drewN | apply Kd.R_drew)); exact HO_4.out) hb); have n1_ := Aside0.mk (Kd.R_below (by (with_reducible repeat (first | apply Kd.R_alloc | apply Kd.R_drewN | apply Kd.R_drew)); exact HO_6.out) hb); have n2_ := Aside0.mk (zT (by repeat (first | (with_reducible first | exact HB.out | apply zA | apply zN | apply zD) | exact HB.out)) hb); clear HO_4; clear HO_6; clear HB; have HO_4 := n0_; have HO_6 := n1_; have HB := n2_; clear n0_ n1_ n2_; (try clear hb); (try clear hb2); (try clear hk); (try clear hi))))
        go_ret
        exact ⟨by first | rfl | (simp [errW_none, errW_some] <;> rfl) | (simp [*, errW_none, errW_some] <;> rfl), by repeat (first | (with_reducible first | exact HB.out | apply zA | apply zN | apply zD) | exact HB.out)⟩

/-- THE ONE PURE STATEMENT of cutroomlaw17_TransportScans: yours. -/
def cutroomlaw17_TransportScans.Pure : Prop := ∀ (l0 : List Int), l0.length ≤ maxLen → l0.length * 1 ≤ 140737488351232 → (∀ x ∈ l0, (Lit.int .u8 x).wf = true) → ∃ k, cutroomlaw17_TransportScans.f k l0 = some true
theorem cutroomlaw17_TransportScans.walk (P : cutroomlaw17_TransportScans.Pure) (a0 : Option Addr) (len0 cap0 : Nat) (z0 : List Int) (w : World) (w0 : (a0 = none ∧ len0 = 0 ∧ cap0 = 0 ∧ z0 = []) ∨ ∃ x, a0 = some x ∧ len0 ≤ cap0 ∧ cap0 ≤ maxLen ∧ z0.length = cap0 ∧ (∀ i, i < z0.length → w.cell? (x.add i) = some (.int .u8 (z0.getD i 0))) ∧ ∀ n ∈ z0, (Lit.int .u8 n).wf = true) (y0 : len0 * 1 ≤ 140737488351232) :
  Calls Try.prog 5 #[.slice a0 len0 cap0] w fun e w' => e = .returned (.bool true) ∧ Below w.heap.size w w' := by
 obtain ⟨l0, rfl, hr0, hm0, hw0, hc0⟩ := ReadsInt.ofRowC w0
 obtain ⟨k, h⟩ := P l0 hm0 y0 hw0
 refine (cutroomlaw17_TransportScans.calls k _ _ l0 true w (Kd.C_of_reads (d := (0 : Int)) (h1 := fun _ => rfl) hr0) hc0 h).mono ?_
 rintro e w' ⟨rfl, hd⟩
 exact ⟨rfl, hd⟩

end Go.Proofs.Ytdndhbfagoghfaa.P
