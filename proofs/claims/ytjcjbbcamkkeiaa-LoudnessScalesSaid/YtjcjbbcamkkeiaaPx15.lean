-- Written by this session's own program (wip/tools/myprint.py), which runs the kit's print with turns of its own: not a text of the kit's print.sh.
import Derived.Test.YtjcjbbcamkkeiaaPx0
import Derived.Test.YtjcjbbcamkkeiaaPx33
namespace Go.Proofs.Ytjcjbbcamkkeiaa.P
open Go.RowKit Go.Proofs.YtjcjbbcamkkeiaaW.PrintWords Go.Proofs.YtjcjbbcamkkeiaaW.PrintLast Go.Proofs.YtjcjbbcamkkeiaaW.PrintMore
attribute [local go_sem] max2_int min2_int max_two min_two max_three min_three max_four min_four   -- for this text's walks alone
set_option linter.unusedVariables false
set_option linter.unusedSimpArgs false

/-! ### loudness_Powers: function 14 -/
mutual
def loudness_Powers.j0 : Nat → List (List Int) → Int → Option (List Int × Int)
 | 0, _, _ => none
 | k + 1, x0, x4 => if 0 ≤ x4 then (if (x4 : Int).toNat ≤ 35184372088832 then ((some (List.replicate (x4 : Int).toNat 0 : List Int)).bind fun y130 => (loudness_Powers.l0 k x0 y130 (y130.length : Int) 0)) else (none)) else (none)
def loudness_Powers.l0 : Nat → List (List Int) → List Int → Int → Int → Option (List Int × Int)
 | 0, _, _, _, _ => none
 | k + 1, x0, x5, x29, x30 => if x30 < x29 then (loudness_Powers.l1 k x0 x5 x30 x29 x30 x0 (x0.length : Int) 0) else (some (x5, 0))
def loudness_Powers.l1 : Nat → List (List Int) → List Int → Int → Int → Int → List (List Int) → Int → Int → Option (List Int × Int)
 | 0, _, _, _, _, _, _, _, _ => none
 | k + 1, x0, x5, x6, x29, x30, x33, x34, x35 => if x35 < x34 then (if 0 ≤ x35 then (if x35 < (x33.length : Int) then (if 0 ≤ (wrap64 (120 * x6)) then (if (wrap64 (120 * x6)) ≤ (wrap64 ((wrap64 (120 * x6)) + 480)) then (if (wrap64 ((wrap64 (120 * x6)) + 480)) ≤ ((rd_L2 x33 x35).length : Int) then (loudness_Powers.l2 k x0 x5 x6 x29 x30 x33 x34 x35 (((rd_L2 x33 x35).take ((wrap64 ((wrap64 (120 * x6)) + 480)) : Int).toNat).drop ((wrap64 (120 * x6)) : Int).toNat) ((((rd_L2 x33 x35).take ((wrap64 ((wrap64 (120 * x6)) + 480)) : Int).toNat).drop ((wrap64 (120 * x6)) : Int).toNat).length : Int) 0) else (none)) else (none)) else (none)) else (none)) else (none)) else (loudness_Powers.l0 k x0 x5 x29 (wrap64 (x30 + 1)))
def loudness_Powers.l2 : Nat → List (List Int) → List Int → Int → Int → Int → List (List Int) → Int → Int → List Int → Int → Int → Option (List Int × Int)
 | 0, _, _, _, _, _, _, _, _, _, _, _ => none
 | k + 1, x0, x5, x6, x29, x30, x33, x34, x35, x45, x46, x47 => if x47 < x46 then (if 0 ≤ x47 then (if x47 < (x45.length : Int) then (if 0 ≤ x6 then (if x6 < (x5.length : Int) then (loudness_Powers.l2 k x0 (x5.set (x6 : Int).toNat (wrap64 ((rd x5 x6) + (wrap64 ((wrap64 (rd x45 x47)) * (wrap64 (rd x45 x47))))))) x6 x29 x30 x33 x34 x35 x45 x46 (wrap64 (x47 + 1))) else (none)) else (none)) else (none)) else (none)) else (loudness_Powers.l1 k x0 x5 x6 x29 x30 x33 x34 (wrap64 (x35 + 1)))
end
def loudness_Powers.f (k : Nat) (l0 : List (List Int)) : Option (List Int × Int) := (loudness_proper.f k l0).bind fun t127 => (if t127 = true then (if 0 < (l0.length : Int) then (if ((rd_L2 l0 0).length : Int) ≥ 480 then (loudness_Powers.j0 k l0 (wrap64 ((wrap64 (Int.tdiv (wrap64 (((rd_L2 l0 0).length : Int) - 480)) 120)) + 1))) else (loudness_Powers.j0 k l0 0)) else (none)) else (some (([] : List Int), 1)))
theorem loudness_Powers.mono_l : ∀ k, (∀ y0 y1, LeO (loudness_Powers.j0 k y0 y1) (loudness_Powers.j0 (k + 1) y0 y1)) ∧ (∀ y0 y1 y2 y3, LeO (loudness_Powers.l0 k y0 y1 y2 y3) (loudness_Powers.l0 (k + 1) y0 y1 y2 y3)) ∧ (∀ y0 y1 y2 y3 y4 y5 y6 y7, LeO (loudness_Powers.l1 k y0 y1 y2 y3 y4 y5 y6 y7) (loudness_Powers.l1 (k + 1) y0 y1 y2 y3 y4 y5 y6 y7)) ∧ (∀ y0 y1 y2 y3 y4 y5 y6 y7 y8 y9 y10, LeO (loudness_Powers.l2 k y0 y1 y2 y3 y4 y5 y6 y7 y8 y9 y10) (loudness_Powers.l2 (k + 1) y0 y1 y2 y3 y4 y5 y6 y7 y8 y9 y10))
 | 0 => ⟨fun _ _ r h => by simp [loudness_Powers.j0] at h, fun _ _ _ _ r h => by simp [loudness_Powers.l0] at h, fun _ _ _ _ _ _ _ _ r h => by simp [loudness_Powers.l1] at h, fun _ _ _ _ _ _ _ _ _ _ _ r h => by simp [loudness_Powers.l2] at h⟩
 | k + 1 => by
  obtain ⟨ih0, ih1, ih2, ih3⟩ := loudness_Powers.mono_l k
  refine ⟨?_, ?_, ?_, ?_⟩
  ·intro y0 y1
   unfold loudness_Powers.j0
   repeat' first
   | (with_reducible exact ih0 _ _)
   | (with_reducible exact ih1 _ _ _ _)
   | (with_reducible exact ih2 _ _ _ _ _ _ _ _)
   | (with_reducible exact ih3 _ _ _ _ _ _ _ _ _ _ _)
   | (with_reducible exact loudness_proper.mono _ _)
   | (with_reducible exact LeO.refl _)
   | (with_reducible exact LeO.none _)
   | (with_reducible refine LeO.ite ?_ ?_)
   | (with_reducible refine LeO.bind ?_ (fun _ => ?_))
   | exact ih0 _ _
   | exact ih1 _ _ _ _
   | exact ih2 _ _ _ _ _ _ _ _
   | exact ih3 _ _ _ _ _ _ _ _ _ _ _
   | exact loudness_proper.mono _ _
   | exact LeO.none _
   | refine LeO.ite ?_ ?_
   | refine LeO.bind ?_ (fun _ => ?_)
  ·intro y0 y1 y2 y3
   unfold loudness_Powers.l0
   repeat' first
   | (with_reducible exact ih0 _ _)
   | (with_reducible exact ih1 _ _ _ _)
   | (with_reducible exact ih2 _ _ _ _ _ _ _ _)
   | (with_reducible exact ih3 _ _ _ _ _ _ _ _ _ _ _)
   | (with_reducible exact loudness_proper.mono _ _)
   | (with_reducible exact LeO.refl _)
   | (with_reducible exact LeO.none _)
   | (with_reducible refine LeO.ite ?_ ?_)
   | (with_reducible refine LeO.bind ?_ (fun _ => ?_))
   | exact ih0 _ _
   | exact ih1 _ _ _ _
   | exact ih2 _ _ _ _ _ _ _ _
   | exact ih3 _ _ _ _ _ _ _ _ _ _ _
   | exact loudness_proper.mono _ _
   | exact LeO.none _
   | refine LeO.ite ?_ ?_
   | refine LeO.bind ?_ (fun _ => ?_)
  ·intro y0 y1 y2 y3 y4 y5 y6 y7
   unfold loudness_Powers.l1
   repeat' first
   | (with_reducible exact ih0 _ _)
   | (with_reducible exact ih1 _ _ _ _)
   | (with_reducible exact ih2 _ _ _ _ _ _ _ _)
   | (with_reducible exact ih3 _ _ _ _ _ _ _ _ _ _ _)
   | (with_reducible exact loudness_proper.mono _ _)
   | (with_reducible exact LeO.refl _)
   | (with_reducible exact LeO.none _)
   | (with_reducible refine LeO.ite ?_ ?_)
   | (with_reducible refine LeO.bind ?_ (fun _ => ?_))
   | exact ih0 _ _
   | exact ih1 _ _ _ _
   | exact ih2 _ _ _ _ _ _ _ _
   | exact ih3 _ _ _ _ _ _ _ _ _ _ _
   | exact loudness_proper.mono _ _
   | exact LeO.none _
   | refine LeO.ite ?_ ?_
   | refine LeO.bind ?_ (fun _ => ?_)
  ·intro y0 y1 y2 y3 y4 y5 y6 y7 y8 y9 y10
   unfold loudness_Powers.l2
   repeat' first
   | (with_reducible exact ih0 _ _)
   | (with_reducible exact ih1 _ _ _ _)
   | (with_reducible exact ih2 _ _ _ _ _ _ _ _)
   | (with_reducible exact ih3 _ _ _ _ _ _ _ _ _ _ _)
   | (with_reducible exact loudness_proper.mono _ _)
   | (with_reducible exact LeO.refl _)
   | (with_reducible exact LeO.none _)
   | (with_reducible refine LeO.ite ?_ ?_)
   | (with_reducible refine LeO.bind ?_ (fun _ => ?_))
   | exact ih0 _ _
   | exact ih1 _ _ _ _
   | exact ih2 _ _ _ _ _ _ _ _
   | exact ih3 _ _ _ _ _ _ _ _ _ _ _
   | exact loudness_proper.mono _ _
   | exact LeO.none _
   | refine LeO.ite ?_ ?_
   | refine LeO.bind ?_ (fun _ => ?_)
theorem loudness_Powers.mono : ∀ a0 k, LeO (loudness_Powers.f k a0) (loudness_Powers.f (k + 1) a0) := by
 intro a0 k
 obtain ⟨ih0, ih1, ih2, ih3⟩ := loudness_Powers.mono_l k
 unfold loudness_Powers.f
 repeat' first
   | (with_reducible exact ih0 _ _)
   | (with_reducible exact ih1 _ _ _ _)
   | (with_reducible exact ih2 _ _ _ _ _ _ _ _)
   | (with_reducible exact ih3 _ _ _ _ _ _ _ _ _ _ _)
   | (with_reducible exact loudness_proper.mono _ _)
   | (with_reducible exact LeO.refl _)
   | (with_reducible exact LeO.none _)
   | (with_reducible refine LeO.ite ?_ ?_)
   | (with_reducible refine LeO.bind ?_ (fun _ => ?_))
   | exact ih0 _ _
   | exact ih1 _ _ _ _
   | exact ih2 _ _ _ _ _ _ _ _
   | exact ih3 _ _ _ _ _ _ _ _ _ _ _
   | exact loudness_proper.mono _ _
   | exact LeO.none _
   | refine LeO.ite ?_ ?_
   | refine LeO.bind ?_ (fun _ => ?_)
set_option maxHeartbeats 8000000 in
set_option maxRecDepth 100000 in
theorem loudness_Powers.calls (k : Nat) (A0 : Option Addr) (c0 : Nat) (l0 : List (List Int)) (r1 : List Int) (r2 : Int) (w : World) (hr0 : Kd.C (Kd.slice 48 (Kd.int .i16)) w A0 l0.length l0) (hc0 : l0.length ≤ c0) (h : loudness_Powers.f k l0 = some (r1, r2)) :
  Calls Try.prog 14 #[.slice A0 l0.length c0] w fun e w' => ∃ v0_ : Value, e = .returned (.tuple #[v0_, .int .i64 r2]) ∧ Kd.R (Kd.int .i64) 2 w' w.heap.size (fun _ => True) v0_ r1 ∧ Below w.heap.size w w' := by
 have HR0 := Aside0.mk hr0
 have HC0 := Aside0.mk hc0
 clear hr0 hc0
 have HB := Aside0.mk (Below.refl w.heap.size w)
 have H : ((loudness_proper.f k l0).bind fun t127 => (if t127 = true then (if 0 < (l0.length : Int) then (if ((rd_L2 l0 0).length : Int) ≥ 480 then (loudness_Powers.j0 k l0 (wrap64 ((wrap64 (Int.tdiv (wrap64 (((rd_L2 l0 0).length : Int) - 480)) 120)) + 1))) else (loudness_Powers.j0 k l0 0)) else (none)) else (some (([] : List Int), 1)))) = some (r1, r2) := h
 clear h
 replace H := Option.bind_eq_some_iff.mp H
 obtain ⟨t127, A20, H⟩ := H
 replace H : (if t127 = true then (if 0 < (l0.length : Int) then (if ((rd_L2 l0 0).length : Int) ≥ 480 then (loudness_Powers.j0 k l0 (wrap64 ((wrap64 (Int.tdiv (wrap64 (((rd_L2 l0 0).length : Int) - 480)) 120)) + 1))) else (loudness_Powers.j0 k l0 0)) else (none)) else (some (([] : List Int), 1))) = some (r1, r2) := H
 have A2 := Aside0.mk A20
 clear A20
 by_cases c3 : t127 = true
 ·subst c3
  have H1 : (if 0 < (l0.length : Int) then (if ((rd_L2 l0 0).length : Int) ≥ 480 then (loudness_Powers.j0 k l0 (wrap64 ((wrap64 (Int.tdiv (wrap64 (((rd_L2 l0 0).length : Int) - 480)) 120)) + 1))) else (loudness_Powers.j0 k l0 0)) else (none)) = some (r1, r2) := by rw [if_pos rfl] at H; exact H
  clear H
  have H := H1
  clear H1
  by_cases c4 : 0 < (l0.length : Int)
  ·rw [if_pos c4] at H
   have c4b0 : decide (0 < (l0.length : Int)) = true := decide_eq_true c4
   have c4b1 : decide (0 < l0.length) = true := decide_eq_true (by omega)
   clear c4
   have HC5 := Aside0.mk H
   clear H
   go_enter Try.func14, Try.ntmps14
   go_upto_if 18 with (first | ((with_reducible refine gate_callee (f := 32) rfl ?_); refine goesL_ (some 12) rfl rfl Try.func32 (by kernel_rfl) rfl #[.slice A0 l0.length c0] rfl (by (try simp only [List.map_toArray, List.map_cons, List.map_nil]); first | done | rfl | (simp only [List.length_drop, List.length_take]; rfl)) ?_; (with_reducible refine (loudness_proper.calls k _ _ l0 true _ ?side1 ?side2 A2.out).mono ?_); (case side1 => repeat (first | exact HR0.out | (with_reducible refine Kd.C_alloc ?_ _) | (with_reducible refine Kd.C_drewN ?_ _) | (with_reducible refine Kd.C_drew ?_))); (case side2 => exact HC0.out); rintro e w' ⟨rfl, ⟨nd, rfl⟩⟩; refine ⟨_, rfl, ?_⟩; have p128 : 0 ≤ (0 : Int) := (by omega); have q128 : 0 < (l0.length : Int) := of_decide_eq_true (by first | (with_reducible assumption) | assumption); obtain ⟨ad128, A128_0, c128_0, e128, hx128_0, hl128_0, hi128_0⟩ := at_L2 HR0.out 0 p128 q128; cases e128; have qi128 : (0 < l0.length) = True := eq_true (by omega); (try rw [show ((0 : Int)).toNat = 0 from rfl] at hx128_0); (try rw [Addr.add_zero'] at hx128_0); have HR128_0 := Aside0.mk hi128_0; have HC128_0 := Aside0.mk hl128_0; clear hi128_0 hl128_0; replace p128 := eq_true p128; replace q128 := eq_true q128))
   (try simp only [Act.put, List.setIfInBounds_toArray, List.set_cons_zero, List.set_cons_succ])
   go_cut [4] (fun v4 wc => ∃ (kq : Nat) (x4_4 : Int), v4 = .int .i64 x4_4 ∧ Aside0 (loudness_Powers.j0 kq l0 x4_4 = some (r1, r2)) ∧ Aside0 (kq ≤ k) ∧ Aside0 (Below w.heap.size w wc))
   case first =>
    have H := HC5.out
    clear HC5
    by_cases c6 : ((rd_L2 l0 0).length : Int) ≥ 480
    ·rw [if_pos c6] at H
     have c6b0 : decide (480 ≤ ((rd_L2 l0 0).length : Int)) = true := decide_eq_true c6
     have c6b1 : decide (480 ≤ (rd_L2 l0 0).length) = true := decide_eq_true (by omega)
     clear c6
     (first | rw [c6b0] | (simp only [i64_w, i32_w]; rw [c6b0]) | skip)
     have H' := Aside0.mk H
     clear H
     have p129 : 0 ≤ (0 : Int) := (by omega)
     have q129 : 0 < (l0.length : Int) := of_decide_eq_true (by first | (with_reducible assumption) | assumption)
     obtain ⟨ad129, A129_0, c129_0, e129, hx129_0, hl129_0, hi129_0⟩ := at_L2 HR0.out 0 p129 q129
     obtain rfl : ad128 = ad129 := (by injection e129)
     have qi129 : (0 < l0.length) = True := eq_true (by omega)
     (try rw [show ((0 : Int)).toNat = 0 from rfl] at hx129_0)
     (try rw [Addr.add_zero'] at hx129_0)
     replace hx129_0 := (HB.out.cell (World.block_lt_of_cell? w _ hx129_0)).trans hx129_0
     have HR129_0 := Aside0.mk hi129_0
     have HC129_0 := Aside0.mk hl129_0
     clear hi129_0 hl129_0
     replace p129 := eq_true p129
     replace q129 := eq_true q129
     go_wp2
     go_meet
     case rel => exact ⟨_, (wrap64 ((wrap64 (Int.tdiv (wrap64 (((rd_L2 l0 0).length : Int) - 480)) 120)) + 1)), (by first | rfl | (simp; done) | (simp [*]; done)), H', ⟨by first | omega | exact Nat.le_refl _⟩, ⟨by repeat (first | (with_reducible first | exact HB.out | apply below_alloc | apply pw_below_drewN | apply below_drew1) | exact HB.out)⟩⟩
    ·rw [if_neg c6] at H
     have c6b0 : decide (480 ≤ ((rd_L2 l0 0).length : Int)) = false := decide_eq_false c6
     have c6b1 : decide (480 ≤ (rd_L2 l0 0).length) = false := decide_eq_false (by omega)
     clear c6
     (first | rw [c6b0] | (simp only [i64_w, i32_w]; rw [c6b0]) | skip)
     have H' := Aside0.mk H
     clear H
     go_wp2
     go_meet
     case rel => exact ⟨_, (0), (by first | rfl | (simp; done) | (simp [*]; done)), H', ⟨by first | omega | exact Nat.le_refl _⟩, ⟨by repeat (first | (with_reducible first | exact HB.out | apply below_alloc | apply pw_below_drewN | apply below_drew1) | exact HB.out)⟩⟩
   case rest =>
    clear HC5
    (try clear c1);(try clear p1);(try clear q1);(try clear hx1);(try clear qi1);(try clear p2);(try clear c3);(try clear c4);(try clear c4b0);(try clear c4b1);(try clear c6);(try clear c6b0);(try clear c6b1);(try clear p6);(try clear hx128_0);(try clear hx129_0);(try clear p128);(try clear p129);(try clear q128);(try clear q129)
    obtain ⟨kq, x4_4, rfl, HA, HJ4, HB⟩ := hcut
    cases kq with
    | zero => exact absurd HA.out (by simp [loudness_Powers.j0])
    | succ kj4 =>
     have H := HA.out
     clear HA
     simp only [loudness_Powers.j0] at H
     by_cases c7 : 0 ≤ x4_4
     ·rw [if_pos c7] at H
      have c7b0 := eq_true c7
      have c7b1 : decide (0 ≤ x4_4) = true := decide_eq_true c7
      clear c7
      by_cases c8 : (x4_4 : Int).toNat ≤ 35184372088832
      ·rw [if_pos c8] at H
       have c8b0 := eq_true c8
       have c8b1 : decide ((x4_4 : Int).toNat ≤ 35184372088832) = true := decide_eq_true c8
       clear c8
       obtain ⟨y130, hy130⟩ : ∃ y_ : List Int, y_ = (List.replicate (x4_4 : Int).toNat 0) := ⟨_, rfl⟩
       replace H : (loudness_Powers.l0 kj4 l0 y130 (y130.length : Int) 0) = some (r1, r2) := by first | (rw [hy130]; with_reducible exact H) | (have H2_ := (Option.bind_some _ _).symm.trans H; rw [hy130]; with_reducible exact H2_) | (have H2_ := (Option.bind_some _ _).symm.trans H; with_reducible exact H2_) | with_reducible exact H | (rw [hy130]; exact H) | exact H
       have Ny130 := Aside0.mk hy130
       clear hy130
       have H' := Aside0.mk H
       clear H
       go_wp2_with (first | ((with_reducible refine gate_dst (N := 27) rfl ?_); refine Kd.R_make (Kd.int .i64) _ 2 rfl (N := 27) rfl 26 _ _ rfl x4_4 rfl rfl Try.underlying26 (.int .i64 0) 8 info2 rfl (by decide) (by omega) 0 (ok := fun _ => True) (okp := fun _ => True) rfl (fun _ hk => hk) trivial (of_decide_eq_true (by first | (with_reducible assumption) | assumption)) (Nat.le_trans (Nat.mul_le_mul_right _ (of_decide_eq_true (by first | (with_reducible assumption) | assumption) : x4_4.toNat ≤ 35184372088832)) (by omega)) (Below.refl _ _) (Nat.le_refl _) ?_; intro v131 w9 ho10 hb hg_ hnew_; clear hg_ hnew_; (first | rw [← Ny130.out] at ho10 | (simp only [Int.reduceToNat] at ho10; rw [← Ny130.out] at ho10)); have n0_ := Aside0.mk (Kd.R_lower ho10 (below_size (by repeat (first | (with_reducible first | exact HB.out | apply below_alloc | apply pw_below_drewN | apply below_drew1) | exact HB.out)))); have n1_ := Aside0.mk (below_step (by repeat (first | (with_reducible first | exact HB.out | apply below_alloc | apply pw_below_drewN | apply below_drew1) | exact HB.out)) hb); clear HB; have HO132 := n0_; have HB := n1_; clear n0_ n1_; clear hb ho10; obtain ⟨Ao11, co11, eo11⟩ := Kd.R_slice HO132.out; subst eo11))
       go_loopg [30] kj4 (fun kq v30 w' => ∃ (x5_2 : List Int) (x30_2 : Int), v30 = .int .i64 x30_2 ∧ Aside0 (loudness_Powers.l0 kq l0 x5_2 (y130.length : Int) x30_2 = some (r1, r2)) ∧ Aside0 (kq ≤ kj4) ∧ Aside0 (Kd.R (Kd.int .i64) 2 w' w.heap.size (fun _ => True) (.slice Ao11 y130.length co11) x5_2) ∧ Aside0 (Below w.heap.size w w'))
       case atStart => exact ⟨(y130), (0), (by first | rfl | (simp; done) | (simp [*]; done)), H', ⟨Nat.le_refl _⟩, ⟨by (with_reducible repeat (first | apply Kd.R_alloc | apply Kd.R_drewN | apply Kd.R_drew)); exact HO132.out⟩, ⟨by repeat (first | (with_reducible first | exact HB.out | apply below_alloc | apply pw_below_drewN | apply below_drew1) | exact HB.out)⟩⟩
       case round =>
        clear H'
        (try clear c1);(try clear p1);(try clear q1);(try clear hx1);(try clear qi1);(try clear p2);(try clear c3);(try clear c4);(try clear c4b0);(try clear c4b1);(try clear c6);(try clear c6b0);(try clear c6b1);(try clear p6);(try clear c7);(try clear c7b0);(try clear c7b1);(try clear c8);(try clear c8b0);(try clear c8b1);(try clear hx128_0);(try clear hx129_0);(try clear p1);(try clear p128);(try clear p129);(try clear p2);(try clear p6);(try clear q1);(try clear q128);(try clear q129)
        obtain ⟨x5_2, x30_2, rfl, HA, HK2, HO_5, HB⟩ := hrel
        have hl5_2 := (Kd.R_reads' HO_5.out).1
        rw [hl5_2] at HO_5
        (try simp only [hl5_2])
        cases gk with
        | zero => exact absurd HA.out (by simp [loudness_Powers.l0])
        | succ k2 =>
         have H := HA.out
         clear HA
         simp only [loudness_Powers.l0] at H
         by_cases c12 : x30_2 < (y130.length : Int)
         ·rw [if_pos c12] at H
          have c12b0 : decide (x30_2 < (y130.length : Int)) = true := decide_eq_true c12
          (first | simp only [hl5_2] at c12b0 | skip)
          clear c12
          have H' := Aside0.mk H
          clear H
          go_wp2
          go_loopg [35] k2 (fun kq v35 w' => ∃ (x5_3 : List Int) (x35_3 : Int), v35 = .int .i64 x35_3 ∧ Aside0 (loudness_Powers.l1 kq l0 x5_3 x30_2 (y130.length : Int) x30_2 l0 (l0.length : Int) x35_3 = some (r1, r2)) ∧ Aside0 (kq ≤ k2) ∧ Aside0 (Kd.R (Kd.int .i64) 2 w' w.heap.size (fun _ => True) (.slice Ao11 x5_2.length co11) x5_3) ∧ Aside0 (Below w.heap.size w w'))
          case atStart => exact ⟨(x5_2), (0), (by first | rfl | (simp; done) | (simp [*]; done)), H', ⟨Nat.le_refl _⟩, ⟨by (try simp only [hl5_2]); (with_reducible repeat (first | apply Kd.R_alloc | apply Kd.R_drewN | apply Kd.R_drew)); exact HO_5.out⟩, ⟨by repeat (first | (with_reducible first | exact HB.out | apply below_alloc | apply pw_below_drewN | apply below_drew1) | exact HB.out)⟩⟩
          case round =>
           clear H'
           (try clear c1);(try clear p1);(try clear q1);(try clear hx1);(try clear qi1);(try clear p2);(try clear c3);(try clear c4);(try clear c4b0);(try clear c4b1);(try clear c6);(try clear c6b0);(try clear c6b1);(try clear p6);(try clear c7);(try clear c7b0);(try clear c7b1);(try clear c8);(try clear c8b0);(try clear c8b1);(try clear c12);(try clear c12b0);(try clear p12);(try clear q12);(try clear hx12);(try clear qi12);(try clear hx128_0);(try clear hx129_0);(try clear p1);(try clear p128);(try clear p129);(try clear p2);(try clear p6);(try clear q1);(try clear q128);(try clear q129)
           obtain ⟨x5_3, x35_3, rfl, HA, HK3, HO_5, HB⟩ := hrel
           have hl5_3 := (Kd.R_reads' HO_5.out).1
           rw [hl5_3] at HO_5
           (try simp only [hl5_3])
           cases gk with
           | zero => exact absurd HA.out (by simp [loudness_Powers.l1])
           | succ k3 =>
            have H := HA.out
            clear HA
            simp only [loudness_Powers.l1] at H
            by_cases c13 : x35_3 < (l0.length : Int)
            ·rw [if_pos c13] at H
             have c13b0 : decide (x35_3 < (l0.length : Int)) = true := decide_eq_true c13
             (first | simp only [hl5_2] at c13b0 | skip)
             (first | simp only [hl5_3] at c13b0 | skip)
             clear c13
             by_cases c14 : 0 ≤ x35_3
             ·rw [if_pos c14] at H
              have c14b0 : decide (0 ≤ x35_3) = true := decide_eq_true c14
              clear c14
              by_cases c15 : x35_3 < (l0.length : Int)
              ·rw [if_pos c15] at H
               have c15b0 : decide (x35_3 < (l0.length : Int)) = true := decide_eq_true c15
               (first | simp only [hl5_2] at c15b0 | skip)
               (first | simp only [hl5_3] at c15b0 | skip)
               clear c15
               obtain ⟨ji16, hji16⟩ : ∃ j_ : Int, (wrap64 (120 * x30_2)) = j_ := ⟨_, rfl⟩
               replace H : (if 0 ≤ (ji16) then (if (ji16) ≤ (wrap64 ((ji16) + 480)) then (if (wrap64 ((ji16) + 480)) ≤ ((rd_L2 l0 x35_3).length : Int) then (loudness_Powers.l2 k3 l0 x5_3 x30_2 (y130.length : Int) x30_2 l0 (l0.length : Int) x35_3 (((rd_L2 l0 x35_3).take ((wrap64 ((ji16) + 480)) : Int).toNat).drop ((ji16) : Int).toNat) ((((rd_L2 l0 x35_3).take ((wrap64 ((ji16) + 480)) : Int).toNat).drop ((ji16) : Int).toNat).length : Int) 0) else (none)) else (none)) else (none)) = some (r1, r2) := by first | (rw [hji16] at H; exact H) | (simp only [hji16] at H ⊢; exact H)
               have hji16w : (IntKind.i64.wrap (120 * x30_2)) = ji16 := (i64_w _).trans hji16
               by_cases c17 : 0 ≤ (ji16)
               ·rw [if_pos c17] at H
                have c17b0 := eq_true c17
                have c17b1 : decide (0 ≤ (ji16)) = true := decide_eq_true c17
                clear c17
                by_cases c18 : (ji16) ≤ (wrap64 ((ji16) + 480))
                ·rw [if_pos c18] at H
                 have c18b0 := eq_true c18
                 have c18b1 : decide ((ji16) ≤ (wrap64 ((ji16) + 480))) = true := decide_eq_true c18
                 by_cases c19 : (wrap64 ((ji16) + 480)) ≤ ((rd_L2 l0 x35_3).length : Int)
                 ·rw [if_pos c19] at H
                  have c19b0 := eq_true c19
                  have c19b1 : decide ((wrap64 ((ji16) + 480)) ≤ ((rd_L2 l0 x35_3).length : Int)) = true := decide_eq_true c19
                  have HLEN_ := Aside0.mk (show (((rd_L2 l0 x35_3).take ((wrap64 ((ji16) + 480)) : Int).toNat).drop ((ji16) : Int).toNat).length = (wrap64 ((ji16) + 480)).toNat - (ji16).toNat from by rw [List.length_drop, List.length_take, Nat.min_eq_left (by omega)])
                  (first | simp only [hl5_2] at c19b1 | skip)
                  (first | simp only [hl5_3] at c19b1 | skip)
                  have H' := Aside0.mk H
                  clear H
                  have p133 : 0 ≤ (x35_3 : Int) := of_decide_eq_true (by first | (with_reducible assumption) | assumption)
                  have q133 : x35_3 < (l0.length : Int) := of_decide_eq_true (by first | (with_reducible assumption) | assumption)
                  obtain ⟨ad133, A133_0, c133_0, e133, hx133_0, hl133_0, hi133_0⟩ := at_L2 HR0.out x35_3 p133 q133
                  obtain rfl : ad128 = ad133 := (by injection e133)
                  replace hx133_0 := (HB.out.cell (World.block_lt_of_cell? w _ hx133_0)).trans hx133_0
                  have HR133_0 := Aside0.mk hi133_0
                  have HC133_0 := Aside0.mk hl133_0
                  clear hi133_0 hl133_0
                  replace p133 := eq_true p133
                  replace q133 := eq_true q133
                  obtain ⟨i020, hi020, _, hsz20, _⟩ := info_parts info48
                  obtain ⟨A20, hcut20, hA20, hC20⟩ := print_mid_of (P := Try.prog) (Value.int .i16) 0 47 48 .i64 .i64 Try.underlying47 hi020 hsz20 A133_0 c133_0 (rd_L2 l0 x35_3) (ji16) (wrap64 ((ji16) + 480)) (of_decide_eq_true (by first | (with_reducible assumption) | assumption)) (by first | omega | exact of_decide_eq_true (by first | (with_reducible assumption) | assumption)) (of_decide_eq_true (by first | (with_reducible assumption) | assumption)) HC133_0.out
                  have HR134 := Aside0.mk (Kd.C_of_reads (h1 := fun _ => rfl) (hA20 _ (Kd.reads_of_C HR133_0.out)))
                  have HC134 := Aside0.mk hC20
                  clear hA20 hC20 hi020 hsz20
                  go_wp2
                  go_loopg [47] k3 (fun kq v47 w' => ∃ (x5_4 : List Int) (x47_4 : Int), v47 = .int .i64 x47_4 ∧ Aside0 (loudness_Powers.l2 kq l0 x5_4 x30_2 (y130.length : Int) x30_2 l0 (l0.length : Int) x35_3 (((rd_L2 l0 x35_3).take ((wrap64 ((ji16) + 480)) : Int).toNat).drop ((ji16) : Int).toNat) ((((rd_L2 l0 x35_3).take ((wrap64 ((ji16) + 480)) : Int).toNat).drop ((ji16) : Int).toNat).length : Int) x47_4 = some (r1, r2)) ∧ Aside0 (kq ≤ k3) ∧ Aside0 (Kd.R (Kd.int .i64) 2 w' w.heap.size (fun _ => True) (.slice Ao11 x5_3.length co11) x5_4) ∧ Aside0 (Below w.heap.size w w'))
                  case atStart => exact ⟨(x5_3), (0), (by first | rfl | (simp; done) | (simp [*]; done)), H', ⟨Nat.le_refl _⟩, ⟨by (try simp only [hl5_2]); (try simp only [hl5_3]); (with_reducible repeat (first | apply Kd.R_alloc | apply Kd.R_drewN | apply Kd.R_drew)); exact HO_5.out⟩, ⟨by repeat (first | (with_reducible first | exact HB.out | apply below_alloc | apply pw_below_drewN | apply below_drew1) | exact HB.out)⟩⟩
                  case round =>
                   clear H'
                   (try clear c1);(try clear p1);(try clear q1);(try clear hx1);(try clear qi1);(try clear p2);(try clear c3);(try clear c4);(try clear c4b0);(try clear c4b1);(try clear c6);(try clear c6b0);(try clear c6b1);(try clear p6);(try clear c7);(try clear c7b0);(try clear c7b1);(try clear c8);(try clear c8b0);(try clear c8b1);(try clear c12);(try clear c12b0);(try clear p12);(try clear q12);(try clear hx12);(try clear qi12);(try clear c13);(try clear c13b0);(try clear p13);(try clear q13);(try clear hx13);(try clear c14);(try clear c14b0);(try clear c15);(try clear c15b0);(try clear c17);(try clear c17b0);(try clear c17b1);(try clear c18);(try clear c18b0);(try clear c18b1);(try clear c19);(try clear c19b0);(try clear c19b1);(try clear hx128_0);(try clear hx129_0);(try clear hx133_0);(try clear p1);(try clear p12);(try clear p128);(try clear p129);(try clear p133)
                   (try clear p2);(try clear p6);(try clear q1);(try clear q12);(try clear q128);(try clear q129);(try clear q133)
                   obtain ⟨x5_4, x47_4, rfl, HA, HK4, HO_5, HB⟩ := hrel
                   have hl5_4 := (Kd.R_reads' HO_5.out).1
                   rw [hl5_4] at HO_5
                   (try simp only [hl5_4])
                   cases gk with
                   | zero => exact absurd HA.out (by simp [loudness_Powers.l2])
                   | succ k4 =>
                    have H := HA.out
                    clear HA
                    simp only [loudness_Powers.l2] at H
                    by_cases c21 : x47_4 < ((((rd_L2 l0 x35_3).take ((wrap64 ((ji16) + 480)) : Int).toNat).drop ((ji16) : Int).toNat).length : Int)
                    ·rw [if_pos c21] at H
                     have c21b0 : decide (x47_4 < ((((rd_L2 l0 x35_3).take ((wrap64 ((ji16) + 480)) : Int).toNat).drop ((ji16) : Int).toNat).length : Int)) = true := decide_eq_true c21
                     have c21b9 := c21b0
                     rw [HLEN_.out] at c21b9
                     (first | simp only [hl5_2] at c21b0 | skip)
                     (first | simp only [hl5_3] at c21b0 | skip)
                     (first | simp only [hl5_4] at c21b0 | skip)
                     clear c21
                     by_cases c22 : 0 ≤ x47_4
                     ·rw [if_pos c22] at H
                      have c22b0 : decide (0 ≤ x47_4) = true := decide_eq_true c22
                      clear c22
                      by_cases c23 : x47_4 < ((((rd_L2 l0 x35_3).take ((wrap64 ((ji16) + 480)) : Int).toNat).drop ((ji16) : Int).toNat).length : Int)
                      ·rw [if_pos c23] at H
                       have c23b0 : decide (x47_4 < ((((rd_L2 l0 x35_3).take ((wrap64 ((ji16) + 480)) : Int).toNat).drop ((ji16) : Int).toNat).length : Int)) = true := decide_eq_true c23
                       have c23b9 := c23b0
                       rw [HLEN_.out] at c23b9
                       (first | simp only [hl5_2] at c23b0 | skip)
                       (first | simp only [hl5_3] at c23b0 | skip)
                       (first | simp only [hl5_4] at c23b0 | skip)
                       clear c23
                       by_cases c24 : 0 ≤ x30_2
                       ·rw [if_pos c24] at H
                        have c24b0 : decide (0 ≤ x30_2) = true := decide_eq_true c24
                        clear c24
                        by_cases c25 : x30_2 < (x5_4.length : Int)
                        ·rw [if_pos c25] at H
                         have c25b0 : decide (x30_2 < (x5_4.length : Int)) = true := decide_eq_true c25
                         (first | simp only [hl5_2] at c25b0 | skip)
                         (first | simp only [hl5_3] at c25b0 | skip)
                         (first | simp only [hl5_4] at c25b0 | skip)
                         clear c25
                         obtain ⟨y137, hy137⟩ : ∃ y_ : List Int, y_ = (x5_4.set (x30_2 : Int).toNat (wrap64 ((rd x5_4 x30_2) + (wrap64 ((wrap64 (rd (((rd_L2 l0 x35_3).take ((wrap64 ((ji16) + 480)) : Int).toNat).drop ((ji16) : Int).toNat) x47_4)) * (wrap64 (rd (((rd_L2 l0 x35_3).take ((wrap64 ((ji16) + 480)) : Int).toNat).drop ((ji16) : Int).toNat) x47_4))))))) := ⟨_, rfl⟩
                         replace H : (loudness_Powers.l2 k4 l0 y137 x30_2 (y130.length : Int) x30_2 l0 (l0.length : Int) x35_3 (((rd_L2 l0 x35_3).take ((wrap64 ((ji16) + 480)) : Int).toNat).drop ((ji16) : Int).toNat) ((((rd_L2 l0 x35_3).take ((wrap64 ((ji16) + 480)) : Int).toNat).drop ((ji16) : Int).toNat).length : Int) (wrap64 (x47_4 + 1))) = some (r1, r2) := by first | (rw [hy137]; with_reducible exact H) | (have H2_ := (Option.bind_some _ _).symm.trans H; rw [hy137]; with_reducible exact H2_) | (have H2_ := (Option.bind_some _ _).symm.trans H; with_reducible exact H2_) | with_reducible exact H | (rw [hy137]; exact H) | exact H
                         have Ny137 := Aside0.mk hy137
                         clear hy137
                         have H' := Aside0.mk H
                         clear H
                         have p135 : 0 ≤ (x47_4 : Int) := of_decide_eq_true (by first | (with_reducible assumption) | assumption)
                         have q135 : x47_4 < ((((rd_L2 l0 x35_3).take ((wrap64 ((ji16) + 480)) : Int).toNat).drop ((ji16) : Int).toNat).length : Int) := of_decide_eq_true (by first | (with_reducible assumption) | assumption)
                         have q135b := q135
                         rw [HLEN_.out] at q135b
                         replace q135b := eq_true q135b
                         obtain ⟨ad135, e135, hx135_0⟩ := Kd.at_int HR134.out x47_4 p135 q135
                         cases e135
                         replace hx135_0 := (HB.out.cell (World.block_lt_of_cell? w _ hx135_0)).trans hx135_0
                         replace p135 := eq_true p135
                         replace q135 := eq_true q135
                         have p136 : 0 ≤ (x30_2 : Int) := of_decide_eq_true (by first | (with_reducible assumption) | assumption)
                         have q136 : x30_2 < (x5_4.length : Int) := of_decide_eq_true (by first | (with_reducible assumption) | assumption)
                         obtain ⟨ad136, e136, hx136_0⟩ := Kd.at_int (Kd.R_reads' HO_5.out).2.2 x30_2 p136 q136
                         cases e136
                         replace p136 := eq_true p136
                         replace q136 := eq_true q136
                         have p26 : 0 ≤ (x30_2 : Int) := of_decide_eq_true (by first | (with_reducible assumption) | assumption)
                         have q26 : (x30_2 : Int) < ((x5_4.length : Int) : Int) := of_decide_eq_true (by first | (with_reducible assumption) | assumption)
                         obtain ⟨go26, co26, eo26, gb26, gl26, cl26, HG26⟩ := Kd.R_form HO_5.out (by omega)
                         (first | cases eo26 | (injection eo26 with ea_ en_ ec_; (first | subst ea_ | (injection ea_ with ea_; subst ea_)); subst ec_; clear en_))
                         have GB26 := Aside0.mk gb26
                         have GG26 := Aside0.mk HG26
                         clear gb26 gl26 HG26
                         (first | simp only [add_plain] at hx136_0 | skip)
                         obtain ⟨hx26_0, hf26_0⟩ := Kd.R_celln 0 HO_5.out (x30_2 : Int) p26 q26
                         replace p26 := eq_true p26
                         replace q26 := eq_true q26
                         have HP27 := Kd.R_putg HO_5.out (x30_2 : Int) (wrap64 ((rd x5_4 x30_2) + (wrap64 ((wrap64 (rd (((rd_L2 l0 x35_3).take ((wrap64 ((ji16) + 480)) : Int).toNat).drop ((ji16) : Int).toNat) x47_4)) * (wrap64 (rd (((rd_L2 l0 x35_3).take ((wrap64 ((ji16) + 480)) : Int).toNat).drop ((ji16) : Int).toNat) x47_4))))))
                         go_wp2_with (first | ((with_reducible refine gate_store (t := 2) (p := 61) rfl ?_); refine store_event (t := 2) (p := 61) (v := ?vo_w28) (w1 := (wr.setCell ⟨go26, (x30_2 : Int).toNat, none⟩ (.int .i64 (wrap64 ((rd x5_4 x30_2) + (wrap64 ((wrap64 (rd (((rd_L2 l0 x35_3).take ((wrap64 ((ji16) + 480)) : Int).toNat).drop ((ji16) : Int).toNat) x47_4)) * (wrap64 (rd (((rd_L2 l0 x35_3).take ((wrap64 ((ji16) + 480)) : Int).toNat).drop ((ji16) : Int).toNat) x47_4))))))))) ?hg ?ho ?hn ?hr ?_; (case ho => rfl); (case hg => rfl); (case hn => rfl); (case hr => first | (go_simp; done) | (go_simp; rfl)); intro w28 hw; have hg : wr.grownBy w28 (some go26) := (by rw [hw]; exact HP27.2); have hp_ : Kd.R (Kd.int .i64) 2 w28 w.heap.size (fun _ => True) (.slice (some ⟨go26, 0, none⟩) x5_4.length co11) y137 := (by rw [hw, Ny137.out]; exact HP27.1); clear HP27; have n0_ := Aside0.mk (hp_); have n1_ := Aside0.mk ((by rw [hw]; exact below_set (HB.out) GB26.out : Below w.heap.size w w28)); clear HO_5; clear HB; have HO_5 := n0_; have HB := n1_; clear n0_ n1_; clear hg hw hp_))
                         (try simp only [← hl5_4])
                         go_roundg k4
                         case measure => have := HJ4.out; have := HK2.out; have := HK3.out; have := HK4.out; omega
                         case rel => exact ⟨(y137), (wrap64 (x47_4 + 1)), (by first | rfl | (simp; done) | (simp [*]; done)), H', ⟨by have := HJ4.out; have := HK2.out; have := HK3.out; have := HK4.out; omega⟩, ⟨by (try simp only [hl5_2]); (try simp only [hl5_3]); (try simp only [hl5_4]); (with_reducible repeat (first | apply Kd.R_alloc | apply Kd.R_drewN | apply Kd.R_drew)); exact HO_5.out⟩, ⟨by repeat (first | (with_reducible first | exact HB.out | apply below_alloc | apply pw_below_drewN | apply below_drew1) | exact HB.out)⟩⟩
                        ·rw [if_neg c25] at H
                         exact absurd H (by simp)
                       ·rw [if_neg c24] at H
                        exact absurd H (by simp)
                      ·rw [if_neg c23] at H
                       exact absurd H (by simp)
                     ·rw [if_neg c22] at H
                      exact absurd H (by simp)
                    ·rw [if_neg c21] at H
                     have c21b0 : decide (x47_4 < ((((rd_L2 l0 x35_3).take ((wrap64 ((ji16) + 480)) : Int).toNat).drop ((ji16) : Int).toNat).length : Int)) = false := decide_eq_false c21
                     have c21b9 := c21b0
                     rw [HLEN_.out] at c21b9
                     (first | simp only [hl5_2] at c21b0 | skip)
                     (first | simp only [hl5_3] at c21b0 | skip)
                     (first | simp only [hl5_4] at c21b0 | skip)
                     clear c21
                     have H' := Aside0.mk H
                     clear H
                     go_wp2
                     (try simp only [← hl5_3, ← hl5_4])
                     go_roundg k4
                     case measure => have := HJ4.out; have := HK2.out; have := HK3.out; have := HK4.out; omega
                     case rel => exact ⟨(x5_4), (wrap64 (x35_3 + 1)), (by first | rfl | (simp; done) | (simp [*]; done)), H', ⟨by have := HJ4.out; have := HK2.out; have := HK3.out; have := HK4.out; omega⟩, ⟨by (try simp only [hl5_2]); (try simp only [hl5_3]); (try simp only [hl5_4]); (with_reducible repeat (first | apply Kd.R_alloc | apply Kd.R_drewN | apply Kd.R_drew)); exact HO_5.out⟩, ⟨by repeat (first | (with_reducible first | exact HB.out | apply below_alloc | apply pw_below_drewN | apply below_drew1) | exact HB.out)⟩⟩
                 ·rw [if_neg c19] at H
                  exact absurd H (by simp)
                ·rw [if_neg c18] at H
                 exact absurd H (by simp)
               ·rw [if_neg c17] at H
                exact absurd H (by simp)
              ·rw [if_neg c15] at H
               exact absurd H (by simp)
             ·rw [if_neg c14] at H
              exact absurd H (by simp)
            ·rw [if_neg c13] at H
             have c13b0 : decide (x35_3 < (l0.length : Int)) = false := decide_eq_false c13
             (first | simp only [hl5_2] at c13b0 | skip)
             (first | simp only [hl5_3] at c13b0 | skip)
             clear c13
             have H' := Aside0.mk H
             clear H
             go_wp2
             (try simp only [← hl5_2, ← hl5_3])
             go_roundg k3
             case measure => have := HJ4.out; have := HK2.out; have := HK3.out; omega
             case rel => exact ⟨(x5_3), (wrap64 (x30_2 + 1)), (by first | rfl | (simp; done) | (simp [*]; done)), H', ⟨by have := HJ4.out; have := HK2.out; have := HK3.out; omega⟩, ⟨by (try simp only [hl5_2]); (try simp only [hl5_3]); (with_reducible repeat (first | apply Kd.R_alloc | apply Kd.R_drewN | apply Kd.R_drew)); exact HO_5.out⟩, ⟨by repeat (first | (with_reducible first | exact HB.out | apply below_alloc | apply pw_below_drewN | apply below_drew1) | exact HB.out)⟩⟩
         ·rw [if_neg c12] at H
          have c12b0 : decide (x30_2 < (y130.length : Int)) = false := decide_eq_false c12
          (first | simp only [hl5_2] at c12b0 | skip)
          clear c12
          simp only [Option.some.injEq, Prod.mk.injEq] at H
          obtain ⟨rfl, rfl⟩ := H
          go_wp2
          go_ret2
          exact ⟨_, by first | rfl | (simp [errW_none, errW_some] <;> rfl) | (simp [*, errW_none, errW_some] <;> rfl), by (with_reducible repeat (first | apply Kd.R_alloc | apply Kd.R_drewN | apply Kd.R_drew)); exact HO_5.out, by repeat (first | (with_reducible first | exact HB.out | apply below_alloc | apply pw_below_drewN | apply below_drew1) | exact HB.out)⟩
      ·rw [if_neg c8] at H
       exact absurd H (by simp)
     ·rw [if_neg c7] at H
      exact absurd H (by simp)
  ·rw [if_neg c4] at H
   exact absurd H (by simp)
 ·replace c3 := Bool.eq_false_iff.mpr c3
  subst c3
  have H1 : (some (([] : List Int), 1)) = some (r1, r2) := by rw [if_neg (show ¬ (false = true) by decide)] at H; exact H
  clear H
  have H := H1
  clear H1
  simp only [Option.some.injEq, Prod.mk.injEq] at H
  obtain ⟨rfl, rfl⟩ := H
  go_enter Try.func14, Try.ntmps14
  go_wp2_with (first | ((with_reducible refine gate_callee (f := 32) rfl ?_); refine goesL_ (some 12) rfl rfl Try.func32 (by kernel_rfl) rfl #[.slice A0 l0.length c0] rfl (by (try simp only [List.map_toArray, List.map_cons, List.map_nil]); first | done | rfl | (simp only [List.length_drop, List.length_take]; rfl)) ?_; (with_reducible refine (loudness_proper.calls k _ _ l0 false _ ?side1 ?side2 A2.out).mono ?_); (case side1 => repeat (first | exact HR0.out | (with_reducible refine Kd.C_alloc ?_ _) | (with_reducible refine Kd.C_drewN ?_ _) | (with_reducible refine Kd.C_drew ?_))); (case side2 => exact HC0.out); rintro e w' ⟨rfl, ⟨nd, rfl⟩⟩; refine ⟨_, rfl, ?_⟩))
  go_ret2
  exact ⟨_, by first | rfl | (simp [errW_none, errW_some] <;> rfl) | (simp [*, errW_none, errW_some] <;> rfl), by first | exact Kd.R_nil _ _ _ _ _ | exact Kd.N_nil _ _ _ _ _ | exact Kd.V_nil _ _ _ _ _ | exact Kd.Q_nil _ _ _ _ _ | exact Kd.S_nil _ _ _ _ _, by repeat (first | (with_reducible first | exact HB.out | apply below_alloc | apply pw_below_drewN | apply below_drew1) | exact HB.out)⟩

end Go.Proofs.Ytjcjbbcamkkeiaa.P
