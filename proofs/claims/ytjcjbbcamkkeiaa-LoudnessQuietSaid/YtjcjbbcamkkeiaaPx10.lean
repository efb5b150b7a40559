-- Written by this session's own program (wip/tools/myprint.py), which runs the kit's print with turns of its own: not a text of the kit's print.sh.
import Derived.Test.YtjcjbbcamkkeiaaPx0
import Derived.Test.YtjcjbbcamkkeiaaPx14
import Derived.Test.YtjcjbbcamkkeiaaPx15
import Derived.Test.YtjcjbbcamkkeiaaPx20
import Derived.Test.YtjcjbbcamkkeiaaPx21
import Derived.Test.YtjcjbbcamkkeiaaPx23
import Derived.Test.YtjcjbbcamkkeiaaPx1038
namespace Go.Proofs.Ytjcjbbcamkkeiaa.P
open Go.RowKit Go.Proofs.YtjcjbbcamkkeiaaW.PrintWords Go.Proofs.YtjcjbbcamkkeiaaW.PrintLast Go.Proofs.YtjcjbbcamkkeiaaW.PrintMore
attribute [local go_sem] max2_int min2_int max_two min_two max_three min_three max_four min_four   -- for this text's walks alone
set_option linter.unusedVariables false
set_option linter.unusedSimpArgs false

attribute [local go_sem high] eqA37
/-! ### cutroomlaw28_LoudnessQuiet: function 9 -/
mutual
def cutroomlaw28_LoudnessQuiet.j0 : Nat → List Int → List Int → Bool → Int → Int → Option (Bool)
 | 0, _, _, _, _, _ => none
 | k + 1, x4, x6, x41, x402000, x402001 => if x41 = true then (some false) else (cutroomlaw28_LoudnessQuiet.l0 k x4 x6 0 (x4.length : Int) 0 x402000 x402001)
def cutroomlaw28_LoudnessQuiet.l0 : Nat → List Int → List Int → Int → Int → Int → Int → Int → Option (Bool)
 | 0, _, _, _, _, _, _, _ => none
 | k + 1, x4, x6, x10, x43, x44, x402000, x402001 => if x44 < x43 then (if 0 ≤ x44 then (if x44 < (x4.length : Int) then (cutroomlaw28_LoudnessQuiet.l0 k x4 x6 (mx x10 (rd x4 x44)) x43 (wrap64 (x44 + 1)) x402000 x402001) else (none)) else (none)) else (if (x6.length : Int) = 0 then (if x10 < 30720 then (if (x402000 == 0 && (x402001 == 1)) = true then ((cutroomlaw28_awake.f k).bind fun t403 => (some t403)) else (some false)) else (some false)) else (cutroomlaw28_LoudnessQuiet.l1 k x4 x6 x10 4611686018427387904 0 (x6.length : Int) 0 x402000 x402001))
def cutroomlaw28_LoudnessQuiet.l1 : Nat → List Int → List Int → Int → Int → Int → Int → Int → Int → Int → Option (Bool)
 | 0, _, _, _, _, _, _, _, _, _ => none
 | k + 1, x4, x6, x10, x12, x13, x68, x69, x402000, x402001 => if x69 < x68 then (if 0 ≤ x69 then (if x69 < (x6.length : Int) then (if (rd x6 x69) < 0 then (some false) else (if (rd x6 x69) ≥ (x4.length : Int) then (some false) else (if x69 > 0 then (if 0 ≤ (wrap64 (x69 - 1)) then (if (wrap64 (x69 - 1)) < (x6.length : Int) then (if (rd x6 x69) ≤ (rd x6 (wrap64 (x69 - 1))) then (some false) else (if 0 ≤ (rd x6 x69) then (if (rd x6 x69) < (x4.length : Int) then (if (rd x4 (rd x6 x69)) < 30720 then (some false) else (cutroomlaw28_LoudnessQuiet.l1 k x4 x6 x10 (mn x12 (rd x4 (rd x6 x69))) (mx x13 (rd x4 (rd x6 x69))) x68 (wrap64 (x69 + 1)) x402000 x402001)) else (none)) else (none))) else (none)) else (none)) else (if 0 ≤ (rd x6 x69) then (if (rd x6 x69) < (x4.length : Int) then (if (rd x4 (rd x6 x69)) < 30720 then (some false) else (cutroomlaw28_LoudnessQuiet.l1 k x4 x6 x10 (mn x12 (rd x4 (rd x6 x69))) (mx x13 (rd x4 (rd x6 x69))) x68 (wrap64 (x69 + 1)) x402000 x402001)) else (none)) else (none))))) else (none)) else (none)) else (if x13 = x10 then (if x402001 ≥ 1 then (if (wrap64 (x402000 * 480)) ≥ (wrap64 (x12 * x402001)) then (if (wrap64 (x402000 * 480)) ≤ (wrap64 (x13 * x402001)) then ((cutroomlaw28_awake.f k).bind fun t420 => (some t420)) else (some false)) else (some false)) else (some false)) else (some false))
end
def cutroomlaw28_LoudnessQuiet.f (k : Nat) (l0 : List Int) : Option (Bool) := (cutroomlaw28_made.f k l0 9000).bind fun t387 => ((loudness_Powers.f k t387).bind fun bt390 => ((loudness_Gated.f k t387).bind fun bt394 => ((loudness_Measure.f k t387).bind fun bt398 => (if bt390.2 = 0 then (if bt394.2 = 0 then (cutroomlaw28_LoudnessQuiet.j0 k bt390.1 bt394.1 (bt398.2.2 != 0) bt398.1 bt398.2.1) else (cutroomlaw28_LoudnessQuiet.j0 k bt390.1 bt394.1 true bt398.1 bt398.2.1)) else (cutroomlaw28_LoudnessQuiet.j0 k bt390.1 bt394.1 true bt398.1 bt398.2.1)))))
theorem cutroomlaw28_LoudnessQuiet.mono_l : ∀ k, (∀ y0 y1 y2 y3 y4, LeO (cutroomlaw28_LoudnessQuiet.j0 k y0 y1 y2 y3 y4) (cutroomlaw28_LoudnessQuiet.j0 (k + 1) y0 y1 y2 y3 y4)) ∧ (∀ y0 y1 y2 y3 y4 y5 y6, LeO (cutroomlaw28_LoudnessQuiet.l0 k y0 y1 y2 y3 y4 y5 y6) (cutroomlaw28_LoudnessQuiet.l0 (k + 1) y0 y1 y2 y3 y4 y5 y6)) ∧ (∀ y0 y1 y2 y3 y4 y5 y6 y7 y8, LeO (cutroomlaw28_LoudnessQuiet.l1 k y0 y1 y2 y3 y4 y5 y6 y7 y8) (cutroomlaw28_LoudnessQuiet.l1 (k + 1) y0 y1 y2 y3 y4 y5 y6 y7 y8))
 | 0 => ⟨fun _ _ _ _ _ r h => by simp [cutroomlaw28_LoudnessQuiet.j0] at h, fun _ _ _ _ _ _ _ r h => by simp [cutroomlaw28_LoudnessQuiet.l0] at h, fun _ _ _ _ _ _ _ _ _ r h => by simp [cutroomlaw28_LoudnessQuiet.l1] at h⟩
 | k + 1 => by
  obtain ⟨ih0, ih1, ih2⟩ := cutroomlaw28_LoudnessQuiet.mono_l k
  refine ⟨?_, ?_, ?_⟩
  ·intro y0 y1 y2 y3 y4
   unfold cutroomlaw28_LoudnessQuiet.j0
   repeat' first
   | (with_reducible exact ih0 _ _ _ _ _)
   | (with_reducible exact ih1 _ _ _ _ _ _ _)
   | (with_reducible exact ih2 _ _ _ _ _ _ _ _ _)
   | (with_reducible exact cutroomlaw28_awake.mono _)
   | (with_reducible exact cutroomlaw28_made.mono _ _ _)
   | (with_reducible exact loudness_Gated.mono _ _)
   | (with_reducible exact loudness_Measure.mono _ _)
   | (with_reducible exact loudness_Powers.mono _ _)
   | (with_reducible exact LeO.refl _)
   | (with_reducible exact LeO.none _)
   | (with_reducible refine LeO.ite ?_ ?_)
   | (with_reducible refine LeO.bind ?_ (fun _ => ?_))
   | exact ih0 _ _ _ _ _
   | exact ih1 _ _ _ _ _ _ _
   | exact ih2 _ _ _ _ _ _ _ _ _
   | exact cutroomlaw28_awake.mono _
   | exact cutroomlaw28_made.mono _ _ _
   | exact loudness_Gated.mono _ _
   | exact loudness_Measure.mono _ _
   | exact loudness_Powers.mono _ _
   | exact LeO.none _
   | refine LeO.ite ?_ ?_
   | refine LeO.bind ?_ (fun _ => ?_)
  ·intro y0 y1 y2 y3 y4 y5 y6
   unfold cutroomlaw28_LoudnessQuiet.l0
   repeat' first
   | (with_reducible exact ih0 _ _ _ _ _)
   | (with_reducible exact ih1 _ _ _ _ _ _ _)
   | (with_reducible exact ih2 _ _ _ _ _ _ _ _ _)
   | (with_reducible exact cutroomlaw28_awake.mono _)
   | (with_reducible exact cutroomlaw28_made.mono _ _ _)
   | (with_reducible exact loudness_Gated.mono _ _)
   | (with_reducible exact loudness_Measure.mono _ _)
   | (with_reducible exact loudness_Powers.mono _ _)
   | (with_reducible exact LeO.refl _)
   | (with_reducible exact LeO.none _)
   | (with_reducible refine LeO.ite ?_ ?_)
   | (with_reducible refine LeO.bind ?_ (fun _ => ?_))
   | exact ih0 _ _ _ _ _
   | exact ih1 _ _ _ _ _ _ _
   | exact ih2 _ _ _ _ _ _ _ _ _
   | exact cutroomlaw28_awake.mono _
   | exact cutroomlaw28_made.mono _ _ _
   | exact loudness_Gated.mono _ _
   | exact loudness_Measure.mono _ _
   | exact loudness_Powers.mono _ _
   | exact LeO.none _
   | refine LeO.ite ?_ ?_
   | refine LeO.bind ?_ (fun _ => ?_)
  ·intro y0 y1 y2 y3 y4 y5 y6 y7 y8
   unfold cutroomlaw28_LoudnessQuiet.l1
   repeat' first
   | (with_reducible exact ih0 _ _ _ _ _)
   | (with_reducible exact ih1 _ _ _ _ _ _ _)
   | (with_reducible exact ih2 _ _ _ _ _ _ _ _ _)
   | (with_reducible exact cutroomlaw28_awake.mono _)
   | (with_reducible exact cutroomlaw28_made.mono _ _ _)
   | (with_reducible exact loudness_Gated.mono _ _)
   | (with_reducible exact loudness_Measure.mono _ _)
   | (with_reducible exact loudness_Powers.mono _ _)
   | (with_reducible exact LeO.refl _)
   | (with_reducible exact LeO.none _)
   | (with_reducible refine LeO.ite ?_ ?_)
   | (with_reducible refine LeO.bind ?_ (fun _ => ?_))
   | exact ih0 _ _ _ _ _
   | exact ih1 _ _ _ _ _ _ _
   | exact ih2 _ _ _ _ _ _ _ _ _
   | exact cutroomlaw28_awake.mono _
   | exact cutroomlaw28_made.mono _ _ _
   | exact loudness_Gated.mono _ _
   | exact loudness_Measure.mono _ _
   | exact loudness_Powers.mono _ _
   | exact LeO.none _
   | refine LeO.ite ?_ ?_
   | refine LeO.bind ?_ (fun _ => ?_)
theorem cutroomlaw28_LoudnessQuiet.mono : ∀ a0 k, LeO (cutroomlaw28_LoudnessQuiet.f k a0) (cutroomlaw28_LoudnessQuiet.f (k + 1) a0) := by
 intro a0 k
 obtain ⟨ih0, ih1, ih2⟩ := cutroomlaw28_LoudnessQuiet.mono_l k
 unfold cutroomlaw28_LoudnessQuiet.f
 repeat' first
   | (with_reducible exact ih0 _ _ _ _ _)
   | (with_reducible exact ih1 _ _ _ _ _ _ _)
   | (with_reducible exact ih2 _ _ _ _ _ _ _ _ _)
   | (with_reducible exact cutroomlaw28_awake.mono _)
   | (with_reducible exact cutroomlaw28_made.mono _ _ _)
   | (with_reducible exact loudness_Gated.mono _ _)
   | (with_reducible exact loudness_Measure.mono _ _)
   | (with_reducible exact loudness_Powers.mono _ _)
   | (with_reducible exact LeO.refl _)
   | (with_reducible exact LeO.none _)
   | (with_reducible refine LeO.ite ?_ ?_)
   | (with_reducible refine LeO.bind ?_ (fun _ => ?_))
   | exact ih0 _ _ _ _ _
   | exact ih1 _ _ _ _ _ _ _
   | exact ih2 _ _ _ _ _ _ _ _ _
   | exact cutroomlaw28_awake.mono _
   | exact cutroomlaw28_made.mono _ _ _
   | exact loudness_Gated.mono _ _
   | exact loudness_Measure.mono _ _
   | exact loudness_Powers.mono _ _
   | exact LeO.none _
   | refine LeO.ite ?_ ?_
   | refine LeO.bind ?_ (fun _ => ?_)
set_option maxHeartbeats 8000000 in
set_option maxRecDepth 100000 in
theorem cutroomlaw28_LoudnessQuiet.calls (k : Nat) (A0 : Option Addr) (c0 : Nat) (l0 : List Int) (r : Bool) (w : World) (hr0 : Kd.C (Kd.int .i64) w A0 l0.length l0) (hc0 : l0.length ≤ c0) (h : cutroomlaw28_LoudnessQuiet.f k l0 = some r) :
  Calls Try.prog 9 #[.slice A0 l0.length c0] w fun e w' => e = .returned (.bool r) ∧ Below w.heap.size w w' := by
 have hu37 := Try.underlying37
 have HR0 := Aside0.mk hr0
 have HC0 := Aside0.mk hc0
 clear hr0 hc0
 have HB := Aside0.mk (Below.refl w.heap.size w)
 have H : ((cutroomlaw28_made.f k l0 9000).bind fun t387 => ((loudness_Powers.f k t387).bind fun bt390 => ((loudness_Gated.f k t387).bind fun bt394 => ((loudness_Measure.f k t387).bind fun bt398 => (if bt390.2 = 0 then (if bt394.2 = 0 then (cutroomlaw28_LoudnessQuiet.j0 k bt390.1 bt394.1 (bt398.2.2 != 0) bt398.1 bt398.2.1) else (cutroomlaw28_LoudnessQuiet.j0 k bt390.1 bt394.1 true bt398.1 bt398.2.1)) else (cutroomlaw28_LoudnessQuiet.j0 k bt390.1 bt394.1 true bt398.1 bt398.2.1)))))) = some r := h
 clear h
 replace H := Option.bind_eq_some_iff.mp H
 obtain ⟨t387, A20, H⟩ := H
 replace H : ((loudness_Powers.f k t387).bind fun bt390 => ((loudness_Gated.f k t387).bind fun bt394 => ((loudness_Measure.f k t387).bind fun bt398 => (if bt390.2 = 0 then (if bt394.2 = 0 then (cutroomlaw28_LoudnessQuiet.j0 k bt390.1 bt394.1 (bt398.2.2 != 0) bt398.1 bt398.2.1) else (cutroomlaw28_LoudnessQuiet.j0 k bt390.1 bt394.1 true bt398.1 bt398.2.1)) else (cutroomlaw28_LoudnessQuiet.j0 k bt390.1 bt394.1 true bt398.1 bt398.2.1))))) = some r := H
 have A2 := Aside0.mk A20
 clear A20
 replace H := Option.bind_eq_some_iff.mp H
 obtain ⟨⟨t390, t391⟩, A30, H⟩ := H
 replace H : ((loudness_Gated.f k t387).bind fun bt394 => ((loudness_Measure.f k t387).bind fun bt398 => (if t391 = 0 then (if bt394.2 = 0 then (cutroomlaw28_LoudnessQuiet.j0 k t390 bt394.1 (bt398.2.2 != 0) bt398.1 bt398.2.1) else (cutroomlaw28_LoudnessQuiet.j0 k t390 bt394.1 true bt398.1 bt398.2.1)) else (cutroomlaw28_LoudnessQuiet.j0 k t390 bt394.1 true bt398.1 bt398.2.1)))) = some r := H
 have A3 := Aside0.mk A30
 clear A30
 replace H := Option.bind_eq_some_iff.mp H
 obtain ⟨⟨t394, t395⟩, A40, H⟩ := H
 replace H : ((loudness_Measure.f k t387).bind fun bt398 => (if t391 = 0 then (if t395 = 0 then (cutroomlaw28_LoudnessQuiet.j0 k t390 t394 (bt398.2.2 != 0) bt398.1 bt398.2.1) else (cutroomlaw28_LoudnessQuiet.j0 k t390 t394 true bt398.1 bt398.2.1)) else (cutroomlaw28_LoudnessQuiet.j0 k t390 t394 true bt398.1 bt398.2.1))) = some r := H
 have A4 := Aside0.mk A40
 clear A40
 replace H := Option.bind_eq_some_iff.mp H
 obtain ⟨⟨t398, t399, t400⟩, A50, H⟩ := H
 replace H : (if t391 = 0 then (if t395 = 0 then (cutroomlaw28_LoudnessQuiet.j0 k t390 t394 (t400 != 0) t398 t399) else (cutroomlaw28_LoudnessQuiet.j0 k t390 t394 true t398 t399)) else (cutroomlaw28_LoudnessQuiet.j0 k t390 t394 true t398 t399)) = some r := H
 have A5 := Aside0.mk A50
 clear A50
 have HC6 := Aside0.mk H
 clear H
 go_enter Try.func9, Try.ntmps9
 go_upto_region 5 with (first | (go_at_call 13; (with_reducible refine (cutroomlaw28_made.calls k _ _ l0 9000 t387 _ ?side1 ?side2 A2.out).mono ?_); (case side1 => repeat (first | exact HR0.out | (with_reducible refine Kd.C_alloc ?_ _) | (with_reducible refine Kd.C_drewN ?_ _) | (with_reducible refine Kd.C_drew ?_))); (case side2 => exact HC0.out); rintro e w7 ⟨v388, rfl, ho0, hb⟩; have n0_ := Aside0.mk (Kd.S_lower ho0 (below_size (by repeat (first | (with_reducible first | exact HB.out | apply below_alloc | apply pw_below_drewN | apply below_drew1) | exact HB.out)))); have n1_ := Aside0.mk (below_step (by repeat (first | (with_reducible first | exact HB.out | apply below_alloc | apply pw_below_drewN | apply below_drew1) | exact HB.out)) hb); clear HB; have HO389 := n0_; have HB := n1_; clear n0_ n1_; (try clear hb); (try clear hb2); (try clear hk); (try clear hi); (try clear ho0); obtain ⟨Ao8, co8, eo8⟩ := Kd.S_slice HO389.out; subst eo8) | (go_at_call 14; (with_reducible refine (loudness_Powers.calls k _ _ t387 t390 t391 _ ?side1 ?side2 A3.out).mono ?_); (case side1 => repeat (first | exact (Kd.S_reads' HO389.out).2.2 | (with_reducible refine Kd.C_alloc ?_ _) | (with_reducible refine Kd.C_drewN ?_ _) | (with_reducible refine Kd.C_drew ?_))); (case side2 => exact (Kd.S_reads' HO389.out).2.1); rintro e w9 ⟨v392, rfl, ho0, hb⟩; have n0_ := Aside0.mk (Kd.S_below (by (with_reducible repeat (first | apply Kd.S_alloc | apply Kd.S_drewN | apply Kd.S_drew)); exact HO389.out) hb); have n1_ := Aside0.mk (Kd.R_lower ho0 (below_size (by repeat (first | (with_reducible first | exact HB.out | apply below_alloc | apply pw_below_drewN | apply below_drew1) | exact HB.out)))); have n2_ := Aside0.mk (below_step (by repeat (first | (with_reducible first | exact HB.out | apply below_alloc | apply pw_below_drewN | apply below_drew1) | exact HB.out)) hb); clear HO389; clear HB; have HO389 := n0_; have HO393 := n1_; have HB := n2_; clear n0_ n1_ n2_; (try clear hb); (try clear hb2); (try clear hk); (try clear hi); (try clear ho0)) | (go_at_call 20; (with_reducible refine (loudness_Gated.calls k _ _ t387 t394 t395 _ ?side1 ?side2 A4.out).mono ?_); (case side1 => repeat (first | exact (Kd.S_reads' HO389.out).2.2 | (with_reducible refine Kd.C_alloc ?_ _) | (with_reducible refine Kd.C_drewN ?_ _) | (with_reducible refine Kd.C_drew ?_))); (case side2 => exact (Kd.S_reads' HO389.out).2.1); rintro e w10 ⟨v396, rfl, ho0, hb⟩; have n0_ := Aside0.mk (Kd.S_below (by (with_reducible repeat (first | apply Kd.S_alloc | apply Kd.S_drewN | apply Kd.S_drew)); exact HO389.out) hb); have n1_ := Aside0.mk (Kd.R_below (by (with_reducible repeat (first | apply Kd.R_alloc | apply Kd.R_drewN | apply Kd.R_drew)); exact HO393.out) hb); have n2_ := Aside0.mk (Kd.R_lower ho0 (below_size (by repeat (first | (with_reducible first | exact HB.out | apply below_alloc | apply pw_below_drewN | apply below_drew1) | exact HB.out)))); have n3_ := Aside0.mk (below_step (by repeat (first | (with_reducible first | exact HB.out | apply below_alloc | apply pw_below_drewN | apply below_drew1) | exact HB.out)) hb); clear HO389; clear HO393; clear HB; have HO389 := n0_; have HO393 := n1_; have HO397 := n2_; have HB := n3_; clear n0_ n1_ n2_ n3_; (try clear hb); (try clear hb2); (try clear hk); (try clear hi); (try clear ho0)) | (go_at_call 22; (with_reducible refine (loudness_Measure.calls k _ _ t387 t398 t399 t400 _ ?side1 ?side2 A5.out).mono ?_); (case side1 => repeat (first | exact (Kd.S_reads' HO389.out).2.2 | (with_reducible refine Kd.C_alloc ?_ _) | (with_reducible refine Kd.C_drewN ?_ _) | (with_reducible refine Kd.C_drew ?_))); (case side2 => exact (Kd.S_reads' HO389.out).2.1); rintro e w11 ⟨rfl, hb⟩; have n0_ := Aside0.mk (Kd.S_below (by (with_reducible repeat (first | apply Kd.S_alloc | apply Kd.S_drewN | apply Kd.S_drew)); exact HO389.out) hb); have n1_ := Aside0.mk (Kd.R_below (by (with_reducible repeat (first | apply Kd.R_alloc | apply Kd.R_drewN | apply Kd.R_drew)); exact HO393.out) hb); have n2_ := Aside0.mk (Kd.R_below (by (with_reducible repeat (first | apply Kd.R_alloc | apply Kd.R_drewN | apply Kd.R_drew)); exact HO397.out) hb); have n3_ := Aside0.mk (below_step (by repeat (first | (with_reducible first | exact HB.out | apply below_alloc | apply pw_below_drewN | apply below_drew1) | exact HB.out)) hb); clear HO389; clear HO393; clear HO397; clear HB; have HO389 := n0_; have HO393 := n1_; have HO397 := n2_; have HB := n3_; clear n0_ n1_ n2_ n3_; (try clear hb); (try clear hb2); (try clear hk); (try clear hi)) | ((with_reducible refine gate_dst (N := 8) rfl ?_); (try (refine gate_guard (by rfl) ?_; dsimp only)); refine box_event ?hg (N := 8) ?hd (cs := #[.int .i64 0, .int .i64 0]) (t := 37) ?hr ?_; (case hd => rfl); (case hg => rfl); (case hr => first | (go_simp; done) | (go_simp; rfl)); intro gb401 hg w12 hbox hb; have n0_ := Aside0.mk (Kd.S_below (by (with_reducible repeat (first | apply Kd.S_alloc | apply Kd.S_drewN | apply Kd.S_drew)); exact HO389.out) hb); have n1_ := Aside0.mk (Kd.R_below (by (with_reducible repeat (first | apply Kd.R_alloc | apply Kd.R_drewN | apply Kd.R_drew)); exact HO393.out) hb); have n2_ := Aside0.mk (Kd.R_below (by (with_reducible repeat (first | apply Kd.R_alloc | apply Kd.R_drewN | apply Kd.R_drew)); exact HO397.out) hb); have n3_ := Aside0.mk (below_step (by repeat (first | (with_reducible first | exact HB.out | apply below_alloc | apply pw_below_drewN | apply below_drew1) | exact HB.out)) hb); have n4_ := Aside0.mk (hbox); have n5_ := Aside0.mk ((by rw [hg]; exact (below_size (by repeat (first | (with_reducible first | exact HB.out | apply below_alloc | apply pw_below_drewN | apply below_drew1) | exact HB.out))) : w.heap.size ≤ gb401)); have n6_ := Aside0.mk ((by rw [hg]; exact (below_size (by repeat (first | (with_reducible first | exact HB.out | apply below_alloc | apply pw_below_drewN | apply below_drew1) | exact HB.out))) : w.heap.size ≤ gb401)); clear HO389; clear HO393; clear HO397; clear HB; have HO389 := n0_; have HO393 := n1_; have HO397 := n2_; have HB := n3_; have BK401 := n4_; have GW401 := n5_; have GE401 := n6_; clear n0_ n1_ n2_ n3_ n4_ n5_ n6_; clear hb hbox hg; have hcz13_0 : w12.cell? ⟨gb401, 0, none⟩ = some (.int .i64 0) := (blk_cell BK401.out 0).trans rfl; have hcz13_1 : w12.cell? ⟨gb401, 1, none⟩ = some (.int .i64 0) := (blk_cell BK401.out 1).trans rfl; have hfz13_0 := blk_frozen BK401.out 0; have hfz13_1 := blk_frozen BK401.out 1))
 repeat (go_quiet (first | (go_at_call 13; (with_reducible refine (cutroomlaw28_made.calls k _ _ l0 9000 t387 _ ?side1 ?side2 A2.out).mono ?_); (case side1 => repeat (first | exact HR0.out | (with_reducible refine Kd.C_alloc ?_ _) | (with_reducible refine Kd.C_drewN ?_ _) | (with_reducible refine Kd.C_drew ?_))); (case side2 => exact HC0.out); rintro e w7 ⟨v388, rfl, ho0, hb⟩; have n0_ := Aside0.mk (Kd.S_lower ho0 (below_size (by repeat (first | (with_reducible first | exact HB.out | apply below_alloc | apply pw_below_drewN | apply below_drew1) | exact HB.out)))); have n1_ := Aside0.mk (below_step (by repeat (first | (with_reducible first | exact HB.out | apply below_alloc | apply pw_below_drewN | apply below_drew1) | exact HB.out)) hb); clear HB; have HO389 := n0_; have HB := n1_; clear n0_ n1_; (try clear hb); (try clear hb2); (try clear hk); (try clear hi); (try clear ho0); obtain ⟨Ao8, co8, eo8⟩ := Kd.S_slice HO389.out; subst eo8) | (go_at_call 14; (with_reducible refine (loudness_Powers.calls k _ _ t387 t390 t391 _ ?side1 ?side2 A3.out).mono ?_); (case side1 => repeat (first | exact (Kd.S_reads' HO389.out).2.2 | (with_reducible refine Kd.C_alloc ?_ _) | (with_reducible refine Kd.C_drewN ?_ _) | (with_reducible refine Kd.C_drew ?_))); (case side2 => exact (Kd.S_reads' HO389.out).2.1); rintro e w9 ⟨v392, rfl, ho0, hb⟩; have n0_ := Aside0.mk (Kd.S_below (by (with_reducible repeat (first | apply Kd.S_alloc | apply Kd.S_drewN | apply Kd.S_drew)); exact HO389.out) hb); have n1_ := Aside0.mk (Kd.R_lower ho0 (below_size (by repeat (first | (with_reducible first | exact HB.out | apply below_alloc | apply pw_below_drewN | apply below_drew1) | exact HB.out)))); have n2_ := Aside0.mk (below_step (by repeat (first | (with_reducible first | exact HB.out | apply below_alloc | apply pw_below_drewN | apply below_drew1) | exact HB.out)) hb); clear HO389; clear HB; have HO389 := n0_; have HO393 := n1_; have HB := n2_; clear n0_ n1_ n2_; (try clear hb); (try clear hb2); (try clear hk); (try clear hi); (try clear ho0)) | (go_at_call 20; (with_reducible refine (loudness_Gated.calls k _ _ t387 t394 t395 _ ?side1 ?side2 A4.out).mono ?_); (case side1 => repeat (first | exact (Kd.S_reads' HO389.out).2.2 | (with_reducible refine Kd.C_alloc ?_ _) | (with_reducible refine Kd.C_drewN ?_ _) | (with_reducible refine Kd.C_drew ?_))); (case side2 => exact (Kd.S_reads' HO389.out).2.1); rintro e w10 ⟨v396, rfl, ho0, hb⟩; have n0_ := Aside0.mk (Kd.S_below (by (with_reducible repeat (first | apply Kd.S_alloc | apply Kd.S_drewN | apply Kd.S_drew)); exact HO389.out) hb); have n1_ := Aside0.mk (Kd.R_below (by (with_reducible repeat (first | apply Kd.R_alloc | apply Kd.R_drewN | apply Kd.R_drew)); exact HO393.out) hb); have n2_ := Aside0.mk (Kd.R_lower ho0 (below_size (by repeat (first | (with_reducible first | exact HB.out | apply below_alloc | apply pw_below_drewN | apply below_drew1) | exact HB.out)))); have n3_ := Aside0.mk (below_step (by repeat (first | (with_reducible first | exact HB.out | apply below_alloc | apply pw_below_drewN | apply below_drew1) | exact HB.out)) hb); clear HO389; clear HO393; clear HB; have HO389 := n0_; have HO393 := n1_; have HO397 := n2_; have HB := n3_; clear n0_ n1_ n2_ n3_; (try clear hb); (try clear hb2); (try clear hk); (try clear hi); (try clear ho0)) | (go_at_call 22; (with_reducible refine (loudness_Measure.calls k _ _ t387 t398 t399 t400 _ ?side1 ?side2 A5.out).mono ?_); (case side1 => repeat (first | exact (Kd.S_reads' HO389.out).2.2 | (with_reducible refine Kd.C_alloc ?_ _) | (with_reducible refine Kd.C_drewN ?_ _) | (with_reducible refine Kd.C_drew ?_))); (case side2 => exact (Kd.S_reads' HO389.out).2.1); rintro e w11 ⟨rfl, hb⟩; have n0_ := Aside0.mk (Kd.S_below (by (with_reducible repeat (first | apply Kd.S_alloc | apply Kd.S_drewN | apply Kd.S_drew)); exact HO389.out) hb); have n1_ := Aside0.mk (Kd.R_below (by (with_reducible repeat (first | apply Kd.R_alloc | apply Kd.R_drewN | apply Kd.R_drew)); exact HO393.out) hb); have n2_ := Aside0.mk (Kd.R_below (by (with_reducible repeat (first | apply Kd.R_alloc | apply Kd.R_drewN | apply Kd.R_drew)); exact HO397.out) hb); have n3_ := Aside0.mk (below_step (by repeat (first | (with_reducible first | exact HB.out | apply below_alloc | apply pw_below_drewN | apply below_drew1) | exact HB.out)) hb); clear HO389; clear HO393; clear HO397; clear HB; have HO389 := n0_; have HO393 := n1_; have HO397 := n2_; have HB := n3_; clear n0_ n1_ n2_ n3_; (try clear hb); (try clear hb2); (try clear hk); (try clear hi)) | ((with_reducible refine gate_dst (N := 8) rfl ?_); (try (refine gate_guard (by rfl) ?_; dsimp only)); refine box_event ?hg (N := 8) ?hd (cs := #[.int .i64 0, .int .i64 0]) (t := 37) ?hr ?_; (case hd => rfl); (case hg => rfl); (case hr => first | (go_simp; done) | (go_simp; rfl)); intro gb401 hg w12 hbox hb; have n0_ := Aside0.mk (Kd.S_below (by (with_reducible repeat (first | apply Kd.S_alloc | apply Kd.S_drewN | apply Kd.S_drew)); exact HO389.out) hb); have n1_ := Aside0.mk (Kd.R_below (by (with_reducible repeat (first | apply Kd.R_alloc | apply Kd.R_drewN | apply Kd.R_drew)); exact HO393.out) hb); have n2_ := Aside0.mk (Kd.R_below (by (with_reducible repeat (first | apply Kd.R_alloc | apply Kd.R_drewN | apply Kd.R_drew)); exact HO397.out) hb); have n3_ := Aside0.mk (below_step (by repeat (first | (with_reducible first | exact HB.out | apply below_alloc | apply pw_below_drewN | apply below_drew1) | exact HB.out)) hb); have n4_ := Aside0.mk (hbox); have n5_ := Aside0.mk ((by rw [hg]; exact (below_size (by repeat (first | (with_reducible first | exact HB.out | apply below_alloc | apply pw_below_drewN | apply below_drew1) | exact HB.out))) : w.heap.size ≤ gb401)); have n6_ := Aside0.mk ((by rw [hg]; exact (below_size (by repeat (first | (with_reducible first | exact HB.out | apply below_alloc | apply pw_below_drewN | apply below_drew1) | exact HB.out))) : w.heap.size ≤ gb401)); clear HO389; clear HO393; clear HO397; clear HB; have HO389 := n0_; have HO393 := n1_; have HO397 := n2_; have HB := n3_; have BK401 := n4_; have GW401 := n5_; have GE401 := n6_; clear n0_ n1_ n2_ n3_ n4_ n5_ n6_; clear hb hbox hg; have hcz13_0 : w12.cell? ⟨gb401, 0, none⟩ = some (.int .i64 0) := (blk_cell BK401.out 0).trans rfl; have hcz13_1 : w12.cell? ⟨gb401, 1, none⟩ = some (.int .i64 0) := (blk_cell BK401.out 1).trans rfl; have hfz13_0 := blk_frozen BK401.out 0; have hfz13_1 := blk_frozen BK401.out 1)); go_upto_region 5 with (first | (go_at_call 13; (with_reducible refine (cutroomlaw28_made.calls k _ _ l0 9000 t387 _ ?side1 ?side2 A2.out).mono ?_); (case side1 => repeat (first | exact HR0.out | (with_reducible refine Kd.C_alloc ?_ _) | (with_reducible refine Kd.C_drewN ?_ _) | (with_reducible refine Kd.C_drew ?_))); (case side2 => exact HC0.out); rintro e w7 ⟨v388, rfl, ho0, hb⟩; have n0_ := Aside0.mk (Kd.S_lower ho0 (below_size (by repeat (first | (with_reducible first | exact HB.out | apply below_alloc | apply pw_below_drewN | apply below_drew1) | exact HB.out)))); have n1_ := Aside0.mk (below_step (by repeat (first | (with_reducible first | exact HB.out | apply below_alloc | apply pw_below_drewN | apply below_drew1) | exact HB.out)) hb); clear HB; have HO389 := n0_; have HB := n1_; clear n0_ n1_; (try clear hb); (try clear hb2); (try clear hk); (try clear hi); (try clear ho0); obtain ⟨Ao8, co8, eo8⟩ := Kd.S_slice HO389.out; subst eo8) | (go_at_call 14; (with_reducible refine (loudness_Powers.calls k _ _ t387 t390 t391 _ ?side1 ?side2 A3.out).mono ?_); (case side1 => repeat (first | exact (Kd.S_reads' HO389.out).2.2 | (with_reducible refine Kd.C_alloc ?_ _) | (with_reducible refine Kd.C_drewN ?_ _) | (with_reducible refine Kd.C_drew ?_))); (case side2 => exact (Kd.S_reads' HO389.out).2.1); rintro e w9 ⟨v392, rfl, ho0, hb⟩; have n0_ := Aside0.mk (Kd.S_below (by (with_reducible repeat (first | apply Kd.S_alloc | apply Kd.S_drewN | apply Kd.S_drew)); exact HO389.out) hb); have n1_ := Aside0.mk (Kd.R_lower ho0 (below_size (by repeat (first | (with_reducible first | exact HB.out | apply below_alloc | apply pw_below_drewN | apply below_drew1) | exact HB.out)))); have n2_ := Aside0.mk (below_step (by repeat (first | (with_reducible first | exact HB.out | apply below_alloc | apply pw_below_drewN | apply below_drew1) | exact HB.out)) hb); clear HO389; clear HB; have HO389 := n0_; have HO393 := n1_; have HB := n2_; clear n0_ n1_ n2_; (try clear hb); (try clear hb2); (try clear hk); (try clear hi); (try clear ho0)) | (go_at_call 20; (with_reducible refine (loudness_Gated.calls k _ _ t387 t394 t395 _ ?side1 ?side2 A4.out).mono ?_); (case side1 => repeat (first | exact (Kd.S_reads' HO389.out).2.2 | (with_reducible refine Kd.C_alloc ?_ _) | (with_reducible refine Kd.C_drewN ?_ _) | (with_reducible refine Kd.C_drew ?_))); (case side2 => exact (Kd.S_reads' HO389.out).2.1); rintro e w10 ⟨v396, rfl, ho0, hb⟩; have n0_ := Aside0.mk (Kd.S_below (by (with_reducible repeat (first | apply Kd.S_alloc | apply Kd.S_drewN | apply Kd.S_drew)); exact HO389.out) hb); have n1_ := Aside0.mk (Kd.R_below (by (with_reducible repeat (first | apply Kd.R_alloc | apply Kd.R_drewN | apply Kd.R_drew)); exact HO393.out) hb); have n2_ := Aside0.mk (Kd.R_lower ho0 (below_size (by repeat (first | (with_reducible first | exact HB.out | apply below_alloc | apply pw_below_drewN | apply below_drew1) | exact HB.out)))); have n3_ := Aside0.mk (below_step (by repeat (first | (with_reducible first | exact HB.out | apply below_alloc | apply pw_below_drewN | apply below_drew1) | exact HB.out)) hb); clear HO389; clear HO393; clear HB; have HO389 := n0_; have HO393 := n1_; have HO397 := n2_; have HB := n3_; clear n0_ n1_ n2_ n3_; (try clear hb); (try clear hb2); (try clear hk); (try clear hi); (try clear ho0)) | (go_at_call 22; (with_reducible refine (loudness_Measure.calls k _ _ t387 t398 t399 t400 _ ?side1 ?side2 A5.out).mono ?_); (case side1 => repeat (first | exact (Kd.S_reads' HO389.out).2.2 | (with_reducible refine Kd.C_alloc ?_ _) | (with_reducible refine Kd.C_drewN ?_ _) | (with_reducible refine Kd.C_drew ?_))); (case side2 => exact (Kd.S_reads' HO389.out).2.1); rintro e w11 ⟨rfl, hb⟩; have n0_ := Aside0.mk (Kd.S_below (by (with_reducible repeat (first | apply Kd.S_alloc | apply Kd.S_drewN | apply Kd.S_drew)); exact HO389.out) hb); have n1_ := Aside0.mk (Kd.R_below (by (with_reducible repeat (first | apply Kd.R_alloc | apply Kd.R_drewN | apply Kd.R_drew)); exact HO393.out) hb); have n2_ := Aside0.mk (Kd.R_below (by (with_reducible repeat (first | apply Kd.R_alloc | apply Kd.R_drewN | apply Kd.R_drew)); exact HO397.out) hb); have n3_ := Aside0.mk (below_step (by repeat (first | (with_reducible first | exact HB.out | apply below_alloc | apply pw_below_drewN | apply below_drew1) | exact HB.out)) hb); clear HO389; clear HO393; clear HO397; clear HB; have HO389 := n0_; have HO393 := n1_; have HO397 := n2_; have HB := n3_; clear n0_ n1_ n2_ n3_; (try clear hb); (try clear hb2); (try clear hk); (try clear hi)) | ((with_reducible refine gate_dst (N := 8) rfl ?_); (try (refine gate_guard (by rfl) ?_; dsimp only)); refine box_event ?hg (N := 8) ?hd (cs := #[.int .i64 0, .int .i64 0]) (t := 37) ?hr ?_; (case hd => rfl); (case hg => rfl); (case hr => first | (go_simp; done) | (go_simp; rfl)); intro gb401 hg w12 hbox hb; have n0_ := Aside0.mk (Kd.S_below (by (with_reducible repeat (first | apply Kd.S_alloc | apply Kd.S_drewN | apply Kd.S_drew)); exact HO389.out) hb); have n1_ := Aside0.mk (Kd.R_below (by (with_reducible repeat (first | apply Kd.R_alloc | apply Kd.R_drewN | apply Kd.R_drew)); exact HO393.out) hb); have n2_ := Aside0.mk (Kd.R_below (by (with_reducible repeat (first | apply Kd.R_alloc | apply Kd.R_drewN | apply Kd.R_drew)); exact HO397.out) hb); have n3_ := Aside0.mk (below_step (by repeat (first | (with_reducible first | exact HB.out | apply below_alloc | apply pw_below_drewN | apply below_drew1) | exact HB.out)) hb); have n4_ := Aside0.mk (hbox); have n5_ := Aside0.mk ((by rw [hg]; exact (below_size (by repeat (first | (with_reducible first | exact HB.out | apply below_alloc | apply pw_below_drewN | apply below_drew1) | exact HB.out))) : w.heap.size ≤ gb401)); have n6_ := Aside0.mk ((by rw [hg]; exact (below_size (by repeat (first | (with_reducible first | exact HB.out | apply below_alloc | apply pw_below_drewN | apply below_drew1) | exact HB.out))) : w.heap.size ≤ gb401)); clear HO389; clear HO393; clear HO397; clear HB; have HO389 := n0_; have HO393 := n1_; have HO397 := n2_; have HB := n3_; have BK401 := n4_; have GW401 := n5_; have GE401 := n6_; clear n0_ n1_ n2_ n3_ n4_ n5_ n6_; clear hb hbox hg; have hcz13_0 : w12.cell? ⟨gb401, 0, none⟩ = some (.int .i64 0) := (blk_cell BK401.out 0).trans rfl; have hcz13_1 : w12.cell? ⟨gb401, 1, none⟩ = some (.int .i64 0) := (blk_cell BK401.out 1).trans rfl; have hfz13_0 := blk_frozen BK401.out 0; have hfz13_1 := blk_frozen BK401.out 1)))
 (try simp only [Act.put, List.setIfInBounds_toArray, List.set_cons_zero, List.set_cons_succ])
 go_cut [41] (fun v41 wc => ∃ (kq : Nat) (x41_5 : Bool), v41 = .bool x41_5 ∧ Aside0 (cutroomlaw28_LoudnessQuiet.j0 kq t390 t394 x41_5 t398 t399 = some r) ∧ Aside0 (kq ≤ k) ∧ Aside0 (Kd.R (Kd.int .i64) 2 wc w.heap.size (fun _ => True) v392 t390) ∧ Aside0 (Kd.R (Kd.int .i64) 3 wc w.heap.size (fun _ => True) v396 t394) ∧ Aside0 (wc.heap[gb401]? = some (.cells #[.int .i64 t398, .int .i64 t399] 37 (0, 0))) ∧ Aside0 (Below w.heap.size w wc))
 case first =>
  have H := HC6.out
  clear HC6
  by_cases c14 : t391 = 0
  ·rw [if_pos c14] at H
   have c14b0 : (t391 == 0) = true := beq_iff_eq.mpr c14
   have c14b1 : (t391 != 0) = false := bne_eq_false_iff_eq.mpr c14
   clear c14
   (first | rw [c14b0] | (simp only [i64_w, i32_w]; rw [c14b0]) | skip)
   by_cases c15 : t395 = 0
   ·rw [if_pos c15] at H
    have c15b0 : (t395 == 0) = true := beq_iff_eq.mpr c15
    have c15b1 : (t395 != 0) = false := bne_eq_false_iff_eq.mpr c15
    clear c15
    have H' := Aside0.mk H
    clear H
    go_wp2
    repeat (go_quiet (fail); try go_wp2)
    go_meet
    case rel => exact ⟨_, ((t400 != 0)), (by first | rfl | (simp; done) | (simp [*]; done)), H', ⟨by first | omega | exact Nat.le_refl _⟩, ⟨by (with_reducible repeat (first | apply Kd.R_alloc | apply Kd.R_drewN | apply Kd.R_drew)); exact Kd.R_mono (Kd.R_far (p := ⟨gb401, 1, none⟩) (Kd.R_far (p := ⟨gb401, 0, none⟩) (Kd.R_types HO393.out BK401.out (by decide)) (fun _ hk => hk.2) (.int .i64 t398)) (fun _ hk => hk.2) (.int .i64 t399)) (fun _ hk => trivial)⟩, ⟨by (with_reducible repeat (first | apply Kd.R_alloc | apply Kd.R_drewN | apply Kd.R_drew)); exact Kd.R_mono (Kd.R_far (p := ⟨gb401, 1, none⟩) (Kd.R_far (p := ⟨gb401, 0, none⟩) (Kd.R_types HO397.out BK401.out (by decide)) (fun _ hk => hk.2) (.int .i64 t398)) (fun _ hk => hk.2) (.int .i64 t399)) (fun _ hk => trivial)⟩, ⟨by (with_reducible repeat (first | refine blk_drewN ?_ _ | refine blk_drew ?_ | refine blk_alloc ?_ _)); refine blk_put (cs := #[.int .i64 t398, .int .i64 0]) ?_ 1 _ rfl; (with_reducible repeat (first | refine blk_drewN ?_ _ | refine blk_drew ?_ | refine blk_alloc ?_ _)); refine blk_put (cs := #[.int .i64 0, .int .i64 0]) ?_ 0 _ rfl; (with_reducible repeat (first | refine blk_drewN ?_ _ | refine blk_drew ?_ | refine blk_alloc ?_ _)); exact BK401.out⟩, ⟨by repeat (first | (with_reducible first | exact HB.out | apply below_alloc | apply pw_below_drewN | apply below_drew1 | refine below_set ?_ GE401.out) | exact HB.out)⟩⟩
   ·rw [if_neg c15] at H
    have c15b0 : (t395 == 0) = false := beq_eq_false_iff_ne.mpr c15
    have c15b1 : (t395 != 0) = true := bne_iff_ne.mpr c15
    have H' := Aside0.mk H
    clear H
    go_wp2
    repeat (go_quiet (fail); try go_wp2)
    go_meet
    case rel => exact ⟨_, (true), (by first | rfl | (simp; done) | (simp [*]; done)), H', ⟨by first | omega | exact Nat.le_refl _⟩, ⟨by (with_reducible repeat (first | apply Kd.R_alloc | apply Kd.R_drewN | apply Kd.R_drew)); exact Kd.R_mono (Kd.R_far (p := ⟨gb401, 1, none⟩) (Kd.R_far (p := ⟨gb401, 0, none⟩) (Kd.R_types HO393.out BK401.out (by decide)) (fun _ hk => hk.2) (.int .i64 t398)) (fun _ hk => hk.2) (.int .i64 t399)) (fun _ hk => trivial)⟩, ⟨by (with_reducible repeat (first | apply Kd.R_alloc | apply Kd.R_drewN | apply Kd.R_drew)); exact Kd.R_mono (Kd.R_far (p := ⟨gb401, 1, none⟩) (Kd.R_far (p := ⟨gb401, 0, none⟩) (Kd.R_types HO397.out BK401.out (by decide)) (fun _ hk => hk.2) (.int .i64 t398)) (fun _ hk => hk.2) (.int .i64 t399)) (fun _ hk => trivial)⟩, ⟨by (with_reducible repeat (first | refine blk_drewN ?_ _ | refine blk_drew ?_ | refine blk_alloc ?_ _)); refine blk_put (cs := #[.int .i64 t398, .int .i64 0]) ?_ 1 _ rfl; (with_reducible repeat (first | refine blk_drewN ?_ _ | refine blk_drew ?_ | refine blk_alloc ?_ _)); refine blk_put (cs := #[.int .i64 0, .int .i64 0]) ?_ 0 _ rfl; (with_reducible repeat (first | refine blk_drewN ?_ _ | refine blk_drew ?_ | refine blk_alloc ?_ _)); exact BK401.out⟩, ⟨by repeat (first | (with_reducible first | exact HB.out | apply below_alloc | apply pw_below_drewN | apply below_drew1 | refine below_set ?_ GE401.out) | exact HB.out)⟩⟩
  ·rw [if_neg c14] at H
   have c14b0 : (t391 == 0) = false := beq_eq_false_iff_ne.mpr c14
   have c14b1 : (t391 != 0) = true := bne_iff_ne.mpr c14
   (first | rw [c14b0] | (simp only [i64_w, i32_w]; rw [c14b0]) | skip)
   have H' := Aside0.mk H
   clear H
   go_wp2
   repeat (go_quiet (fail); try go_wp2)
   go_meet
   case rel => exact ⟨_, (true), (by first | rfl | (simp; done) | (simp [*]; done)), H', ⟨by first | omega | exact Nat.le_refl _⟩, ⟨by (with_reducible repeat (first | apply Kd.R_alloc | apply Kd.R_drewN | apply Kd.R_drew)); exact Kd.R_mono (Kd.R_far (p := ⟨gb401, 1, none⟩) (Kd.R_far (p := ⟨gb401, 0, none⟩) (Kd.R_types HO393.out BK401.out (by decide)) (fun _ hk => hk.2) (.int .i64 t398)) (fun _ hk => hk.2) (.int .i64 t399)) (fun _ hk => trivial)⟩, ⟨by (with_reducible repeat (first | apply Kd.R_alloc | apply Kd.R_drewN | apply Kd.R_drew)); exact Kd.R_mono (Kd.R_far (p := ⟨gb401, 1, none⟩) (Kd.R_far (p := ⟨gb401, 0, none⟩) (Kd.R_types HO397.out BK401.out (by decide)) (fun _ hk => hk.2) (.int .i64 t398)) (fun _ hk => hk.2) (.int .i64 t399)) (fun _ hk => trivial)⟩, ⟨by (with_reducible repeat (first | refine blk_drewN ?_ _ | refine blk_drew ?_ | refine blk_alloc ?_ _)); refine blk_put (cs := #[.int .i64 t398, .int .i64 0]) ?_ 1 _ rfl; (with_reducible repeat (first | refine blk_drewN ?_ _ | refine blk_drew ?_ | refine blk_alloc ?_ _)); refine blk_put (cs := #[.int .i64 0, .int .i64 0]) ?_ 0 _ rfl; (with_reducible repeat (first | refine blk_drewN ?_ _ | refine blk_drew ?_ | refine blk_alloc ?_ _)); exact BK401.out⟩, ⟨by repeat (first | (with_reducible first | exact HB.out | apply below_alloc | apply pw_below_drewN | apply below_drew1 | refine below_set ?_ GE401.out) | exact HB.out)⟩⟩
 case rest =>
  clear HC6
  (try clear c1);(try clear p2);(try clear c9);(try clear c14);(try clear c14b0);(try clear c14b1);(try clear c15);(try clear c15b0);(try clear c15b1);(try clear hcz13_0);(try clear hcz13_1);(try clear hfz13_0);(try clear hfz13_1)
  obtain ⟨kq, x41_5, rfl, HA, HJ5, HO_4, HO_6, BK401, HB⟩ := hcut
  cases kq with
  | zero => exact absurd HA.out (by simp [cutroomlaw28_LoudnessQuiet.j0])
  | succ kj5 =>
   have H := HA.out
   clear HA
   simp only [cutroomlaw28_LoudnessQuiet.j0] at H
   by_cases c16 : x41_5 = true
   ·subst c16
    have H1 : (some false) = some r := by rw [if_pos rfl] at H; exact H
    clear H
    have H := H1
    clear H1
    obtain rfl := Option.some.inj H
    go_wp2
    repeat (go_quiet (fail); try go_wp2)
    go_ret
    exact ⟨by first | rfl | (simp [errW_none, errW_some] <;> rfl) | (simp [*, errW_none, errW_some] <;> rfl), by repeat (first | (with_reducible first | exact HB.out | apply below_alloc | apply pw_below_drewN | apply below_drew1 | refine below_set ?_ GE401.out) | exact HB.out)⟩
   ·replace c16 := Bool.eq_false_iff.mpr c16
    subst c16
    have H1 : (cutroomlaw28_LoudnessQuiet.l0 kj5 t390 t394 0 (t390.length : Int) 0 t398 t399) = some r := by rw [if_neg (show ¬ (false = true) by decide)] at H; exact H
    clear H
    have H := H1
    clear H1
    have H' := Aside0.mk H
    clear H
    obtain ⟨Ao17, co17, eo17⟩ := Kd.R_slice HO_4.out
    subst eo17
    go_wp2
    repeat (go_quiet (fail); try go_wp2)
    go_loopg [10, 44] kj5 (fun kq v10 v44 w' => ∃ (x10_2 : Int) (x44_2 : Int), v10 = .int .i64 x10_2 ∧ v44 = .int .i64 x44_2 ∧ Aside0 (cutroomlaw28_LoudnessQuiet.l0 kq t390 t394 x10_2 (t390.length : Int) x44_2 t398 t399 = some r) ∧ Aside0 (kq ≤ kj5) ∧ Aside0 (Kd.R (Kd.int .i64) 2 w' w.heap.size (fun _ => True) (.slice Ao17 t390.length co17) t390) ∧ Aside0 (Kd.R (Kd.int .i64) 3 w' w.heap.size (fun _ => True) v396 t394) ∧ Aside0 (w'.heap[gb401]? = some (.cells #[.int .i64 t398, .int .i64 t399] 37 (0, 0))) ∧ Aside0 (Below w.heap.size w w'))
    case atStart => exact ⟨(0), (0), (by first | rfl | (simp; done) | (simp [*]; done)), (by first | rfl | (simp; done) | (simp [*]; done)), H', ⟨Nat.le_refl _⟩, ⟨by (with_reducible repeat (first | apply Kd.R_alloc | apply Kd.R_drewN | apply Kd.R_drew)); exact HO_4.out⟩, ⟨by (with_reducible repeat (first | apply Kd.R_alloc | apply Kd.R_drewN | apply Kd.R_drew)); exact HO_6.out⟩, ⟨by (with_reducible repeat (first | refine blk_drewN ?_ _ | refine blk_drew ?_ | refine blk_alloc ?_ _)); exact BK401.out⟩, ⟨by repeat (first | (with_reducible first | exact HB.out | apply below_alloc | apply pw_below_drewN | apply below_drew1 | refine below_set ?_ GE401.out) | exact HB.out)⟩⟩
    case round =>
     clear H'
     (try clear c1);(try clear p2);(try clear c9);(try clear c14);(try clear c14b0);(try clear c14b1);(try clear c15);(try clear c15b0);(try clear c15b1);(try clear c16);(try clear hcz13_0);(try clear hcz13_1);(try clear hfz13_0);(try clear hfz13_1);(try clear p2)
     obtain ⟨x10_2, x44_2, rfl, rfl, HA, HK2, HO_4, HO_6, BK401, HB⟩ := hrel
     cases gk with
     | zero => exact absurd HA.out (by simp [cutroomlaw28_LoudnessQuiet.l0])
     | succ k2 =>
      have H := HA.out
      clear HA
      simp only [cutroomlaw28_LoudnessQuiet.l0] at H
      by_cases c18 : x44_2 < (t390.length : Int)
      ·rw [if_pos c18] at H
       have c18b0 : decide (x44_2 < (t390.length : Int)) = true := decide_eq_true c18
       clear c18
       by_cases c19 : 0 ≤ x44_2
       ·rw [if_pos c19] at H
        have c19b0 : decide (0 ≤ x44_2) = true := decide_eq_true c19
        clear c19
        by_cases c20 : x44_2 < (t390.length : Int)
        ·rw [if_pos c20] at H
         have c20b0 : decide (x44_2 < (t390.length : Int)) = true := decide_eq_true c20
         clear c20
         obtain ⟨ji21, hji21⟩ : ∃ j_ : Int, (mx x10_2 (rd t390 x44_2)) = j_ := ⟨_, rfl⟩
         replace H : (cutroomlaw28_LoudnessQuiet.l0 k2 t390 t394 ji21 (t390.length : Int) (wrap64 (x44_2 + 1)) t398 t399) = some r := by first | (rw [hji21] at H; exact H) | (simp only [hji21] at H ⊢; exact H)
         have hji21_ : (if x10_2 < (rd t390 x44_2) then (rd t390 x44_2) else x10_2) = ji21 := hji21
         have H' := Aside0.mk H
         clear H
         have p402 : 0 ≤ (x44_2 : Int) := of_decide_eq_true (by first | (with_reducible assumption) | assumption)
         have q402 : x44_2 < (t390.length : Int) := of_decide_eq_true (by first | (with_reducible assumption) | assumption)
         obtain ⟨ad402, e402, hx402_0⟩ := Kd.at_int (Kd.R_reads' HO_4.out).2.2 x44_2 p402 q402
         cases e402
         replace p402 := eq_true p402
         replace q402 := eq_true q402
         go_wp2
         repeat (go_quiet (fail); try go_wp2)
         go_roundg k2
         case measure => have := HJ5.out; have := HK2.out; omega
         case rel => exact ⟨(ji21), (wrap64 (x44_2 + 1)), (by first | rfl | (simp; done) | (simp only [← hji21] <;> (first | rfl | simp)) | (simp [*]; done)), (by first | rfl | (simp; done) | (simp [*]; done)), H', ⟨by have := HJ5.out; have := HK2.out; omega⟩, ⟨by (with_reducible repeat (first | apply Kd.R_alloc | apply Kd.R_drewN | apply Kd.R_drew)); exact HO_4.out⟩, ⟨by (with_reducible repeat (first | apply Kd.R_alloc | apply Kd.R_drewN | apply Kd.R_drew)); exact HO_6.out⟩, ⟨by (with_reducible repeat (first | refine blk_drewN ?_ _ | refine blk_drew ?_ | refine blk_alloc ?_ _)); exact BK401.out⟩, ⟨by repeat (first | (with_reducible first | exact HB.out | apply below_alloc | apply pw_below_drewN | apply below_drew1 | refine below_set ?_ GE401.out) | exact HB.out)⟩⟩
        ·rw [if_neg c20] at H
         exact absurd H (by simp)
       ·rw [if_neg c19] at H
        exact absurd H (by simp)
      ·rw [if_neg c18] at H
       have c18b0 : decide (x44_2 < (t390.length : Int)) = false := decide_eq_false c18
       clear c18
       by_cases c22 : (t394.length : Int) = 0
       ·rw [if_pos c22] at H
        have c22b0 : ((t394.length : Int) == 0) = true := beq_iff_eq.mpr c22
        have c22b1 : ((t394.length : Int) != 0) = false := bne_eq_false_iff_eq.mpr c22
        clear c22
        by_cases c23 : x10_2 < 30720
        ·rw [if_pos c23] at H
         have c23b0 : decide (x10_2 < 30720) = true := decide_eq_true c23
         clear c23
         by_cases c24 : (t398 == 0 && (t399 == 1)) = true
         ·rw [if_pos c24] at H
          have c24b0 : (t398 == 0 && (t399 == 1)) = true := c24
          (try (have c24b1 : decide (t398 = 0 && (t399 == 1)) = true := by simpa using c24))
          (try (have c24b2 : (t398 == 0 && (t399 == 1)) = true := by simpa using c24))
          clear c24
          replace H := Option.bind_eq_some_iff.mp H
          obtain ⟨t403, A250, H⟩ := H
          replace H : (some t403) = some r := H
          have A25 := Aside0.mk A250
          clear A250
          obtain rfl := Option.some.inj H
          obtain ⟨Ao26, co26, eo26⟩ := Kd.R_slice HO_6.out
          subst eo26
          have hcz27_0 : wr.cell? ⟨gb401, 0, none⟩ = some (.int .i64 t398) := (blk_cell BK401.out 0).trans rfl
          have hcz27_1 : wr.cell? ⟨gb401, 1, none⟩ = some (.int .i64 t399) := (blk_cell BK401.out 1).trans rfl
          have hfz27_0 := blk_frozen BK401.out 0
          have hfz27_1 := blk_frozen BK401.out 1
          go_wp2_with (first | (go_at_call 19; (with_reducible refine (cutroomlaw28_awake.calls k2  t403 _ A25.out).mono ?_); rintro e w28 ⟨rfl, hb⟩; have n0_ := Aside0.mk (Kd.R_below (by (with_reducible repeat (first | apply Kd.R_alloc | apply Kd.R_drewN | apply Kd.R_drew)); exact HO_4.out) hb); have n1_ := Aside0.mk (Kd.R_below (by (with_reducible repeat (first | apply Kd.R_alloc | apply Kd.R_drewN | apply Kd.R_drew)); exact HO_6.out) hb); have n2_ := Aside0.mk (blk_below (g := gb401) (o := .cells #[.int .i64 t398, .int .i64 t399] 37 (0, 0)) (by (with_reducible repeat (first | refine blk_drewN ?_ _ | refine blk_drew ?_ | refine blk_alloc ?_ _)); exact BK401.out) hb); have n3_ := Aside0.mk (below_step (by repeat (first | (with_reducible first | exact HB.out | apply below_alloc | apply pw_below_drewN | apply below_drew1 | refine below_set ?_ GE401.out) | exact HB.out)) hb); clear HO_4; clear HO_6; clear BK401; clear HB; have HO_4 := n0_; have HO_6 := n1_; have BK401 := n2_; have HB := n3_; clear n0_ n1_ n2_ n3_; (try clear hb); (try clear hb2); (try clear hk); (try clear hi)))
          repeat (go_quiet (first | (go_at_call 19; (with_reducible refine (cutroomlaw28_awake.calls k2  t403 _ A25.out).mono ?_); rintro e w28 ⟨rfl, hb⟩; have n0_ := Aside0.mk (Kd.R_below (by (with_reducible repeat (first | apply Kd.R_alloc | apply Kd.R_drewN | apply Kd.R_drew)); exact HO_4.out) hb); have n1_ := Aside0.mk (Kd.R_below (by (with_reducible repeat (first | apply Kd.R_alloc | apply Kd.R_drewN | apply Kd.R_drew)); exact HO_6.out) hb); have n2_ := Aside0.mk (blk_below (g := gb401) (o := .cells #[.int .i64 t398, .int .i64 t399] 37 (0, 0)) (by (with_reducible repeat (first | refine blk_drewN ?_ _ | refine blk_drew ?_ | refine blk_alloc ?_ _)); exact BK401.out) hb); have n3_ := Aside0.mk (below_step (by repeat (first | (with_reducible first | exact HB.out | apply below_alloc | apply pw_below_drewN | apply below_drew1 | refine below_set ?_ GE401.out) | exact HB.out)) hb); clear HO_4; clear HO_6; clear BK401; clear HB; have HO_4 := n0_; have HO_6 := n1_; have BK401 := n2_; have HB := n3_; clear n0_ n1_ n2_ n3_; (try clear hb); (try clear hb2); (try clear hk); (try clear hi))); try go_wp2_with (first | (go_at_call 19; (with_reducible refine (cutroomlaw28_awake.calls k2  t403 _ A25.out).mono ?_); rintro e w28 ⟨rfl, hb⟩; have n0_ := Aside0.mk (Kd.R_below (by (with_reducible repeat (first | apply Kd.R_alloc | apply Kd.R_drewN | apply Kd.R_drew)); exact HO_4.out) hb); have n1_ := Aside0.mk (Kd.R_below (by (with_reducible repeat (first | apply Kd.R_alloc | apply Kd.R_drewN | apply Kd.R_drew)); exact HO_6.out) hb); have n2_ := Aside0.mk (blk_below (g := gb401) (o := .cells #[.int .i64 t398, .int .i64 t399] 37 (0, 0)) (by (with_reducible repeat (first | refine blk_drewN ?_ _ | refine blk_drew ?_ | refine blk_alloc ?_ _)); exact BK401.out) hb); have n3_ := Aside0.mk (below_step (by repeat (first | (with_reducible first | exact HB.out | apply below_alloc | apply pw_below_drewN | apply below_drew1 | refine below_set ?_ GE401.out) | exact HB.out)) hb); clear HO_4; clear HO_6; clear BK401; clear HB; have HO_4 := n0_; have HO_6 := n1_; have BK401 := n2_; have HB := n3_; clear n0_ n1_ n2_ n3_; (try clear hb); (try clear hb2); (try clear hk); (try clear hi))))
          go_ret
          exact ⟨by first | rfl | (simp [errW_none, errW_some] <;> rfl) | (simp [*, errW_none, errW_some] <;> rfl), by repeat (first | (with_reducible first | exact HB.out | apply below_alloc | apply pw_below_drewN | apply below_drew1 | refine below_set ?_ GE401.out) | exact HB.out)⟩
         ·rw [if_neg c24] at H
          have c24b0 : (t398 == 0 && (t399 == 1)) = false := by simpa using c24
          (try (have c24b1 : decide (t398 = 0 && (t399 == 1)) = false := by simpa using c24))
          (try (have c24b2 : (t398 == 0 && (t399 == 1)) = false := by simpa using c24))
          (try (have c24b3 : ¬ (t398 = 0 && (t399 == 1)) := by simpa using c24))
          clear c24
          obtain rfl := Option.some.inj H
          obtain ⟨Ao29, co29, eo29⟩ := Kd.R_slice HO_6.out
          subst eo29
          have hcz30_0 : wr.cell? ⟨gb401, 0, none⟩ = some (.int .i64 t398) := (blk_cell BK401.out 0).trans rfl
          have hcz30_1 : wr.cell? ⟨gb401, 1, none⟩ = some (.int .i64 t399) := (blk_cell BK401.out 1).trans rfl
          have hfz30_0 := blk_frozen BK401.out 0
          have hfz30_1 := blk_frozen BK401.out 1
          go_wp2
          repeat (go_quiet (fail); try go_wp2)
          go_ret
          exact ⟨by first | rfl | (simp [errW_none, errW_some] <;> rfl) | (simp [*, errW_none, errW_some] <;> rfl), by repeat (first | (with_reducible first | exact HB.out | apply below_alloc | apply pw_below_drewN | apply below_drew1 | refine below_set ?_ GE401.out) | exact HB.out)⟩
        ·rw [if_neg c23] at H
         have c23b0 : decide (x10_2 < 30720) = false := decide_eq_false c23
         clear c23
         obtain rfl := Option.some.inj H
         obtain ⟨Ao31, co31, eo31⟩ := Kd.R_slice HO_6.out
         subst eo31
         go_wp2
         repeat (go_quiet (fail); try go_wp2)
         go_ret
         exact ⟨by first | rfl | (simp [errW_none, errW_some] <;> rfl) | (simp [*, errW_none, errW_some] <;> rfl), by repeat (first | (with_reducible first | exact HB.out | apply below_alloc | apply pw_below_drewN | apply below_drew1 | refine below_set ?_ GE401.out) | exact HB.out)⟩
       ·rw [if_neg c22] at H
        have c22b0 : ((t394.length : Int) == 0) = false := beq_eq_false_iff_ne.mpr c22
        have c22b1 : ((t394.length : Int) != 0) = true := bne_iff_ne.mpr c22
        have c22b2 : ¬ (t394 = []) := fun h_ => c22 (by rw [h_]; rfl)
        have H' := Aside0.mk H
        clear H
        obtain ⟨Ao32, co32, eo32⟩ := Kd.R_slice HO_6.out
        subst eo32
        go_wp2
        repeat (go_quiet (fail); try go_wp2)
        go_loopg [12, 13, 69] k2 (fun kq v12 v13 v69 w' => ∃ (x12_3 : Int) (x13_3 : Int) (x69_3 : Int), v12 = .int .i64 x12_3 ∧ v13 = .int .i64 x13_3 ∧ v69 = .int .i64 x69_3 ∧ Aside0 (cutroomlaw28_LoudnessQuiet.l1 kq t390 t394 x10_2 x12_3 x13_3 (t394.length : Int) x69_3 t398 t399 = some r) ∧ Aside0 (kq ≤ k2) ∧ Aside0 (Kd.R (Kd.int .i64) 2 w' w.heap.size (fun _ => True) (.slice Ao17 t390.length co17) t390) ∧ Aside0 (Kd.R (Kd.int .i64) 3 w' w.heap.size (fun _ => True) (.slice Ao32 t394.length co32) t394) ∧ Aside0 (w'.heap[gb401]? = some (.cells #[.int .i64 t398, .int .i64 t399] 37 (0, 0))) ∧ Aside0 (Below w.heap.size w w'))
        case atStart => exact ⟨(4611686018427387904), (0), (0), (by first | rfl | (simp; done) | (simp [*]; done)), (by first | rfl | (simp; done) | (simp [*]; done)), (by first | rfl | (simp; done) | (simp [*]; done)), H', ⟨Nat.le_refl _⟩, ⟨by (with_reducible repeat (first | apply Kd.R_alloc | apply Kd.R_drewN | apply Kd.R_drew)); exact HO_4.out⟩, ⟨by (with_reducible repeat (first | apply Kd.R_alloc | apply Kd.R_drewN | apply Kd.R_drew)); exact HO_6.out⟩, ⟨by (with_reducible repeat (first | refine blk_drewN ?_ _ | refine blk_drew ?_ | refine blk_alloc ?_ _)); exact BK401.out⟩, ⟨by repeat (first | (with_reducible first | exact HB.out | apply below_alloc | apply pw_below_drewN | apply below_drew1 | refine below_set ?_ GE401.out) | exact HB.out)⟩⟩
        case round =>
         clear H'
         (try clear c1);(try clear c2);(try clear p2);(try clear p4);(try clear q4);(try clear hx4);(try clear p6);(try clear c9);(try clear c14);(try clear c14b0);(try clear c14b1);(try clear c15);(try clear c15b0);(try clear c15b1);(try clear c16);(try clear c18);(try clear c18b0);(try clear c19);(try clear c19b0);(try clear c20);(try clear c20b0);(try clear c22);(try clear c22b0);(try clear c22b1);(try clear c22b2);(try clear c23);(try clear c23b0);(try clear c24);(try clear c24b0);(try clear c24b1);(try clear c24b2);(try clear hcz13_0);(try clear hcz13_1);(try clear hcz27_0);(try clear hcz27_1);(try clear hcz30_0);(try clear hcz30_1);(try clear hfz13_0);(try clear hfz13_1);(try clear hfz27_0);(try clear hfz27_1);(try clear hfz30_0);(try clear hfz30_1);(try clear hx402_0);(try clear p2);(try clear p402);(try clear q402)
         obtain ⟨x12_3, x13_3, x69_3, rfl, rfl, rfl, HA, HK3, HO_4, HO_6, BK401, HB⟩ := hrel
         cases gk with
         | zero => exact absurd HA.out (by simp [cutroomlaw28_LoudnessQuiet.l1])
         | succ k3 =>
          have H := HA.out
          clear HA
          simp only [cutroomlaw28_LoudnessQuiet.l1] at H
          by_cases c33 : x69_3 < (t394.length : Int)
          ·rw [if_pos c33] at H
           have c33b0 : decide (x69_3 < (t394.length : Int)) = true := decide_eq_true c33
           clear c33
           by_cases c34 : 0 ≤ x69_3
           ·rw [if_pos c34] at H
            have c34b0 : decide (0 ≤ x69_3) = true := decide_eq_true c34
            clear c34
            by_cases c35 : x69_3 < (t394.length : Int)
            ·rw [if_pos c35] at H
             have c35b0 : decide (x69_3 < (t394.length : Int)) = true := decide_eq_true c35
             clear c35
             by_cases c36 : (rd t394 x69_3) < 0
             ·rw [if_pos c36] at H
              have c36b0 : decide ((rd t394 x69_3) < 0) = true := decide_eq_true c36
              clear c36
              obtain rfl := Option.some.inj H
              have p404 : 0 ≤ (x69_3 : Int) := of_decide_eq_true (by first | (with_reducible assumption) | assumption)
              have q404 : x69_3 < (t394.length : Int) := of_decide_eq_true (by first | (with_reducible assumption) | assumption)
              obtain ⟨ad404, e404, hx404_0⟩ := Kd.at_int (Kd.R_reads' HO_6.out).2.2 x69_3 p404 q404
              cases e404
              replace p404 := eq_true p404
              replace q404 := eq_true q404
              go_wp2
              repeat (go_quiet (fail); try go_wp2)
              go_ret
              exact ⟨by first | rfl | (simp [errW_none, errW_some] <;> rfl) | (simp [*, errW_none, errW_some] <;> rfl), by repeat (first | (with_reducible first | exact HB.out | apply below_alloc | apply pw_below_drewN | apply below_drew1 | refine below_set ?_ GE401.out) | exact HB.out)⟩
             ·rw [if_neg c36] at H
              have c36b0 : decide ((rd t394 x69_3) < 0) = false := decide_eq_false c36
              clear c36
              by_cases c37 : (rd t394 x69_3) ≥ (t390.length : Int)
              ·rw [if_pos c37] at H
               have c37b0 : decide ((t390.length : Int) ≤ (rd t394 x69_3)) = true := decide_eq_true c37
               clear c37
               obtain rfl := Option.some.inj H
               have p404 : 0 ≤ (x69_3 : Int) := of_decide_eq_true (by first | (with_reducible assumption) | assumption)
               have q404 : x69_3 < (t394.length : Int) := of_decide_eq_true (by first | (with_reducible assumption) | assumption)
               obtain ⟨ad404, e404, hx404_0⟩ := Kd.at_int (Kd.R_reads' HO_6.out).2.2 x69_3 p404 q404
               cases e404
               replace p404 := eq_true p404
               replace q404 := eq_true q404
               have p405 : 0 ≤ (x69_3 : Int) := of_decide_eq_true (by first | (with_reducible assumption) | assumption)
               have q405 : x69_3 < (t394.length : Int) := of_decide_eq_true (by first | (with_reducible assumption) | assumption)
               obtain ⟨ad405, e405, hx405_0⟩ := Kd.at_int (Kd.R_reads' HO_6.out).2.2 x69_3 p405 q405
               obtain rfl : ad404 = ad405 := (by injection e405)
               replace p405 := eq_true p405
               replace q405 := eq_true q405
               go_wp2
               repeat (go_quiet (fail); try go_wp2)
               go_ret
               exact ⟨by first | rfl | (simp [errW_none, errW_some] <;> rfl) | (simp [*, errW_none, errW_some] <;> rfl), by repeat (first | (with_reducible first | exact HB.out | apply below_alloc | apply pw_below_drewN | apply below_drew1 | refine below_set ?_ GE401.out) | exact HB.out)⟩
              ·rw [if_neg c37] at H
               have c37b0 : decide ((t390.length : Int) ≤ (rd t394 x69_3)) = false := decide_eq_false c37
               clear c37
               by_cases c38 : x69_3 > 0
               ·rw [if_pos c38] at H
                have c38b0 : decide (0 < x69_3) = true := decide_eq_true c38
                clear c38
                obtain ⟨ji39, hji39⟩ : ∃ j_ : Int, (wrap64 (x69_3 - 1)) = j_ := ⟨_, rfl⟩
                replace H : (if 0 ≤ (ji39) then (if (ji39) < (t394.length : Int) then (if (rd t394 x69_3) ≤ (rd t394 (ji39)) then (some false) else (if 0 ≤ (rd t394 x69_3) then (if (rd t394 x69_3) < (t390.length : Int) then (if (rd t390 (rd t394 x69_3)) < 30720 then (some false) else (cutroomlaw28_LoudnessQuiet.l1 k3 t390 t394 x10_2 (mn x12_3 (rd t390 (rd t394 x69_3))) (mx x13_3 (rd t390 (rd t394 x69_3))) (t394.length : Int) (wrap64 (x69_3 + 1)) t398 t399)) else (none)) else (none))) else (none)) else (none)) = some r := by first | (rw [hji39] at H; exact H) | (simp only [hji39] at H ⊢; exact H)
                have hji39w : (IntKind.i64.wrap (x69_3 - 1)) = ji39 := (i64_w _).trans hji39
                by_cases c40 : 0 ≤ (ji39)
                ·rw [if_pos c40] at H
                 have c40b0 : decide (0 ≤ (ji39)) = true := decide_eq_true c40
                 clear c40
                 by_cases c41 : (ji39) < (t394.length : Int)
                 ·rw [if_pos c41] at H
                  have c41b0 : decide ((ji39) < (t394.length : Int)) = true := decide_eq_true c41
                  clear c41
                  by_cases c42 : (rd t394 x69_3) ≤ (rd t394 (ji39))
                  ·rw [if_pos c42] at H
                   have c42b0 : decide ((rd t394 x69_3) ≤ (rd t394 (ji39))) = true := decide_eq_true c42
                   clear c42
                   obtain rfl := Option.some.inj H
                   have p404 : 0 ≤ (x69_3 : Int) := of_decide_eq_true (by first | (with_reducible assumption) | assumption)
                   have q404 : x69_3 < (t394.length : Int) := of_decide_eq_true (by first | (with_reducible assumption) | assumption)
                   obtain ⟨ad404, e404, hx404_0⟩ := Kd.at_int (Kd.R_reads' HO_6.out).2.2 x69_3 p404 q404
                   cases e404
                   replace p404 := eq_true p404
                   replace q404 := eq_true q404
                   have p405 : 0 ≤ (x69_3 : Int) := of_decide_eq_true (by first | (with_reducible assumption) | assumption)
                   have q405 : x69_3 < (t394.length : Int) := of_decide_eq_true (by first | (with_reducible assumption) | assumption)
                   obtain ⟨ad405, e405, hx405_0⟩ := Kd.at_int (Kd.R_reads' HO_6.out).2.2 x69_3 p405 q405
                   obtain rfl : ad404 = ad405 := (by injection e405)
                   replace p405 := eq_true p405
                   replace q405 := eq_true q405
                   have p406 : 0 ≤ (x69_3 : Int) := of_decide_eq_true (by first | (with_reducible assumption) | assumption)
                   have q406 : x69_3 < (t394.length : Int) := of_decide_eq_true (by first | (with_reducible assumption) | assumption)
                   obtain ⟨ad406, e406, hx406_0⟩ := Kd.at_int (Kd.R_reads' HO_6.out).2.2 x69_3 p406 q406
                   obtain rfl : ad404 = ad406 := (by injection e406)
                   replace p406 := eq_true p406
                   replace q406 := eq_true q406
                   have p407 : 0 ≤ ((ji39) : Int) := of_decide_eq_true (by first | (with_reducible assumption) | assumption)
                   have q407 : (ji39) < (t394.length : Int) := of_decide_eq_true (by first | (with_reducible assumption) | assumption)
                   obtain ⟨ad407, e407, hx407_0⟩ := Kd.at_int (Kd.R_reads' HO_6.out).2.2 (ji39) p407 q407
                   obtain rfl : ad404 = ad407 := (by injection e407)
                   replace p407 := eq_true p407
                   replace q407 := eq_true q407
                   go_wp2
                   repeat (go_quiet (fail); try go_wp2)
                   go_ret
                   exact ⟨by first | rfl | (simp [errW_none, errW_some] <;> rfl) | (simp only [← hji39]; first | rfl | (simp [errW_none, errW_some] <;> rfl)) | (simp [*, errW_none, errW_some] <;> rfl), by repeat (first | (with_reducible first | exact HB.out | apply below_alloc | apply pw_below_drewN | apply below_drew1 | refine below_set ?_ GE401.out) | exact HB.out)⟩
                  ·rw [if_neg c42] at H
                   have c42b0 : decide ((rd t394 x69_3) ≤ (rd t394 (ji39))) = false := decide_eq_false c42
                   clear c42
                   by_cases c43 : 0 ≤ (rd t394 x69_3)
                   ·rw [if_pos c43] at H
                    have c43b0 : decide (0 ≤ (rd t394 x69_3)) = true := decide_eq_true c43
                    clear c43
                    by_cases c44 : (rd t394 x69_3) < (t390.length : Int)
                    ·rw [if_pos c44] at H
                     have c44b0 : decide ((rd t394 x69_3) < (t390.length : Int)) = true := decide_eq_true c44
                     clear c44
                     by_cases c45 : (rd t390 (rd t394 x69_3)) < 30720
                     ·rw [if_pos c45] at H
                      have c45b0 : decide ((rd t390 (rd t394 x69_3)) < 30720) = true := decide_eq_true c45
                      clear c45
                      obtain rfl := Option.some.inj H
                      have p404 : 0 ≤ (x69_3 : Int) := of_decide_eq_true (by first | (with_reducible assumption) | assumption)
                      have q404 : x69_3 < (t394.length : Int) := of_decide_eq_true (by first | (with_reducible assumption) | assumption)
                      obtain ⟨ad404, e404, hx404_0⟩ := Kd.at_int (Kd.R_reads' HO_6.out).2.2 x69_3 p404 q404
                      cases e404
                      replace p404 := eq_true p404
                      replace q404 := eq_true q404
                      have p405 : 0 ≤ (x69_3 : Int) := of_decide_eq_true (by first | (with_reducible assumption) | assumption)
                      have q405 : x69_3 < (t394.length : Int) := of_decide_eq_true (by first | (with_reducible assumption) | assumption)
                      obtain ⟨ad405, e405, hx405_0⟩ := Kd.at_int (Kd.R_reads' HO_6.out).2.2 x69_3 p405 q405
                      obtain rfl : ad404 = ad405 := (by injection e405)
                      replace p405 := eq_true p405
                      replace q405 := eq_true q405
                      have p406 : 0 ≤ (x69_3 : Int) := of_decide_eq_true (by first | (with_reducible assumption) | assumption)
                      have q406 : x69_3 < (t394.length : Int) := of_decide_eq_true (by first | (with_reducible assumption) | assumption)
                      obtain ⟨ad406, e406, hx406_0⟩ := Kd.at_int (Kd.R_reads' HO_6.out).2.2 x69_3 p406 q406
                      obtain rfl : ad404 = ad406 := (by injection e406)
                      replace p406 := eq_true p406
                      replace q406 := eq_true q406
                      have p407 : 0 ≤ ((ji39) : Int) := of_decide_eq_true (by first | (with_reducible assumption) | assumption)
                      have q407 : (ji39) < (t394.length : Int) := of_decide_eq_true (by first | (with_reducible assumption) | assumption)
                      obtain ⟨ad407, e407, hx407_0⟩ := Kd.at_int (Kd.R_reads' HO_6.out).2.2 (ji39) p407 q407
                      obtain rfl : ad404 = ad407 := (by injection e407)
                      replace p407 := eq_true p407
                      replace q407 := eq_true q407
                      have p408 : 0 ≤ (x69_3 : Int) := of_decide_eq_true (by first | (with_reducible assumption) | assumption)
                      have q408 : x69_3 < (t394.length : Int) := of_decide_eq_true (by first | (with_reducible assumption) | assumption)
                      obtain ⟨ad408, e408, hx408_0⟩ := Kd.at_int (Kd.R_reads' HO_6.out).2.2 x69_3 p408 q408
                      obtain rfl : ad404 = ad408 := (by injection e408)
                      replace p408 := eq_true p408
                      replace q408 := eq_true q408
                      have p409 : 0 ≤ ((rd t394 x69_3) : Int) := of_decide_eq_true (by first | (with_reducible assumption) | assumption)
                      have q409 : (rd t394 x69_3) < (t390.length : Int) := of_decide_eq_true (by first | (with_reducible assumption) | assumption)
                      obtain ⟨ad409, e409, hx409_0⟩ := Kd.at_int (Kd.R_reads' HO_4.out).2.2 (rd t394 x69_3) p409 q409
                      cases e409
                      replace p409 := eq_true p409
                      replace q409 := eq_true q409
                      go_wp2
                      repeat (go_quiet (fail); try go_wp2)
                      go_ret
                      exact ⟨by first | rfl | (simp [errW_none, errW_some] <;> rfl) | (simp only [← hji39]; first | rfl | (simp [errW_none, errW_some] <;> rfl)) | (simp [*, errW_none, errW_some] <;> rfl), by repeat (first | (with_reducible first | exact HB.out | apply below_alloc | apply pw_below_drewN | apply below_drew1 | refine below_set ?_ GE401.out) | exact HB.out)⟩
                     ·rw [if_neg c45] at H
                      have c45b0 : decide ((rd t390 (rd t394 x69_3)) < 30720) = false := decide_eq_false c45
                      clear c45
                      obtain ⟨ji46, hji46⟩ : ∃ j_ : Int, (mn x12_3 (rd t390 (rd t394 x69_3))) = j_ := ⟨_, rfl⟩
                      replace H : (cutroomlaw28_LoudnessQuiet.l1 k3 t390 t394 x10_2 ji46 (mx x13_3 (rd t390 (rd t394 x69_3))) (t394.length : Int) (wrap64 (x69_3 + 1)) t398 t399) = some r := by first | (rw [hji46] at H; exact H) | (simp only [hji46] at H ⊢; exact H)
                      have hji46_ : (if (rd t390 (rd t394 x69_3)) < x12_3 then (rd t390 (rd t394 x69_3)) else x12_3) = ji46 := hji46
                      obtain ⟨ji47, hji47⟩ : ∃ j_ : Int, (mx x13_3 (rd t390 (rd t394 x69_3))) = j_ := ⟨_, rfl⟩
                      replace H : (cutroomlaw28_LoudnessQuiet.l1 k3 t390 t394 x10_2 ji46 ji47 (t394.length : Int) (wrap64 (x69_3 + 1)) t398 t399) = some r := by first | (rw [hji47] at H; exact H) | (simp only [hji47] at H ⊢; exact H)
                      have hji47_ : (if x13_3 < (rd t390 (rd t394 x69_3)) then (rd t390 (rd t394 x69_3)) else x13_3) = ji47 := hji47
                      have H' := Aside0.mk H
                      clear H
                      have p404 : 0 ≤ (x69_3 : Int) := of_decide_eq_true (by first | (with_reducible assumption) | assumption)
                      have q404 : x69_3 < (t394.length : Int) := of_decide_eq_true (by first | (with_reducible assumption) | assumption)
                      obtain ⟨ad404, e404, hx404_0⟩ := Kd.at_int (Kd.R_reads' HO_6.out).2.2 x69_3 p404 q404
                      cases e404
                      replace p404 := eq_true p404
                      replace q404 := eq_true q404
                      have p405 : 0 ≤ (x69_3 : Int) := of_decide_eq_true (by first | (with_reducible assumption) | assumption)
                      have q405 : x69_3 < (t394.length : Int) := of_decide_eq_true (by first | (with_reducible assumption) | assumption)
                      obtain ⟨ad405, e405, hx405_0⟩ := Kd.at_int (Kd.R_reads' HO_6.out).2.2 x69_3 p405 q405
                      obtain rfl : ad404 = ad405 := (by injection e405)
                      replace p405 := eq_true p405
                      replace q405 := eq_true q405
                      have p406 : 0 ≤ (x69_3 : Int) := of_decide_eq_true (by first | (with_reducible assumption) | assumption)
                      have q406 : x69_3 < (t394.length : Int) := of_decide_eq_true (by first | (with_reducible assumption) | assumption)
                      obtain ⟨ad406, e406, hx406_0⟩ := Kd.at_int (Kd.R_reads' HO_6.out).2.2 x69_3 p406 q406
                      obtain rfl : ad404 = ad406 := (by injection e406)
                      replace p406 := eq_true p406
                      replace q406 := eq_true q406
                      have p407 : 0 ≤ ((ji39) : Int) := of_decide_eq_true (by first | (with_reducible assumption) | assumption)
                      have q407 : (ji39) < (t394.length : Int) := of_decide_eq_true (by first | (with_reducible assumption) | assumption)
                      obtain ⟨ad407, e407, hx407_0⟩ := Kd.at_int (Kd.R_reads' HO_6.out).2.2 (ji39) p407 q407
                      obtain rfl : ad404 = ad407 := (by injection e407)
                      replace p407 := eq_true p407
                      replace q407 := eq_true q407
                      have p408 : 0 ≤ (x69_3 : Int) := of_decide_eq_true (by first | (with_reducible assumption) | assumption)
                      have q408 : x69_3 < (t394.length : Int) := of_decide_eq_true (by first | (with_reducible assumption) | assumption)
                      obtain ⟨ad408, e408, hx408_0⟩ := Kd.at_int (Kd.R_reads' HO_6.out).2.2 x69_3 p408 q408
                      obtain rfl : ad404 = ad408 := (by injection e408)
                      replace p408 := eq_true p408
                      replace q408 := eq_true q408
                      have p409 : 0 ≤ ((rd t394 x69_3) : Int) := of_decide_eq_true (by first | (with_reducible assumption) | assumption)
                      have q409 : (rd t394 x69_3) < (t390.length : Int) := of_decide_eq_true (by first | (with_reducible assumption) | assumption)
                      obtain ⟨ad409, e409, hx409_0⟩ := Kd.at_int (Kd.R_reads' HO_4.out).2.2 (rd t394 x69_3) p409 q409
                      cases e409
                      replace p409 := eq_true p409
                      replace q409 := eq_true q409
                      have p410 : 0 ≤ (x69_3 : Int) := of_decide_eq_true (by first | (with_reducible assumption) | assumption)
                      have q410 : x69_3 < (t394.length : Int) := of_decide_eq_true (by first | (with_reducible assumption) | assumption)
                      obtain ⟨ad410, e410, hx410_0⟩ := Kd.at_int (Kd.R_reads' HO_6.out).2.2 x69_3 p410 q410
                      obtain rfl : ad404 = ad410 := (by injection e410)
                      replace p410 := eq_true p410
                      replace q410 := eq_true q410
                      have p411 : 0 ≤ ((rd t394 x69_3) : Int) := of_decide_eq_true (by first | (with_reducible assumption) | assumption)
                      have q411 : (rd t394 x69_3) < (t390.length : Int) := of_decide_eq_true (by first | (with_reducible assumption) | assumption)
                      obtain ⟨ad411, e411, hx411_0⟩ := Kd.at_int (Kd.R_reads' HO_4.out).2.2 (rd t394 x69_3) p411 q411
                      obtain rfl : ad409 = ad411 := (by injection e411)
                      replace p411 := eq_true p411
                      replace q411 := eq_true q411
                      have p412 : 0 ≤ (x69_3 : Int) := of_decide_eq_true (by first | (with_reducible assumption) | assumption)
                      have q412 : x69_3 < (t394.length : Int) := of_decide_eq_true (by first | (with_reducible assumption) | assumption)
                      obtain ⟨ad412, e412, hx412_0⟩ := Kd.at_int (Kd.R_reads' HO_6.out).2.2 x69_3 p412 q412
                      obtain rfl : ad404 = ad412 := (by injection e412)
                      replace p412 := eq_true p412
                      replace q412 := eq_true q412
                      have p413 : 0 ≤ ((rd t394 x69_3) : Int) := of_decide_eq_true (by first | (with_reducible assumption) | assumption)
                      have q413 : (rd t394 x69_3) < (t390.length : Int) := of_decide_eq_true (by first | (with_reducible assumption) | assumption)
                      obtain ⟨ad413, e413, hx413_0⟩ := Kd.at_int (Kd.R_reads' HO_4.out).2.2 (rd t394 x69_3) p413 q413
                      obtain rfl : ad409 = ad413 := (by injection e413)
                      replace p413 := eq_true p413
                      replace q413 := eq_true q413
                      go_wp2
                      repeat (go_quiet (fail); try go_wp2)
                      go_roundg k3
                      case measure => have := HJ5.out; have := HK2.out; have := HK3.out; omega
                      case rel => exact ⟨(ji46), (ji47), (wrap64 (x69_3 + 1)), (by first | rfl | (simp; done) | (simp only [← hji46] <;> (first | rfl | simp)) | (simp [*]; done)), (by first | rfl | (simp; done) | (simp only [← hji47] <;> (first | rfl | simp)) | (simp [*]; done)), (by first | rfl | (simp; done) | (simp [*]; done)), H', ⟨by have := HJ5.out; have := HK2.out; have := HK3.out; omega⟩, ⟨by (with_reducible repeat (first | apply Kd.R_alloc | apply Kd.R_drewN | apply Kd.R_drew)); exact HO_4.out⟩, ⟨by (with_reducible repeat (first | apply Kd.R_alloc | apply Kd.R_drewN | apply Kd.R_drew)); exact HO_6.out⟩, ⟨by (with_reducible repeat (first | refine blk_drewN ?_ _ | refine blk_drew ?_ | refine blk_alloc ?_ _)); exact BK401.out⟩, ⟨by repeat (first | (with_reducible first | exact HB.out | apply below_alloc | apply pw_below_drewN | apply below_drew1 | refine below_set ?_ GE401.out) | exact HB.out)⟩⟩
                    ·rw [if_neg c44] at H
                     exact absurd H (by simp)
                   ·rw [if_neg c43] at H
                    exact absurd H (by simp)
                 ·rw [if_neg c41] at H
                  exact absurd H (by simp)
                ·rw [if_neg c40] at H
                 exact absurd H (by simp)
               ·rw [if_neg c38] at H
                have c38b0 : decide (0 < x69_3) = false := decide_eq_false c38
                clear c38
                by_cases c48 : 0 ≤ (rd t394 x69_3)
                ·rw [if_pos c48] at H
                 have c48b0 : decide (0 ≤ (rd t394 x69_3)) = true := decide_eq_true c48
                 clear c48
                 by_cases c49 : (rd t394 x69_3) < (t390.length : Int)
                 ·rw [if_pos c49] at H
                  have c49b0 : decide ((rd t394 x69_3) < (t390.length : Int)) = true := decide_eq_true c49
                  clear c49
                  by_cases c50 : (rd t390 (rd t394 x69_3)) < 30720
                  ·rw [if_pos c50] at H
                   have c50b0 : decide ((rd t390 (rd t394 x69_3)) < 30720) = true := decide_eq_true c50
                   clear c50
                   obtain rfl := Option.some.inj H
                   have p404 : 0 ≤ (x69_3 : Int) := of_decide_eq_true (by first | (with_reducible assumption) | assumption)
                   have q404 : x69_3 < (t394.length : Int) := of_decide_eq_true (by first | (with_reducible assumption) | assumption)
                   obtain ⟨ad404, e404, hx404_0⟩ := Kd.at_int (Kd.R_reads' HO_6.out).2.2 x69_3 p404 q404
                   cases e404
                   replace p404 := eq_true p404
                   replace q404 := eq_true q404
                   have p405 : 0 ≤ (x69_3 : Int) := of_decide_eq_true (by first | (with_reducible assumption) | assumption)
                   have q405 : x69_3 < (t394.length : Int) := of_decide_eq_true (by first | (with_reducible assumption) | assumption)
                   obtain ⟨ad405, e405, hx405_0⟩ := Kd.at_int (Kd.R_reads' HO_6.out).2.2 x69_3 p405 q405
                   obtain rfl : ad404 = ad405 := (by injection e405)
                   replace p405 := eq_true p405
                   replace q405 := eq_true q405
                   have p414 : 0 ≤ (x69_3 : Int) := of_decide_eq_true (by first | (with_reducible assumption) | assumption)
                   have q414 : x69_3 < (t394.length : Int) := of_decide_eq_true (by first | (with_reducible assumption) | assumption)
                   obtain ⟨ad414, e414, hx414_0⟩ := Kd.at_int (Kd.R_reads' HO_6.out).2.2 x69_3 p414 q414
                   obtain rfl : ad404 = ad414 := (by injection e414)
                   replace p414 := eq_true p414
                   replace q414 := eq_true q414
                   have p415 : 0 ≤ ((rd t394 x69_3) : Int) := of_decide_eq_true (by first | (with_reducible assumption) | assumption)
                   have q415 : (rd t394 x69_3) < (t390.length : Int) := of_decide_eq_true (by first | (with_reducible assumption) | assumption)
                   obtain ⟨ad415, e415, hx415_0⟩ := Kd.at_int (Kd.R_reads' HO_4.out).2.2 (rd t394 x69_3) p415 q415
                   cases e415
                   replace p415 := eq_true p415
                   replace q415 := eq_true q415
                   go_wp2
                   repeat (go_quiet (fail); try go_wp2)
                   go_ret
                   exact ⟨by first | rfl | (simp [errW_none, errW_some] <;> rfl) | (simp [*, errW_none, errW_some] <;> rfl), by repeat (first | (with_reducible first | exact HB.out | apply below_alloc | apply pw_below_drewN | apply below_drew1 | refine below_set ?_ GE401.out) | exact HB.out)⟩
                  ·rw [if_neg c50] at H
                   have c50b0 : decide ((rd t390 (rd t394 x69_3)) < 30720) = false := decide_eq_false c50
                   clear c50
                   obtain ⟨ji51, hji51⟩ : ∃ j_ : Int, (mn x12_3 (rd t390 (rd t394 x69_3))) = j_ := ⟨_, rfl⟩
                   replace H : (cutroomlaw28_LoudnessQuiet.l1 k3 t390 t394 x10_2 ji51 (mx x13_3 (rd t390 (rd t394 x69_3))) (t394.length : Int) (wrap64 (x69_3 + 1)) t398 t399) = some r := by first | (rw [hji51] at H; exact H) | (simp only [hji51] at H ⊢; exact H)
                   have hji51_ : (if (rd t390 (rd t394 x69_3)) < x12_3 then (rd t390 (rd t394 x69_3)) else x12_3) = ji51 := hji51
                   obtain ⟨ji52, hji52⟩ : ∃ j_ : Int, (mx x13_3 (rd t390 (rd t394 x69_3))) = j_ := ⟨_, rfl⟩
                   replace H : (cutroomlaw28_LoudnessQuiet.l1 k3 t390 t394 x10_2 ji51 ji52 (t394.length : Int) (wrap64 (x69_3 + 1)) t398 t399) = some r := by first | (rw [hji52] at H; exact H) | (simp only [hji52] at H ⊢; exact H)
                   have hji52_ : (if x13_3 < (rd t390 (rd t394 x69_3)) then (rd t390 (rd t394 x69_3)) else x13_3) = ji52 := hji52
                   have H' := Aside0.mk H
                   clear H
                   have p404 : 0 ≤ (x69_3 : Int) := of_decide_eq_true (by first | (with_reducible assumption) | assumption)
                   have q404 : x69_3 < (t394.length : Int) := of_decide_eq_true (by first | (with_reducible assumption) | assumption)
                   obtain ⟨ad404, e404, hx404_0⟩ := Kd.at_int (Kd.R_reads' HO_6.out).2.2 x69_3 p404 q404
                   cases e404
                   replace p404 := eq_true p404
                   replace q404 := eq_true q404
                   have p405 : 0 ≤ (x69_3 : Int) := of_decide_eq_true (by first | (with_reducible assumption) | assumption)
                   have q405 : x69_3 < (t394.length : Int) := of_decide_eq_true (by first | (with_reducible assumption) | assumption)
                   obtain ⟨ad405, e405, hx405_0⟩ := Kd.at_int (Kd.R_reads' HO_6.out).2.2 x69_3 p405 q405
                   obtain rfl : ad404 = ad405 := (by injection e405)
                   replace p405 := eq_true p405
                   replace q405 := eq_true q405
                   have p414 : 0 ≤ (x69_3 : Int) := of_decide_eq_true (by first | (with_reducible assumption) | assumption)
                   have q414 : x69_3 < (t394.length : Int) := of_decide_eq_true (by first | (with_reducible assumption) | assumption)
                   obtain ⟨ad414, e414, hx414_0⟩ := Kd.at_int (Kd.R_reads' HO_6.out).2.2 x69_3 p414 q414
                   obtain rfl : ad404 = ad414 := (by injection e414)
                   replace p414 := eq_true p414
                   replace q414 := eq_true q414
                   have p415 : 0 ≤ ((rd t394 x69_3) : Int) := of_decide_eq_true (by first | (with_reducible assumption) | assumption)
                   have q415 : (rd t394 x69_3) < (t390.length : Int) := of_decide_eq_true (by first | (with_reducible assumption) | assumption)
                   obtain ⟨ad415, e415, hx415_0⟩ := Kd.at_int (Kd.R_reads' HO_4.out).2.2 (rd t394 x69_3) p415 q415
                   cases e415
                   replace p415 := eq_true p415
                   replace q415 := eq_true q415
                   have p416 : 0 ≤ (x69_3 : Int) := of_decide_eq_true (by first | (with_reducible assumption) | assumption)
                   have q416 : x69_3 < (t394.length : Int) := of_decide_eq_true (by first | (with_reducible assumption) | assumption)
                   obtain ⟨ad416, e416, hx416_0⟩ := Kd.at_int (Kd.R_reads' HO_6.out).2.2 x69_3 p416 q416
                   obtain rfl : ad404 = ad416 := (by injection e416)
                   replace p416 := eq_true p416
                   replace q416 := eq_true q416
                   have p417 : 0 ≤ ((rd t394 x69_3) : Int) := of_decide_eq_true (by first | (with_reducible assumption) | assumption)
                   have q417 : (rd t394 x69_3) < (t390.length : Int) := of_decide_eq_true (by first | (with_reducible assumption) | assumption)
                   obtain ⟨ad417, e417, hx417_0⟩ := Kd.at_int (Kd.R_reads' HO_4.out).2.2 (rd t394 x69_3) p417 q417
                   obtain rfl : ad415 = ad417 := (by injection e417)
                   replace p417 := eq_true p417
                   replace q417 := eq_true q417
                   have p418 : 0 ≤ (x69_3 : Int) := of_decide_eq_true (by first | (with_reducible assumption) | assumption)
                   have q418 : x69_3 < (t394.length : Int) := of_decide_eq_true (by first | (with_reducible assumption) | assumption)
                   obtain ⟨ad418, e418, hx418_0⟩ := Kd.at_int (Kd.R_reads' HO_6.out).2.2 x69_3 p418 q418
                   obtain rfl : ad404 = ad418 := (by injection e418)
                   replace p418 := eq_true p418
                   replace q418 := eq_true q418
                   have p419 : 0 ≤ ((rd t394 x69_3) : Int) := of_decide_eq_true (by first | (with_reducible assumption) | assumption)
                   have q419 : (rd t394 x69_3) < (t390.length : Int) := of_decide_eq_true (by first | (with_reducible assumption) | assumption)
                   obtain ⟨ad419, e419, hx419_0⟩ := Kd.at_int (Kd.R_reads' HO_4.out).2.2 (rd t394 x69_3) p419 q419
                   obtain rfl : ad415 = ad419 := (by injection e419)
                   replace p419 := eq_true p419
                   replace q419 := eq_true q419
                   go_wp2
                   repeat (go_quiet (fail); try go_wp2)
                   go_roundg k3
                   case measure => have := HJ5.out; have := HK2.out; have := HK3.out; omega
                   case rel => exact ⟨(ji51), (ji52), (wrap64 (x69_3 + 1)), (by first | rfl | (simp; done) | (simp only [← hji51] <;> (first | rfl | simp)) | (simp [*]; done)), (by first | rfl | (simp; done) | (simp only [← hji52] <;> (first | rfl | simp)) | (simp [*]; done)), (by first | rfl | (simp; done) | (simp [*]; done)), H', ⟨by have := HJ5.out; have := HK2.out; have := HK3.out; omega⟩, ⟨by (with_reducible repeat (first | apply Kd.R_alloc | apply Kd.R_drewN | apply Kd.R_drew)); exact HO_4.out⟩, ⟨by (with_reducible repeat (first | apply Kd.R_alloc | apply Kd.R_drewN | apply Kd.R_drew)); exact HO_6.out⟩, ⟨by (with_reducible repeat (first | refine blk_drewN ?_ _ | refine blk_drew ?_ | refine blk_alloc ?_ _)); exact BK401.out⟩, ⟨by repeat (first | (with_reducible first | exact HB.out | apply below_alloc | apply pw_below_drewN | apply below_drew1 | refine below_set ?_ GE401.out) | exact HB.out)⟩⟩
                 ·rw [if_neg c49] at H
                  exact absurd H (by simp)
                ·rw [if_neg c48] at H
                 exact absurd H (by simp)
            ·rw [if_neg c35] at H
             exact absurd H (by simp)
           ·rw [if_neg c34] at H
            exact absurd H (by simp)
          ·rw [if_neg c33] at H
           have c33b0 : decide (x69_3 < (t394.length : Int)) = false := decide_eq_false c33
           clear c33
           by_cases c53 : x13_3 = x10_2
           ·rw [if_pos c53] at H
            have c53b0 : (x13_3 == x10_2) = true := beq_iff_eq.mpr c53
            have c53b1 : (x13_3 != x10_2) = false := bne_eq_false_iff_eq.mpr c53
            clear c53
            by_cases c54 : t399 ≥ 1
            ·rw [if_pos c54] at H
             have c54b0 : decide (1 ≤ t399) = true := decide_eq_true c54
             clear c54
             by_cases c55 : (wrap64 (t398 * 480)) ≥ (wrap64 (x12_3 * t399))
             ·rw [if_pos c55] at H
              have c55b0 : decide ((wrap64 (x12_3 * t399)) ≤ (wrap64 (t398 * 480))) = true := decide_eq_true c55
              clear c55
              by_cases c56 : (wrap64 (t398 * 480)) ≤ (wrap64 (x13_3 * t399))
              ·rw [if_pos c56] at H
               have c56b0 : decide ((wrap64 (t398 * 480)) ≤ (wrap64 (x13_3 * t399))) = true := decide_eq_true c56
               clear c56
               replace H := Option.bind_eq_some_iff.mp H
               obtain ⟨t420, A570, H⟩ := H
               replace H : (some t420) = some r := H
               have A57 := Aside0.mk A570
               clear A570
               obtain rfl := Option.some.inj H
               have hcz58_0 : wr.cell? ⟨gb401, 0, none⟩ = some (.int .i64 t398) := (blk_cell BK401.out 0).trans rfl
               have hcz58_1 : wr.cell? ⟨gb401, 1, none⟩ = some (.int .i64 t399) := (blk_cell BK401.out 1).trans rfl
               have hfz58_0 := blk_frozen BK401.out 0
               have hfz58_1 := blk_frozen BK401.out 1
               go_wp2_with (first | (go_at_call 19; (with_reducible refine (cutroomlaw28_awake.calls k3  t420 _ A57.out).mono ?_); rintro e w59 ⟨rfl, hb⟩; have n0_ := Aside0.mk (Kd.R_below (by (with_reducible repeat (first | apply Kd.R_alloc | apply Kd.R_drewN | apply Kd.R_drew)); exact HO_4.out) hb); have n1_ := Aside0.mk (Kd.R_below (by (with_reducible repeat (first | apply Kd.R_alloc | apply Kd.R_drewN | apply Kd.R_drew)); exact HO_6.out) hb); have n2_ := Aside0.mk (blk_below (g := gb401) (o := .cells #[.int .i64 t398, .int .i64 t399] 37 (0, 0)) (by (with_reducible repeat (first | refine blk_drewN ?_ _ | refine blk_drew ?_ | refine blk_alloc ?_ _)); exact BK401.out) hb); have n3_ := Aside0.mk (below_step (by repeat (first | (with_reducible first | exact HB.out | apply below_alloc | apply pw_below_drewN | apply below_drew1 | refine below_set ?_ GE401.out) | exact HB.out)) hb); clear HO_4; clear HO_6; clear BK401; clear HB; have HO_4 := n0_; have HO_6 := n1_; have BK401 := n2_; have HB := n3_; clear n0_ n1_ n2_ n3_; (try clear hb); (try clear hb2); (try clear hk); (try clear hi)))
               repeat (go_quiet (first | (go_at_call 19; (with_reducible refine (cutroomlaw28_awake.calls k3  t420 _ A57.out).mono ?_); rintro e w59 ⟨rfl, hb⟩; have n0_ := Aside0.mk (Kd.R_below (by (with_reducible repeat (first | apply Kd.R_alloc | apply Kd.R_drewN | apply Kd.R_drew)); exact HO_4.out) hb); have n1_ := Aside0.mk (Kd.R_below (by (with_reducible repeat (first | apply Kd.R_alloc | apply Kd.R_drewN | apply Kd.R_drew)); exact HO_6.out) hb); have n2_ := Aside0.mk (blk_below (g := gb401) (o := .cells #[.int .i64 t398, .int .i64 t399] 37 (0, 0)) (by (with_reducible repeat (first | refine blk_drewN ?_ _ | refine blk_drew ?_ | refine blk_alloc ?_ _)); exact BK401.out) hb); have n3_ := Aside0.mk (below_step (by repeat (first | (with_reducible first | exact HB.out | apply below_alloc | apply pw_below_drewN | apply below_drew1 | refine below_set ?_ GE401.out) | exact HB.out)) hb); clear HO_4; clear HO_6; clear BK401; clear HB; have HO_4 := n0_; have HO_6 := n1_; have BK401 := n2_; have HB := n3_; clear n0_ n1_ n2_ n3_; (try clear hb); (try clear hb2); (try clear hk); (try clear hi))); try go_wp2_with (first | (go_at_call 19; (with_reducible refine (cutroomlaw28_awake.calls k3  t420 _ A57.out).mono ?_); rintro e w59 ⟨rfl, hb⟩; have n0_ := Aside0.mk (Kd.R_below (by (with_reducible repeat (first | apply Kd.R_alloc | apply Kd.R_drewN | apply Kd.R_drew)); exact HO_4.out) hb); have n1_ := Aside0.mk (Kd.R_below (by (with_reducible repeat (first | apply Kd.R_alloc | apply Kd.R_drewN | apply Kd.R_drew)); exact HO_6.out) hb); have n2_ := Aside0.mk (blk_below (g := gb401) (o := .cells #[.int .i64 t398, .int .i64 t399] 37 (0, 0)) (by (with_reducible repeat (first | refine blk_drewN ?_ _ | refine blk_drew ?_ | refine blk_alloc ?_ _)); exact BK401.out) hb); have n3_ := Aside0.mk (below_step (by repeat (first | (with_reducible first | exact HB.out | apply below_alloc | apply pw_below_drewN | apply below_drew1 | refine below_set ?_ GE401.out) | exact HB.out)) hb); clear HO_4; clear HO_6; clear BK401; clear HB; have HO_4 := n0_; have HO_6 := n1_; have BK401 := n2_; have HB := n3_; clear n0_ n1_ n2_ n3_; (try clear hb); (try clear hb2); (try clear hk); (try clear hi))))
               go_ret
               exact ⟨by first | rfl | (simp [errW_none, errW_some] <;> rfl) | (simp [*, errW_none, errW_some] <;> rfl), by repeat (first | (with_reducible first | exact HB.out | apply below_alloc | apply pw_below_drewN | apply below_drew1 | refine below_set ?_ GE401.out) | exact HB.out)⟩
              ·rw [if_neg c56] at H
               have c56b0 : decide ((wrap64 (t398 * 480)) ≤ (wrap64 (x13_3 * t399))) = false := decide_eq_false c56
               clear c56
               obtain rfl := Option.some.inj H
               have hcz60_0 : wr.cell? ⟨gb401, 0, none⟩ = some (.int .i64 t398) := (blk_cell BK401.out 0).trans rfl
               have hcz60_1 : wr.cell? ⟨gb401, 1, none⟩ = some (.int .i64 t399) := (blk_cell BK401.out 1).trans rfl
               have hfz60_0 := blk_frozen BK401.out 0
               have hfz60_1 := blk_frozen BK401.out 1
               go_wp2
               repeat (go_quiet (fail); try go_wp2)
               go_ret
               exact ⟨by first | rfl | (simp [errW_none, errW_some] <;> rfl) | (simp [*, errW_none, errW_some] <;> rfl), by repeat (first | (with_reducible first | exact HB.out | apply below_alloc | apply pw_below_drewN | apply below_drew1 | refine below_set ?_ GE401.out) | exact HB.out)⟩
             ·rw [if_neg c55] at H
              have c55b0 : decide ((wrap64 (x12_3 * t399)) ≤ (wrap64 (t398 * 480))) = false := decide_eq_false c55
              clear c55
              obtain rfl := Option.some.inj H
              have hcz61_0 : wr.cell? ⟨gb401, 0, none⟩ = some (.int .i64 t398) := (blk_cell BK401.out 0).trans rfl
              have hcz61_1 : wr.cell? ⟨gb401, 1, none⟩ = some (.int .i64 t399) := (blk_cell BK401.out 1).trans rfl
              have hfz61_0 := blk_frozen BK401.out 0
              have hfz61_1 := blk_frozen BK401.out 1
              go_wp2
              repeat (go_quiet (fail); try go_wp2)
              go_ret
              exact ⟨by first | rfl | (simp [errW_none, errW_some] <;> rfl) | (simp [*, errW_none, errW_some] <;> rfl), by repeat (first | (with_reducible first | exact HB.out | apply below_alloc | apply pw_below_drewN | apply below_drew1 | refine below_set ?_ GE401.out) | exact HB.out)⟩
            ·rw [if_neg c54] at H
             have c54b0 : decide (1 ≤ t399) = false := decide_eq_false c54
             clear c54
             obtain rfl := Option.some.inj H
             have hcz62_0 : wr.cell? ⟨gb401, 0, none⟩ = some (.int .i64 t398) := (blk_cell BK401.out 0).trans rfl
             have hcz62_1 : wr.cell? ⟨gb401, 1, none⟩ = some (.int .i64 t399) := (blk_cell BK401.out 1).trans rfl
             have hfz62_0 := blk_frozen BK401.out 0
             have hfz62_1 := blk_frozen BK401.out 1
             go_wp2
             repeat (go_quiet (fail); try go_wp2)
             go_ret
             exact ⟨by first | rfl | (simp [errW_none, errW_some] <;> rfl) | (simp [*, errW_none, errW_some] <;> rfl), by repeat (first | (with_reducible first | exact HB.out | apply below_alloc | apply pw_below_drewN | apply below_drew1 | refine below_set ?_ GE401.out) | exact HB.out)⟩
           ·rw [if_neg c53] at H
            have c53b0 : (x13_3 == x10_2) = false := beq_eq_false_iff_ne.mpr c53
            have c53b1 : (x13_3 != x10_2) = true := bne_iff_ne.mpr c53
            obtain rfl := Option.some.inj H
            go_wp2
            repeat (go_quiet (fail); try go_wp2)
            go_ret
            exact ⟨by first | rfl | (simp [errW_none, errW_some] <;> rfl) | (simp [*, errW_none, errW_some] <;> rfl), by repeat (first | (with_reducible first | exact HB.out | apply below_alloc | apply pw_below_drewN | apply below_drew1 | refine below_set ?_ GE401.out) | exact HB.out)⟩

/-- THE ONE PURE STATEMENT of cutroomlaw28_LoudnessQuiet: yours. -/
def cutroomlaw28_LoudnessQuiet.Pure : Prop := ∀ (l0 : List Int), l0.length ≤ maxLen → l0.length * 8 ≤ 140737488351232 → (∀ x ∈ l0, (Lit.int .i64 x).wf = true) → ∃ k, cutroomlaw28_LoudnessQuiet.f k l0 = some true
theorem cutroomlaw28_LoudnessQuiet.walk (P : cutroomlaw28_LoudnessQuiet.Pure) (a0 : Option Addr) (len0 cap0 : Nat) (z0 : List Int) (w : World) (w0 : (a0 = none ∧ len0 = 0 ∧ cap0 = 0 ∧ z0 = []) ∨ ∃ x, a0 = some x ∧ len0 ≤ cap0 ∧ cap0 ≤ maxLen ∧ z0.length = cap0 ∧ (∀ i, i < z0.length → w.cell? (x.add i) = some (.int .i64 (z0.getD i 0))) ∧ ∀ n ∈ z0, (Lit.int .i64 n).wf = true) (y0 : len0 * 8 ≤ 140737488351232) :
  Calls Try.prog 9 #[.slice a0 len0 cap0] w fun e w' => e = .returned (.bool true) ∧ Below w.heap.size w w' := by
 obtain ⟨l0, rfl, hr0, hm0, hw0, hc0⟩ := ReadsInt.ofRowC w0
 obtain ⟨k, h⟩ := P l0 hm0 y0 hw0
 refine (cutroomlaw28_LoudnessQuiet.calls k _ _ l0 true w (Kd.C_of_reads (d := (0 : Int)) (h1 := fun _ => rfl) hr0) hc0 h).mono ?_
 rintro e w' ⟨rfl, hd⟩
 exact ⟨rfl, hd⟩

end Go.Proofs.Ytjcjbbcamkkeiaa.P
