-- Written by this session's own program (wip/tools/myprint.py), which runs the kit's print with turns of its own: not a text of the kit's print.sh.
import Derived.Test.YtjcjbbcamkkeiaaPx0
import Derived.Test.YtjcjbbcamkkeiaaPx14
import Derived.Test.YtjcjbbcamkkeiaaPx18
import Derived.Test.YtjcjbbcamkkeiaaPx20
import Derived.Test.YtjcjbbcamkkeiaaPx23
import Derived.Test.YtjcjbbcamkkeiaaPx26
import Derived.Test.YtjcjbbcamkkeiaaPx27
namespace Go.Proofs.Ytjcjbbcamkkeiaa.P
open Go.RowKit Go.Proofs.YtjcjbbcamkkeiaaW.PrintWords Go.Proofs.YtjcjbbcamkkeiaaW.PrintLast Go.Proofs.YtjcjbbcamkkeiaaW.PrintMore
attribute [local go_sem] max2_int min2_int max_two min_two max_three min_three max_four min_four   -- for this text's walks alone
set_option linter.unusedVariables false
set_option linter.unusedSimpArgs false

/-! ### cutroomlaw28_LoudnessGreatest: function 5 -/
def cutroomlaw28_LoudnessGreatest.j0 : Nat → Int → Int → Int → Int → Bool → Int → Int → Option (Bool)
 | 0, _, _, _, _, _, _, _ => none
 | k + 1, x1, x8, x9, x13, x67, x306000, x306001 => if x67 = true then (some false) else ((cutroomlaw28_keeps.f x9 x306000 x306001 (wrap64 (x1)) x13 x8).bind fun t307 => (if t307 = true then (if x9 = 65536 then ((cutroomlaw28_awake.f k).bind fun t308 => (some t308)) else ((cutroomlaw28_keeps.f (wrap64 (x9 + 1)) x306000 x306001 (wrap64 (x1)) x13 x8).bind fun t309 => (if t309 = true then (some false) else ((cutroomlaw28_awake.f k).bind fun t310 => (some t310))))) else (some false)))
def cutroomlaw28_LoudnessGreatest.f (k : Nat) (l0 : List Int) (a1 : Int) (a2 : Int) : Option (Bool) := (cutroomlaw28_made.f k l0 200).bind fun t297 => ((loudness_Gain.f k t297 (wrap64 (a1)) (wrap64 (Go.bits .and .u16 a2 32767))).bind fun bt300 => ((loudness_Measure.f k t297).bind fun bt302 => ((loudness_Peak.f k t297).bind fun t306 => (if bt300.2 = 0 then (if bt302.2.2 = 0 then (if bt300.1 < 0 then (cutroomlaw28_LoudnessGreatest.j0 k a1 (wrap64 (Go.bits .and .u16 a2 32767)) bt300.1 t306 true bt302.1 bt302.2.1) else (if bt300.1 > 65536 then (cutroomlaw28_LoudnessGreatest.j0 k a1 (wrap64 (Go.bits .and .u16 a2 32767)) bt300.1 t306 true bt302.1 bt302.2.1) else (if bt302.2.1 < 1 then (cutroomlaw28_LoudnessGreatest.j0 k a1 (wrap64 (Go.bits .and .u16 a2 32767)) bt300.1 t306 true bt302.1 bt302.2.1) else (if bt302.1 < 0 then (cutroomlaw28_LoudnessGreatest.j0 k a1 (wrap64 (Go.bits .and .u16 a2 32767)) bt300.1 t306 true bt302.1 bt302.2.1) else (if bt302.1 > 1099511627776 then (cutroomlaw28_LoudnessGreatest.j0 k a1 (wrap64 (Go.bits .and .u16 a2 32767)) bt300.1 t306 true bt302.1 bt302.2.1) else (cutroomlaw28_LoudnessGreatest.j0 k a1 (wrap64 (Go.bits .and .u16 a2 32767)) bt300.1 t306 (decide (bt302.2.1 > 4194304)) bt302.1 bt302.2.1)))))) else (cutroomlaw28_LoudnessGreatest.j0 k a1 (wrap64 (Go.bits .and .u16 a2 32767)) bt300.1 t306 true bt302.1 bt302.2.1)) else (cutroomlaw28_LoudnessGreatest.j0 k a1 (wrap64 (Go.bits .and .u16 a2 32767)) bt300.1 t306 true bt302.1 bt302.2.1)))))
theorem cutroomlaw28_LoudnessGreatest.mono_l : ∀ k, (∀ y0 y1 y2 y3 y4 y5 y6, LeO (cutroomlaw28_LoudnessGreatest.j0 k y0 y1 y2 y3 y4 y5 y6) (cutroomlaw28_LoudnessGreatest.j0 (k + 1) y0 y1 y2 y3 y4 y5 y6))
 | 0 => fun _ _ _ _ _ _ _ r h => by simp [cutroomlaw28_LoudnessGreatest.j0] at h
 | k + 1 => by
  have ih0 := cutroomlaw28_LoudnessGreatest.mono_l k
  ·intro y0 y1 y2 y3 y4 y5 y6
   unfold cutroomlaw28_LoudnessGreatest.j0
   repeat' first
   | (with_reducible exact ih0 _ _ _ _ _ _ _)
   | (with_reducible exact cutroomlaw28_awake.mono _)
   | (with_reducible exact cutroomlaw28_made.mono _ _ _)
   | (with_reducible exact loudness_Gain.mono _ _ _ _)
   | (with_reducible exact loudness_Measure.mono _ _)
   | (with_reducible exact loudness_Peak.mono _ _)
   | (with_reducible exact LeO.refl _)
   | (with_reducible exact LeO.none _)
   | (with_reducible refine LeO.ite ?_ ?_)
   | (with_reducible refine LeO.bind ?_ (fun _ => ?_))
   | exact ih0 _ _ _ _ _ _ _
   | exact cutroomlaw28_awake.mono _
   | exact cutroomlaw28_made.mono _ _ _
   | exact loudness_Gain.mono _ _ _ _
   | exact loudness_Measure.mono _ _
   | exact loudness_Peak.mono _ _
   | exact LeO.none _
   | refine LeO.ite ?_ ?_
   | refine LeO.bind ?_ (fun _ => ?_)
theorem cutroomlaw28_LoudnessGreatest.mono : ∀ a0 a1 a2 k, LeO (cutroomlaw28_LoudnessGreatest.f k a0 a1 a2) (cutroomlaw28_LoudnessGreatest.f (k + 1) a0 a1 a2) := by
 intro a0 a1 a2 k
 have ih0 := cutroomlaw28_LoudnessGreatest.mono_l k
 unfold cutroomlaw28_LoudnessGreatest.f
 repeat' first
   | (with_reducible exact ih0 _ _ _ _ _ _ _)
   | (with_reducible exact cutroomlaw28_awake.mono _)
   | (with_reducible exact cutroomlaw28_made.mono _ _ _)
   | (with_reducible exact loudness_Gain.mono _ _ _ _)
   | (with_reducible exact loudness_Measure.mono _ _)
   | (with_reducible exact loudness_Peak.mono _ _)
   | (with_reducible exact LeO.refl _)
   | (with_reducible exact LeO.none _)
   | (with_reducible refine LeO.ite ?_ ?_)
   | (with_reducible refine LeO.bind ?_ (fun _ => ?_))
   | exact ih0 _ _ _ _ _ _ _
   | exact cutroomlaw28_awake.mono _
   | exact cutroomlaw28_made.mono _ _ _
   | exact loudness_Gain.mono _ _ _ _
   | exact loudness_Measure.mono _ _
   | exact loudness_Peak.mono _ _
   | exact LeO.none _
   | refine LeO.ite ?_ ?_
   | refine LeO.bind ?_ (fun _ => ?_)
set_option maxHeartbeats 8000000 in
set_option maxRecDepth 100000 in
theorem cutroomlaw28_LoudnessGreatest.calls (k : Nat) (A0 : Option Addr) (c0 : Nat) (l0 : List Int) (a1 : Int) (a2 : Int) (r : Bool) (w : World) (hr0 : Kd.C (Kd.int .i64) w A0 l0.length l0) (hc0 : l0.length ≤ c0) (h : cutroomlaw28_LoudnessGreatest.f k l0 a1 a2 = some r) :
  Calls Try.prog 5 #[.slice A0 l0.length c0, .int .u16 a1, .int .u16 a2] w fun e w' => e = .returned (.bool r) ∧ Below w.heap.size w w' := by
 have hu37 := Try.underlying37
 have HR0 := Aside0.mk hr0
 have HC0 := Aside0.mk hc0
 clear hr0 hc0
 have HB := Aside0.mk (Below.refl w.heap.size w)
 have H : ((cutroomlaw28_made.f k l0 200).bind fun t297 => ((loudness_Gain.f k t297 (wrap64 (a1)) (wrap64 (Go.bits .and .u16 a2 32767))).bind fun bt300 => ((loudness_Measure.f k t297).bind fun bt302 => ((loudness_Peak.f k t297).bind fun t306 => (if bt300.2 = 0 then (if bt302.2.2 = 0 then (if bt300.1 < 0 then (cutroomlaw28_LoudnessGreatest.j0 k a1 (wrap64 (Go.bits .and .u16 a2 32767)) bt300.1 t306 true bt302.1 bt302.2.1) else (if bt300.1 > 65536 then (cutroomlaw28_LoudnessGreatest.j0 k a1 (wrap64 (Go.bits .and .u16 a2 32767)) bt300.1 t306 true bt302.1 bt302.2.1) else (if bt302.2.1 < 1 then (cutroomlaw28_LoudnessGreatest.j0 k a1 (wrap64 (Go.bits .and .u16 a2 32767)) bt300.1 t306 true bt302.1 bt302.2.1) else (if bt302.1 < 0 then (cutroomlaw28_LoudnessGreatest.j0 k a1 (wrap64 (Go.bits .and .u16 a2 32767)) bt300.1 t306 true bt302.1 bt302.2.1) else (if bt302.1 > 1099511627776 then (cutroomlaw28_LoudnessGreatest.j0 k a1 (wrap64 (Go.bits .and .u16 a2 32767)) bt300.1 t306 true bt302.1 bt302.2.1) else (cutroomlaw28_LoudnessGreatest.j0 k a1 (wrap64 (Go.bits .and .u16 a2 32767)) bt300.1 t306 (decide (bt302.2.1 > 4194304)) bt302.1 bt302.2.1)))))) else (cutroomlaw28_LoudnessGreatest.j0 k a1 (wrap64 (Go.bits .and .u16 a2 32767)) bt300.1 t306 true bt302.1 bt302.2.1)) else (cutroomlaw28_LoudnessGreatest.j0 k a1 (wrap64 (Go.bits .and .u16 a2 32767)) bt300.1 t306 true bt302.1 bt302.2.1)))))) = some r := h
 clear h
 replace H := Option.bind_eq_some_iff.mp H
 obtain ⟨t297, A40, H⟩ := H
 replace H : ((loudness_Gain.f k t297 (wrap64 (a1)) (wrap64 (Go.bits .and .u16 a2 32767))).bind fun bt300 => ((loudness_Measure.f k t297).bind fun bt302 => ((loudness_Peak.f k t297).bind fun t306 => (if bt300.2 = 0 then (if bt302.2.2 = 0 then (if bt300.1 < 0 then (cutroomlaw28_LoudnessGreatest.j0 k a1 (wrap64 (Go.bits .and .u16 a2 32767)) bt300.1 t306 true bt302.1 bt302.2.1) else (if bt300.1 > 65536 then (cutroomlaw28_LoudnessGreatest.j0 k a1 (wrap64 (Go.bits .and .u16 a2 32767)) bt300.1 t306 true bt302.1 bt302.2.1) else (if bt302.2.1 < 1 then (cutroomlaw28_LoudnessGreatest.j0 k a1 (wrap64 (Go.bits .and .u16 a2 32767)) bt300.1 t306 true bt302.1 bt302.2.1) else (if bt302.1 < 0 then (cutroomlaw28_LoudnessGreatest.j0 k a1 (wrap64 (Go.bits .and .u16 a2 32767)) bt300.1 t306 true bt302.1 bt302.2.1) else (if bt302.1 > 1099511627776 then (cutroomlaw28_LoudnessGreatest.j0 k a1 (wrap64 (Go.bits .and .u16 a2 32767)) bt300.1 t306 true bt302.1 bt302.2.1) else (cutroomlaw28_LoudnessGreatest.j0 k a1 (wrap64 (Go.bits .and .u16 a2 32767)) bt300.1 t306 (decide (bt302.2.1 > 4194304)) bt302.1 bt302.2.1)))))) else (cutroomlaw28_LoudnessGreatest.j0 k a1 (wrap64 (Go.bits .and .u16 a2 32767)) bt300.1 t306 true bt302.1 bt302.2.1)) else (cutroomlaw28_LoudnessGreatest.j0 k a1 (wrap64 (Go.bits .and .u16 a2 32767)) bt300.1 t306 true bt302.1 bt302.2.1))))) = some r := H
 have A4 := Aside0.mk A40
 clear A40
 replace H := Option.bind_eq_some_iff.mp H
 obtain ⟨⟨t300, t301⟩, A50, H⟩ := H
 replace H : ((loudness_Measure.f k t297).bind fun bt302 => ((loudness_Peak.f k t297).bind fun t306 => (if t301 = 0 then (if bt302.2.2 = 0 then (if t300 < 0 then (cutroomlaw28_LoudnessGreatest.j0 k a1 (wrap64 (Go.bits .and .u16 a2 32767)) t300 t306 true bt302.1 bt302.2.1) else (if t300 > 65536 then (cutroomlaw28_LoudnessGreatest.j0 k a1 (wrap64 (Go.bits .and .u16 a2 32767)) t300 t306 true bt302.1 bt302.2.1) else (if bt302.2.1 < 1 then (cutroomlaw28_LoudnessGreatest.j0 k a1 (wrap64 (Go.bits .and .u16 a2 32767)) t300 t306 true bt302.1 bt302.2.1) else (if bt302.1 < 0 then (cutroomlaw28_LoudnessGreatest.j0 k a1 (wrap64 (Go.bits .and .u16 a2 32767)) t300 t306 true bt302.1 bt302.2.1) else (if bt302.1 > 1099511627776 then (cutroomlaw28_LoudnessGreatest.j0 k a1 (wrap64 (Go.bits .and .u16 a2 32767)) t300 t306 true bt302.1 bt302.2.1) else (cutroomlaw28_LoudnessGreatest.j0 k a1 (wrap64 (Go.bits .and .u16 a2 32767)) t300 t306 (decide (bt302.2.1 > 4194304)) bt302.1 bt302.2.1)))))) else (cutroomlaw28_LoudnessGreatest.j0 k a1 (wrap64 (Go.bits .and .u16 a2 32767)) t300 t306 true bt302.1 bt302.2.1)) else (cutroomlaw28_LoudnessGreatest.j0 k a1 (wrap64 (Go.bits .and .u16 a2 32767)) t300 t306 true bt302.1 bt302.2.1)))) = some r := H
 have A5 := Aside0.mk A50
 clear A50
 replace H := Option.bind_eq_some_iff.mp H
 obtain ⟨⟨t302, t303, t304⟩, A60, H⟩ := H
 replace H : ((loudness_Peak.f k t297).bind fun t306 => (if t301 = 0 then (if t304 = 0 then (if t300 < 0 then (cutroomlaw28_LoudnessGreatest.j0 k a1 (wrap64 (Go.bits .and .u16 a2 32767)) t300 t306 true t302 t303) else (if t300 > 65536 then (cutroomlaw28_LoudnessGreatest.j0 k a1 (wrap64 (Go.bits .and .u16 a2 32767)) t300 t306 true t302 t303) else (if t303 < 1 then (cutroomlaw28_LoudnessGreatest.j0 k a1 (wrap64 (Go.bits .and .u16 a2 32767)) t300 t306 true t302 t303) else (if t302 < 0 then (cutroomlaw28_LoudnessGreatest.j0 k a1 (wrap64 (Go.bits .and .u16 a2 32767)) t300 t306 true t302 t303) else (if t302 > 1099511627776 then (cutroomlaw28_LoudnessGreatest.j0 k a1 (wrap64 (Go.bits .and .u16 a2 32767)) t300 t306 true t302 t303) else (cutroomlaw28_LoudnessGreatest.j0 k a1 (wrap64 (Go.bits .and .u16 a2 32767)) t300 t306 (decide (t303 > 4194304)) t302 t303)))))) else (cutroomlaw28_LoudnessGreatest.j0 k a1 (wrap64 (Go.bits .and .u16 a2 32767)) t300 t306 true t302 t303)) else (cutroomlaw28_LoudnessGreatest.j0 k a1 (wrap64 (Go.bits .and .u16 a2 32767)) t300 t306 true t302 t303))) = some r := H
 have A6 := Aside0.mk A60
 clear A60
 replace H := Option.bind_eq_some_iff.mp H
 obtain ⟨t306, A70, H⟩ := H
 replace H : (if t301 = 0 then (if t304 = 0 then (if t300 < 0 then (cutroomlaw28_LoudnessGreatest.j0 k a1 (wrap64 (Go.bits .and .u16 a2 32767)) t300 t306 true t302 t303) else (if t300 > 65536 then (cutroomlaw28_LoudnessGreatest.j0 k a1 (wrap64 (Go.bits .and .u16 a2 32767)) t300 t306 true t302 t303) else (if t303 < 1 then (cutroomlaw28_LoudnessGreatest.j0 k a1 (wrap64 (Go.bits .and .u16 a2 32767)) t300 t306 true t302 t303) else (if t302 < 0 then (cutroomlaw28_LoudnessGreatest.j0 k a1 (wrap64 (Go.bits .and .u16 a2 32767)) t300 t306 true t302 t303) else (if t302 > 1099511627776 then (cutroomlaw28_LoudnessGreatest.j0 k a1 (wrap64 (Go.bits .and .u16 a2 32767)) t300 t306 true t302 t303) else (cutroomlaw28_LoudnessGreatest.j0 k a1 (wrap64 (Go.bits .and .u16 a2 32767)) t300 t306 (decide (t303 > 4194304)) t302 t303)))))) else (cutroomlaw28_LoudnessGreatest.j0 k a1 (wrap64 (Go.bits .and .u16 a2 32767)) t300 t306 true t302 t303)) else (cutroomlaw28_LoudnessGreatest.j0 k a1 (wrap64 (Go.bits .and .u16 a2 32767)) t300 t306 true t302 t303)) = some r := H
 have A7 := Aside0.mk A70
 clear A70
 have HC8 := Aside0.mk H
 clear H
 go_enter Try.func5, Try.ntmps5
 go_upto_region 6 with (first | ((with_reducible refine gate_callee (f := 13) rfl ?_); refine goesL_ (some 15) rfl rfl Try.func13 (by kernel_rfl) rfl #[.slice A0 l0.length c0, .int .i64 200] rfl (by (try simp only [List.map_toArray, List.map_cons, List.map_nil]); first | done | rfl | (simp only [List.length_drop, List.length_take]; rfl)) ?_; (with_reducible refine (cutroomlaw28_made.calls k _ _ l0 200 t297 _ ?side1 ?side2 A4.out).mono ?_); (case side1 => repeat (first | exact HR0.out | (with_reducible refine Kd.C_alloc ?_ _) | (with_reducible refine Kd.C_drewN ?_ _) | (with_reducible refine Kd.C_drew ?_))); (case side2 => exact HC0.out); rintro e w9 ⟨v298, rfl, ho0, hb⟩; refine ⟨_, rfl, ?_⟩; have n0_ := Aside0.mk (Kd.S_lower ho0 (below_size (by repeat (first | (with_reducible first | exact HB.out | apply below_alloc | apply pw_below_drewN | apply below_drew1) | exact HB.out)))); have n1_ := Aside0.mk (below_step (by repeat (first | (with_reducible first | exact HB.out | apply below_alloc | apply pw_below_drewN | apply below_drew1) | exact HB.out)) hb); clear HB; have HO299 := n0_; have HB := n1_; clear n0_ n1_; (try clear hb); (try clear hb2); (try clear hk); (try clear hi); (try clear ho0); obtain ⟨Ao10, co10, eo10⟩ := Kd.S_slice HO299.out; subst eo10) | ((with_reducible refine gate_callee (f := 25) rfl ?_); refine goesL_ (some 24) rfl rfl Try.func25 (by kernel_rfl) rfl #[.slice Ao10 t297.length co10, .int .i64 (wrap64 (a1)), .int .i64 (wrap64 (Go.bits .and .u16 a2 32767))] rfl (by (try simp only [List.map_toArray, List.map_cons, List.map_nil]); first | done | rfl | (simp only [List.length_drop, List.length_take]; rfl)) ?_; (with_reducible refine (loudness_Gain.calls k _ _ t297 (wrap64 (a1)) (wrap64 (Go.bits .and .u16 a2 32767)) t300 t301 _ ?side1 ?side2 A5.out).mono ?_); (case side1 => repeat (first | exact (Kd.S_reads' HO299.out).2.2 | (with_reducible refine Kd.C_alloc ?_ _) | (with_reducible refine Kd.C_drewN ?_ _) | (with_reducible refine Kd.C_drew ?_))); (case side2 => exact (Kd.S_reads' HO299.out).2.1); rintro e w11 ⟨rfl, hb⟩; refine ⟨_, rfl, ?_⟩; have n0_ := Aside0.mk (Kd.S_below (by (with_reducible repeat (first | apply Kd.S_alloc | apply Kd.S_drewN | apply Kd.S_drew)); exact HO299.out) hb); have n1_ := Aside0.mk (below_step (by repeat (first | (with_reducible first | exact HB.out | apply below_alloc | apply pw_below_drewN | apply below_drew1) | exact HB.out)) hb); clear HO299; clear HB; have HO299 := n0_; have HB := n1_; clear n0_ n1_; (try clear hb); (try clear hb2); (try clear hk); (try clear hi)) | ((with_reducible refine gate_callee (f := 22) rfl ?_); refine goesL_ (some 29) rfl rfl Try.func22 (by kernel_rfl) rfl #[.slice Ao10 t297.length co10] rfl (by (try simp only [List.map_toArray, List.map_cons, List.map_nil]); first | done | rfl | (simp only [List.length_drop, List.length_take]; rfl)) ?_; (with_reducible refine (loudness_Measure.calls k _ _ t297 t302 t303 t304 _ ?side1 ?side2 A6.out).mono ?_); (case side1 => repeat (first | exact (Kd.S_reads' HO299.out).2.2 | (with_reducible refine Kd.C_alloc ?_ _) | (with_reducible refine Kd.C_drewN ?_ _) | (with_reducible refine Kd.C_drew ?_))); (case side2 => exact (Kd.S_reads' HO299.out).2.1); rintro e w12 ⟨rfl, hb⟩; refine ⟨_, rfl, ?_⟩; have n0_ := Aside0.mk (Kd.S_below (by (with_reducible repeat (first | apply Kd.S_alloc | apply Kd.S_drewN | apply Kd.S_drew)); exact HO299.out) hb); have n1_ := Aside0.mk (below_step (by repeat (first | (with_reducible first | exact HB.out | apply below_alloc | apply pw_below_drewN | apply below_drew1) | exact HB.out)) hb); clear HO299; clear HB; have HO299 := n0_; have HB := n1_; clear n0_ n1_; (try clear hb); (try clear hb2); (try clear hk); (try clear hi)) | ((with_reducible refine gate_dst (N := 11) rfl ?_); refine box_event ?hg (N := 11) ?hd (cs := #[.int .i64 0, .int .i64 0]) (t := 37) ?hr ?_; (case hd => rfl); (case hg => rfl); (case hr => first | (go_simp; done) | (go_simp; rfl)); intro gb305 hg w13 hbox hb; have n0_ := Aside0.mk (Kd.S_below (by (with_reducible repeat (first | apply Kd.S_alloc | apply Kd.S_drewN | apply Kd.S_drew)); exact HO299.out) hb); have n1_ := Aside0.mk (below_step (by repeat (first | (with_reducible first | exact HB.out | apply below_alloc | apply pw_below_drewN | apply below_drew1) | exact HB.out)) hb); have n2_ := Aside0.mk (hbox); have n3_ := Aside0.mk ((by rw [hg]; exact (below_size (by repeat (first | (with_reducible first | exact HB.out | apply below_alloc | apply pw_below_drewN | apply below_drew1) | exact HB.out))) : w.heap.size ≤ gb305)); have n4_ := Aside0.mk ((by rw [hg]; exact (below_size (by repeat (first | (with_reducible first | exact HB.out | apply below_alloc | apply pw_below_drewN | apply below_drew1) | exact HB.out))) : w.heap.size ≤ gb305)); clear HO299; clear HB; have HO299 := n0_; have HB := n1_; have BK305 := n2_; have GW305 := n3_; have GE305 := n4_; clear n0_ n1_ n2_ n3_ n4_; clear hb hbox hg; have hcz14_0 : w13.cell? ⟨gb305, 0, none⟩ = some (.int .i64 0) := (blk_cell BK305.out 0).trans rfl; have hcz14_1 : w13.cell? ⟨gb305, 1, none⟩ = some (.int .i64 0) := (blk_cell BK305.out 1).trans rfl; have hfz14_0 := blk_frozen BK305.out 0; have hfz14_1 := blk_frozen BK305.out 1) | ((with_reducible refine gate_callee (f := 17) rfl ?_); refine goesL_ (some 33) rfl rfl Try.func17 (by kernel_rfl) rfl #[.slice Ao10 t297.length co10] rfl (by (try simp only [List.map_toArray, List.map_cons, List.map_nil]); first | done | rfl | (simp only [List.length_drop, List.length_take]; rfl)) ?_; (with_reducible refine (loudness_Peak.calls k _ _ t297 t306 _ ?side1 ?side2 A7.out).mono ?_); (case side1 => refine (Kd.S_reads' (e := 47) (base := w.heap.size) (ok := fun k_ => True) (n := t297.length) (c := co10) ?_).2.2; exact (by (with_reducible repeat (first | apply Kd.S_alloc | apply Kd.S_drewN | apply Kd.S_drew)); exact (Kd.S_mono (Kd.S_far (p := ⟨gb305, 1, none⟩) (Kd.S_far (p := ⟨gb305, 0, none⟩) (Kd.S_types HO299.out BK305.out (by decide)) (fun _ hk => hk.2) (.int .i64 t302)) (fun _ hk => hk.2) (.int .i64 t303)) (fun _ h_ => h_.1)))); (case side2 => exact (Kd.S_reads' HO299.out).2.1); rintro e w15 ⟨rfl, hb⟩; refine ⟨_, rfl, ?_⟩; have n0_ := Aside0.mk (Kd.S_below (by (with_reducible repeat (first | apply Kd.S_alloc | apply Kd.S_drewN | apply Kd.S_drew)); exact (Kd.S_mono (Kd.S_far (p := ⟨gb305, 1, none⟩) (Kd.S_far (p := ⟨gb305, 0, none⟩) (Kd.S_types HO299.out BK305.out (by decide)) (fun _ hk => hk.2) (.int .i64 t302)) (fun _ hk => hk.2) (.int .i64 t303)) (fun _ h_ => h_.1))) hb); have n1_ := Aside0.mk (blk_below (g := gb305) (o := .cells #[.int .i64 t302, .int .i64 t303] 37 (0, 0)) (by (with_reducible repeat (first | refine blk_drewN ?_ _ | refine blk_drew ?_ | refine blk_alloc ?_ _)); refine blk_put (cs := #[.int .i64 t302, .int .i64 0]) ?_ 1 _ rfl; (with_reducible repeat (first | refine blk_drewN ?_ _ | refine blk_drew ?_ | refine blk_alloc ?_ _)); refine blk_put (cs := #[.int .i64 0, .int .i64 0]) ?_ 0 _ rfl; (with_reducible repeat (first | refine blk_drewN ?_ _ | refine blk_drew ?_ | refine blk_alloc ?_ _)); exact BK305.out) hb); have n2_ := Aside0.mk (below_step (by repeat (first | (with_reducible first | exact HB.out | apply below_alloc | apply pw_below_drewN | apply below_drew1 | refine below_set ?_ GE305.out) | exact HB.out)) hb); clear HO299; clear BK305; clear HB; have HO299 := n0_; have BK305 := n1_; have HB := n2_; clear n0_ n1_ n2_; (try clear hb); (try clear hb2); (try clear hk); (try clear hi)))
 (try simp only [Act.put, List.setIfInBounds_toArray, List.set_cons_zero, List.set_cons_succ])
 go_cut [67] (fun v67 wc => ∃ (kq : Nat) (x67_7 : Bool), v67 = .bool x67_7 ∧ Aside0 (cutroomlaw28_LoudnessGreatest.j0 kq a1 (wrap64 (Go.bits .and .u16 a2 32767)) t300 t306 x67_7 t302 t303 = some r) ∧ Aside0 (kq ≤ k) ∧ Aside0 (wc.heap[gb305]? = some (.cells #[.int .i64 t302, .int .i64 t303] 37 (0, 0))) ∧ Aside0 (Below w.heap.size w wc))
 case first =>
  have H := HC8.out
  clear HC8
  by_cases c16 : t301 = 0
  ·rw [if_pos c16] at H
   have c16b0 : (t301 == 0) = true := beq_iff_eq.mpr c16
   have c16b1 : (t301 != 0) = false := bne_eq_false_iff_eq.mpr c16
   clear c16
   (first | rw [c16b0] | (simp only [i64_w, i32_w]; rw [c16b0]) | skip)
   by_cases c17 : t304 = 0
   ·rw [if_pos c17] at H
    have c17b0 : (t304 == 0) = true := beq_iff_eq.mpr c17
    have c17b1 : (t304 != 0) = false := bne_eq_false_iff_eq.mpr c17
    clear c17
    by_cases c18 : t300 < 0
    ·rw [if_pos c18] at H
     have c18b0 : decide (t300 < 0) = true := decide_eq_true c18
     clear c18
     have H' := Aside0.mk H
     clear H
     go_wp2
     go_meet
     case rel => exact ⟨_, (true), (by first | rfl | (simp; done) | (simp [*]; done)), H', ⟨by first | omega | exact Nat.le_refl _⟩, ⟨by (with_reducible repeat (first | refine blk_drewN ?_ _ | refine blk_drew ?_ | refine blk_alloc ?_ _)); exact BK305.out⟩, ⟨by repeat (first | (with_reducible first | exact HB.out | apply below_alloc | apply pw_below_drewN | apply below_drew1 | refine below_set ?_ GE305.out) | exact HB.out)⟩⟩
    ·rw [if_neg c18] at H
     have c18b0 : decide (t300 < 0) = false := decide_eq_false c18
     clear c18
     by_cases c19 : t300 > 65536
     ·rw [if_pos c19] at H
      have c19b0 : decide (65536 < t300) = true := decide_eq_true c19
      clear c19
      have H' := Aside0.mk H
      clear H
      go_wp2
      go_meet
      case rel => exact ⟨_, (true), (by first | rfl | (simp; done) | (simp [*]; done)), H', ⟨by first | omega | exact Nat.le_refl _⟩, ⟨by (with_reducible repeat (first | refine blk_drewN ?_ _ | refine blk_drew ?_ | refine blk_alloc ?_ _)); exact BK305.out⟩, ⟨by repeat (first | (with_reducible first | exact HB.out | apply below_alloc | apply pw_below_drewN | apply below_drew1 | refine below_set ?_ GE305.out) | exact HB.out)⟩⟩
     ·rw [if_neg c19] at H
      have c19b0 : decide (65536 < t300) = false := decide_eq_false c19
      clear c19
      by_cases c20 : t303 < 1
      ·rw [if_pos c20] at H
       have c20b0 : decide (t303 < 1) = true := decide_eq_true c20
       clear c20
       have H' := Aside0.mk H
       clear H
       have hcz21_0 : w15.cell? ⟨gb305, 0, none⟩ = some (.int .i64 t302) := (blk_cell BK305.out 0).trans rfl
       have hcz21_1 : w15.cell? ⟨gb305, 1, none⟩ = some (.int .i64 t303) := (blk_cell BK305.out 1).trans rfl
       have hfz21_0 := blk_frozen BK305.out 0
       have hfz21_1 := blk_frozen BK305.out 1
       go_wp2
       go_meet
       case rel => exact ⟨_, (true), (by first | rfl | (simp; done) | (simp [*]; done)), H', ⟨by first | omega | exact Nat.le_refl _⟩, ⟨by (with_reducible repeat (first | refine blk_drewN ?_ _ | refine blk_drew ?_ | refine blk_alloc ?_ _)); exact BK305.out⟩, ⟨by repeat (first | (with_reducible first | exact HB.out | apply below_alloc | apply pw_below_drewN | apply below_drew1 | refine below_set ?_ GE305.out) | exact HB.out)⟩⟩
      ·rw [if_neg c20] at H
       have c20b0 : decide (t303 < 1) = false := decide_eq_false c20
       clear c20
       by_cases c22 : t302 < 0
       ·rw [if_pos c22] at H
        have c22b0 : decide (t302 < 0) = true := decide_eq_true c22
        clear c22
        have H' := Aside0.mk H
        clear H
        have hcz23_0 : w15.cell? ⟨gb305, 0, none⟩ = some (.int .i64 t302) := (blk_cell BK305.out 0).trans rfl
        have hcz23_1 : w15.cell? ⟨gb305, 1, none⟩ = some (.int .i64 t303) := (blk_cell BK305.out 1).trans rfl
        have hfz23_0 := blk_frozen BK305.out 0
        have hfz23_1 := blk_frozen BK305.out 1
        go_wp2
        go_meet
        case rel => exact ⟨_, (true), (by first | rfl | (simp; done) | (simp [*]; done)), H', ⟨by first | omega | exact Nat.le_refl _⟩, ⟨by (with_reducible repeat (first | refine blk_drewN ?_ _ | refine blk_drew ?_ | refine blk_alloc ?_ _)); exact BK305.out⟩, ⟨by repeat (first | (with_reducible first | exact HB.out | apply below_alloc | apply pw_below_drewN | apply below_drew1 | refine below_set ?_ GE305.out) | exact HB.out)⟩⟩
       ·rw [if_neg c22] at H
        have c22b0 : decide (t302 < 0) = false := decide_eq_false c22
        clear c22
        by_cases c24 : t302 > 1099511627776
        ·rw [if_pos c24] at H
         have c24b0 : decide (1099511627776 < t302) = true := decide_eq_true c24
         clear c24
         have H' := Aside0.mk H
         clear H
         have hcz25_0 : w15.cell? ⟨gb305, 0, none⟩ = some (.int .i64 t302) := (blk_cell BK305.out 0).trans rfl
         have hcz25_1 : w15.cell? ⟨gb305, 1, none⟩ = some (.int .i64 t303) := (blk_cell BK305.out 1).trans rfl
         have hfz25_0 := blk_frozen BK305.out 0
         have hfz25_1 := blk_frozen BK305.out 1
         go_wp2
         go_meet
         case rel => exact ⟨_, (true), (by first | rfl | (simp; done) | (simp [*]; done)), H', ⟨by first | omega | exact Nat.le_refl _⟩, ⟨by (with_reducible repeat (first | refine blk_drewN ?_ _ | refine blk_drew ?_ | refine blk_alloc ?_ _)); exact BK305.out⟩, ⟨by repeat (first | (with_reducible first | exact HB.out | apply below_alloc | apply pw_below_drewN | apply below_drew1 | refine below_set ?_ GE305.out) | exact HB.out)⟩⟩
        ·rw [if_neg c24] at H
         have c24b0 : decide (1099511627776 < t302) = false := decide_eq_false c24
         clear c24
         have H' := Aside0.mk H
         clear H
         have hcz26_0 : w15.cell? ⟨gb305, 0, none⟩ = some (.int .i64 t302) := (blk_cell BK305.out 0).trans rfl
         have hcz26_1 : w15.cell? ⟨gb305, 1, none⟩ = some (.int .i64 t303) := (blk_cell BK305.out 1).trans rfl
         have hfz26_0 := blk_frozen BK305.out 0
         have hfz26_1 := blk_frozen BK305.out 1
         go_wp2
         go_meet
         case rel => exact ⟨_, (decide (t303 > 4194304)), (by first | rfl | (simp; done) | (simp [*]; done)), H', ⟨by first | omega | exact Nat.le_refl _⟩, ⟨by (with_reducible repeat (first | refine blk_drewN ?_ _ | refine blk_drew ?_ | refine blk_alloc ?_ _)); exact BK305.out⟩, ⟨by repeat (first | (with_reducible first | exact HB.out | apply below_alloc | apply pw_below_drewN | apply below_drew1 | refine below_set ?_ GE305.out) | exact HB.out)⟩⟩
   ·rw [if_neg c17] at H
    have c17b0 : (t304 == 0) = false := beq_eq_false_iff_ne.mpr c17
    have c17b1 : (t304 != 0) = true := bne_iff_ne.mpr c17
    have H' := Aside0.mk H
    clear H
    go_wp2
    go_meet
    case rel => exact ⟨_, (true), (by first | rfl | (simp; done) | (simp [*]; done)), H', ⟨by first | omega | exact Nat.le_refl _⟩, ⟨by (with_reducible repeat (first | refine blk_drewN ?_ _ | refine blk_drew ?_ | refine blk_alloc ?_ _)); exact BK305.out⟩, ⟨by repeat (first | (with_reducible first | exact HB.out | apply below_alloc | apply pw_below_drewN | apply below_drew1 | refine below_set ?_ GE305.out) | exact HB.out)⟩⟩
  ·rw [if_neg c16] at H
   have c16b0 : (t301 == 0) = false := beq_eq_false_iff_ne.mpr c16
   have c16b1 : (t301 != 0) = true := bne_iff_ne.mpr c16
   (first | rw [c16b0] | (simp only [i64_w, i32_w]; rw [c16b0]) | skip)
   have H' := Aside0.mk H
   clear H
   go_wp2
   go_meet
   case rel => exact ⟨_, (true), (by first | rfl | (simp; done) | (simp [*]; done)), H', ⟨by first | omega | exact Nat.le_refl _⟩, ⟨by (with_reducible repeat (first | refine blk_drewN ?_ _ | refine blk_drew ?_ | refine blk_alloc ?_ _)); exact BK305.out⟩, ⟨by repeat (first | (with_reducible first | exact HB.out | apply below_alloc | apply pw_below_drewN | apply below_drew1 | refine below_set ?_ GE305.out) | exact HB.out)⟩⟩
 case rest =>
  clear HC8
  (try clear c1);(try clear c2);(try clear p2);(try clear c5);(try clear p6);(try clear c13);(try clear c16);(try clear c16b0);(try clear c16b1);(try clear c17);(try clear c17b0);(try clear c17b1);(try clear c18);(try clear c18b0);(try clear c19);(try clear c19b0);(try clear c20);(try clear c20b0);(try clear c22);(try clear c22b0);(try clear c24);(try clear c24b0);(try clear c25);(try clear hcz14_0);(try clear hcz14_1);(try clear hcz21_0);(try clear hcz21_1);(try clear hcz23_0);(try clear hcz23_1);(try clear hcz25_0);(try clear hcz25_1);(try clear hcz26_0);(try clear hcz26_1);(try clear hfz14_0);(try clear hfz14_1);(try clear hfz21_0);(try clear hfz21_1);(try clear hfz23_0);(try clear hfz23_1);(try clear hfz25_0);(try clear hfz25_1);(try clear hfz26_0);(try clear hfz26_1)
  obtain ⟨kq, x67_7, rfl, HA, HJ7, BK305, HB⟩ := hcut
  cases kq with
  | zero => exact absurd HA.out (by simp [cutroomlaw28_LoudnessGreatest.j0])
  | succ kj7 =>
   have H := HA.out
   clear HA
   simp only [cutroomlaw28_LoudnessGreatest.j0] at H
   by_cases c27 : x67_7 = true
   ·subst c27
    have H1 : (some false) = some r := by rw [if_pos rfl] at H; exact H
    clear H
    have H := H1
    clear H1
    obtain rfl := Option.some.inj H
    go_wp2
    go_ret
    exact ⟨by first | rfl | (simp [errW_none, errW_some] <;> rfl) | (simp [*, errW_none, errW_some] <;> rfl), by repeat (first | (with_reducible first | exact HB.out | apply below_alloc | apply pw_below_drewN | apply below_drew1 | refine below_set ?_ GE305.out) | exact HB.out)⟩
   ·replace c27 := Bool.eq_false_iff.mpr c27
    subst c27
    have H1 : ((cutroomlaw28_keeps.f t300 t302 t303 (wrap64 (a1)) t306 (wrap64 (Go.bits .and .u16 a2 32767))).bind fun t307 => (if t307 = true then (if t300 = 65536 then ((cutroomlaw28_awake.f kj7).bind fun t308 => (some t308)) else ((cutroomlaw28_keeps.f (wrap64 (t300 + 1)) t302 t303 (wrap64 (a1)) t306 (wrap64 (Go.bits .and .u16 a2 32767))).bind fun t309 => (if t309 = true then (some false) else ((cutroomlaw28_awake.f kj7).bind fun t310 => (some t310))))) else (some false))) = some r := by rw [if_neg (show ¬ (false = true) by decide)] at H; exact H
    clear H
    have H := H1
    clear H1
    replace H := Option.bind_eq_some_iff.mp H
    obtain ⟨t307, A280, H⟩ := H
    replace H : (if t307 = true then (if t300 = 65536 then ((cutroomlaw28_awake.f kj7).bind fun t308 => (some t308)) else ((cutroomlaw28_keeps.f (wrap64 (t300 + 1)) t302 t303 (wrap64 (a1)) t306 (wrap64 (Go.bits .and .u16 a2 32767))).bind fun t309 => (if t309 = true then (some false) else ((cutroomlaw28_awake.f kj7).bind fun t310 => (some t310))))) else (some false)) = some r := H
    have A28 := Aside0.mk A280
    clear A280
    by_cases c29 : t307 = true
    ·subst c29
     have H1 : (if t300 = 65536 then ((cutroomlaw28_awake.f kj7).bind fun t308 => (some t308)) else ((cutroomlaw28_keeps.f (wrap64 (t300 + 1)) t302 t303 (wrap64 (a1)) t306 (wrap64 (Go.bits .and .u16 a2 32767))).bind fun t309 => (if t309 = true then (some false) else ((cutroomlaw28_awake.f kj7).bind fun t310 => (some t310))))) = some r := by rw [if_pos rfl] at H; exact H
     clear H
     have H := H1
     clear H1
     by_cases c30 : t300 = 65536
     ·rw [if_pos c30] at H
      have c30b0 : (t300 == 65536) = true := beq_iff_eq.mpr c30
      have c30b1 : (t300 != 65536) = false := bne_eq_false_iff_eq.mpr c30
      clear c30
      replace H := Option.bind_eq_some_iff.mp H
      obtain ⟨t308, A310, H⟩ := H
      replace H : (some t308) = some r := H
      have A31 := Aside0.mk A310
      clear A310
      obtain rfl := Option.some.inj H
      have hcz32_0 : wc.cell? ⟨gb305, 0, none⟩ = some (.int .i64 t302) := (blk_cell BK305.out 0).trans rfl
      have hcz32_1 : wc.cell? ⟨gb305, 1, none⟩ = some (.int .i64 t303) := (blk_cell BK305.out 1).trans rfl
      have hfz32_0 := blk_frozen BK305.out 0
      have hfz32_1 := blk_frozen BK305.out 1
      go_wp2_with (first | ((with_reducible refine gate_callee (f := 26) rfl ?_); refine goesL_ (some 74) rfl rfl Try.func26 (by kernel_rfl) rfl #[.int .i64 t300, .agg #[.int .i64 t302, .int .i64 t303], .int .i64 (wrap64 (a1)), .int .i64 t306, .int .i64 (wrap64 (Go.bits .and .u16 a2 32767))] rfl (by (try simp only [List.map_toArray, List.map_cons, List.map_nil]); first | done | rfl | (simp only [List.length_drop, List.length_take]; rfl)) ?_; (with_reducible refine (cutroomlaw28_keeps.calls t300 t302 t303 (wrap64 (a1)) t306 (wrap64 (Go.bits .and .u16 a2 32767)) true _ A28.out).mono ?_); rintro e w33 ⟨rfl, hb⟩; refine ⟨_, rfl, ?_⟩; have n0_ := Aside0.mk (blk_below (g := gb305) (o := .cells #[.int .i64 t302, .int .i64 t303] 37 (0, 0)) (by (with_reducible repeat (first | refine blk_drewN ?_ _ | refine blk_drew ?_ | refine blk_alloc ?_ _)); exact BK305.out) hb); have n1_ := Aside0.mk (below_step (by repeat (first | (with_reducible first | exact HB.out | apply below_alloc | apply pw_below_drewN | apply below_drew1 | refine below_set ?_ GE305.out) | exact HB.out)) hb); clear BK305; clear HB; have BK305 := n0_; have HB := n1_; clear n0_ n1_; (try clear hb); (try clear hb2); (try clear hk); (try clear hi)) | (go_at_call 19; (with_reducible refine (cutroomlaw28_awake.calls kj7  t308 _ A31.out).mono ?_); rintro e w34 ⟨rfl, hb⟩; have n0_ := Aside0.mk (blk_below (g := gb305) (o := .cells #[.int .i64 t302, .int .i64 t303] 37 (0, 0)) (by (with_reducible repeat (first | refine blk_drewN ?_ _ | refine blk_drew ?_ | refine blk_alloc ?_ _)); exact BK305.out) hb); have n1_ := Aside0.mk (below_step (by repeat (first | (with_reducible first | exact HB.out | apply below_alloc | apply pw_below_drewN | apply below_drew1 | refine below_set ?_ GE305.out) | exact HB.out)) hb); clear BK305; clear HB; have BK305 := n0_; have HB := n1_; clear n0_ n1_; (try clear hb); (try clear hb2); (try clear hk); (try clear hi)))
      go_ret
      exact ⟨by first | rfl | (simp [errW_none, errW_some] <;> rfl) | (simp [*, errW_none, errW_some] <;> rfl), by repeat (first | (with_reducible first | exact HB.out | apply below_alloc | apply pw_below_drewN | apply below_drew1 | refine below_set ?_ GE305.out) | exact HB.out)⟩
     ·rw [if_neg c30] at H
      have c30b0 : (t300 == 65536) = false := beq_eq_false_iff_ne.mpr c30
      have c30b1 : (t300 != 65536) = true := bne_iff_ne.mpr c30
      replace H := Option.bind_eq_some_iff.mp H
      obtain ⟨t309, A350, H⟩ := H
      replace H : (if t309 = true then (some false) else ((cutroomlaw28_awake.f kj7).bind fun t310 => (some t310))) = some r := H
      have A35 := Aside0.mk A350
      clear A350
      by_cases c36 : t309 = true
      ·subst c36
       have H1 : (some false) = some r := by rw [if_pos rfl] at H; exact H
       clear H
       have H := H1
       clear H1
       obtain rfl := Option.some.inj H
       have hcz37_0 : wc.cell? ⟨gb305, 0, none⟩ = some (.int .i64 t302) := (blk_cell BK305.out 0).trans rfl
       have hcz37_1 : wc.cell? ⟨gb305, 1, none⟩ = some (.int .i64 t303) := (blk_cell BK305.out 1).trans rfl
       have hfz37_0 := blk_frozen BK305.out 0
       have hfz37_1 := blk_frozen BK305.out 1
       go_wp2_with (first | ((with_reducible refine gate_callee (f := 26) rfl ?_); refine goesL_ (some 74) rfl rfl Try.func26 (by kernel_rfl) rfl #[.int .i64 t300, .agg #[.int .i64 t302, .int .i64 t303], .int .i64 (wrap64 (a1)), .int .i64 t306, .int .i64 (wrap64 (Go.bits .and .u16 a2 32767))] rfl (by (try simp only [List.map_toArray, List.map_cons, List.map_nil]); first | done | rfl | (simp only [List.length_drop, List.length_take]; rfl)) ?_; (with_reducible refine (cutroomlaw28_keeps.calls t300 t302 t303 (wrap64 (a1)) t306 (wrap64 (Go.bits .and .u16 a2 32767)) true _ A28.out).mono ?_); rintro e w38 ⟨rfl, hb⟩; refine ⟨_, rfl, ?_⟩; have n0_ := Aside0.mk (blk_below (g := gb305) (o := .cells #[.int .i64 t302, .int .i64 t303] 37 (0, 0)) (by (with_reducible repeat (first | refine blk_drewN ?_ _ | refine blk_drew ?_ | refine blk_alloc ?_ _)); exact BK305.out) hb); have n1_ := Aside0.mk (below_step (by repeat (first | (with_reducible first | exact HB.out | apply below_alloc | apply pw_below_drewN | apply below_drew1 | refine below_set ?_ GE305.out) | exact HB.out)) hb); clear BK305; clear HB; have BK305 := n0_; have HB := n1_; clear n0_ n1_; (try clear hb); (try clear hb2); (try clear hk); (try clear hi); have hcz39_0 : w38.cell? ⟨gb305, 0, none⟩ = some (.int .i64 t302) := (blk_cell BK305.out 0).trans rfl; have hcz39_1 : w38.cell? ⟨gb305, 1, none⟩ = some (.int .i64 t303) := (blk_cell BK305.out 1).trans rfl; have hfz39_0 := blk_frozen BK305.out 0; have hfz39_1 := blk_frozen BK305.out 1) | (go_at_call 26; (with_reducible refine (cutroomlaw28_keeps.calls (wrap64 (t300 + 1)) t302 t303 (wrap64 (a1)) t306 (wrap64 (Go.bits .and .u16 a2 32767)) true _ A35.out).mono ?_); rintro e w40 ⟨rfl, hb⟩; have n0_ := Aside0.mk (blk_below (g := gb305) (o := .cells #[.int .i64 t302, .int .i64 t303] 37 (0, 0)) (by (with_reducible repeat (first | refine blk_drewN ?_ _ | refine blk_drew ?_ | refine blk_alloc ?_ _)); exact BK305.out) hb); have n1_ := Aside0.mk (below_step (by repeat (first | (with_reducible first | exact HB.out | apply below_alloc | apply pw_below_drewN | apply below_drew1 | refine below_set ?_ GE305.out) | exact HB.out)) hb); clear BK305; clear HB; have BK305 := n0_; have HB := n1_; clear n0_ n1_; (try clear hb); (try clear hb2); (try clear hk); (try clear hi)))
       go_ret
       exact ⟨by first | rfl | (simp [errW_none, errW_some] <;> rfl) | (simp [*, errW_none, errW_some] <;> rfl), by repeat (first | (with_reducible first | exact HB.out | apply below_alloc | apply pw_below_drewN | apply below_drew1 | refine below_set ?_ GE305.out) | exact HB.out)⟩
      ·replace c36 := Bool.eq_false_iff.mpr c36
       subst c36
       have H1 : ((cutroomlaw28_awake.f kj7).bind fun t310 => (some t310)) = some r := by rw [if_neg (show ¬ (false = true) by decide)] at H; exact H
       clear H
       have H := H1
       clear H1
       replace H := Option.bind_eq_some_iff.mp H
       obtain ⟨t310, A410, H⟩ := H
       replace H : (some t310) = some r := H
       have A41 := Aside0.mk A410
       clear A410
       obtain rfl := Option.some.inj H
       have hcz42_0 : wc.cell? ⟨gb305, 0, none⟩ = some (.int .i64 t302) := (blk_cell BK305.out 0).trans rfl
       have hcz42_1 : wc.cell? ⟨gb305, 1, none⟩ = some (.int .i64 t303) := (blk_cell BK305.out 1).trans rfl
       have hfz42_0 := blk_frozen BK305.out 0
       have hfz42_1 := blk_frozen BK305.out 1
       go_wp2_with (first | ((with_reducible refine gate_callee (f := 26) rfl ?_); refine goesL_ (some 74) rfl rfl Try.func26 (by kernel_rfl) rfl #[.int .i64 t300, .agg #[.int .i64 t302, .int .i64 t303], .int .i64 (wrap64 (a1)), .int .i64 t306, .int .i64 (wrap64 (Go.bits .and .u16 a2 32767))] rfl (by (try simp only [List.map_toArray, List.map_cons, List.map_nil]); first | done | rfl | (simp only [List.length_drop, List.length_take]; rfl)) ?_; (with_reducible refine (cutroomlaw28_keeps.calls t300 t302 t303 (wrap64 (a1)) t306 (wrap64 (Go.bits .and .u16 a2 32767)) true _ A28.out).mono ?_); rintro e w43 ⟨rfl, hb⟩; refine ⟨_, rfl, ?_⟩; have n0_ := Aside0.mk (blk_below (g := gb305) (o := .cells #[.int .i64 t302, .int .i64 t303] 37 (0, 0)) (by (with_reducible repeat (first | refine blk_drewN ?_ _ | refine blk_drew ?_ | refine blk_alloc ?_ _)); exact BK305.out) hb); have n1_ := Aside0.mk (below_step (by repeat (first | (with_reducible first | exact HB.out | apply below_alloc | apply pw_below_drewN | apply below_drew1 | refine below_set ?_ GE305.out) | exact HB.out)) hb); clear BK305; clear HB; have BK305 := n0_; have HB := n1_; clear n0_ n1_; (try clear hb); (try clear hb2); (try clear hk); (try clear hi); have hcz44_0 : w43.cell? ⟨gb305, 0, none⟩ = some (.int .i64 t302) := (blk_cell BK305.out 0).trans rfl; have hcz44_1 : w43.cell? ⟨gb305, 1, none⟩ = some (.int .i64 t303) := (blk_cell BK305.out 1).trans rfl; have hfz44_0 := blk_frozen BK305.out 0; have hfz44_1 := blk_frozen BK305.out 1) | (go_at_call 26; (with_reducible refine (cutroomlaw28_keeps.calls (wrap64 (t300 + 1)) t302 t303 (wrap64 (a1)) t306 (wrap64 (Go.bits .and .u16 a2 32767)) false _ A35.out).mono ?_); rintro e w45 ⟨rfl, hb⟩; have n0_ := Aside0.mk (blk_below (g := gb305) (o := .cells #[.int .i64 t302, .int .i64 t303] 37 (0, 0)) (by (with_reducible repeat (first | refine blk_drewN ?_ _ | refine blk_drew ?_ | refine blk_alloc ?_ _)); exact BK305.out) hb); have n1_ := Aside0.mk (below_step (by repeat (first | (with_reducible first | exact HB.out | apply below_alloc | apply pw_below_drewN | apply below_drew1 | refine below_set ?_ GE305.out) | exact HB.out)) hb); clear BK305; clear HB; have BK305 := n0_; have HB := n1_; clear n0_ n1_; (try clear hb); (try clear hb2); (try clear hk); (try clear hi)) | (go_at_call 19; (with_reducible refine (cutroomlaw28_awake.calls kj7  t310 _ A41.out).mono ?_); rintro e w46 ⟨rfl, hb⟩; have n0_ := Aside0.mk (blk_below (g := gb305) (o := .cells #[.int .i64 t302, .int .i64 t303] 37 (0, 0)) (by (with_reducible repeat (first | refine blk_drewN ?_ _ | refine blk_drew ?_ | refine blk_alloc ?_ _)); exact BK305.out) hb); have n1_ := Aside0.mk (below_step (by repeat (first | (with_reducible first | exact HB.out | apply below_alloc | apply pw_below_drewN | apply below_drew1 | refine below_set ?_ GE305.out) | exact HB.out)) hb); clear BK305; clear HB; have BK305 := n0_; have HB := n1_; clear n0_ n1_; (try clear hb); (try clear hb2); (try clear hk); (try clear hi)))
       go_ret
       exact ⟨by first | rfl | (simp [errW_none, errW_some] <;> rfl) | (simp [*, errW_none, errW_some] <;> rfl), by repeat (first | (with_reducible first | exact HB.out | apply below_alloc | apply pw_below_drewN | apply below_drew1 | refine below_set ?_ GE305.out) | exact HB.out)⟩
    ·replace c29 := Bool.eq_false_iff.mpr c29
     subst c29
     have H1 : (some false) = some r := by rw [if_neg (show ¬ (false = true) by decide)] at H; exact H
     clear H
     have H := H1
     clear H1
     obtain rfl := Option.some.inj H
     have hcz47_0 : wc.cell? ⟨gb305, 0, none⟩ = some (.int .i64 t302) := (blk_cell BK305.out 0).trans rfl
     have hcz47_1 : wc.cell? ⟨gb305, 1, none⟩ = some (.int .i64 t303) := (blk_cell BK305.out 1).trans rfl
     have hfz47_0 := blk_frozen BK305.out 0
     have hfz47_1 := blk_frozen BK305.out 1
     go_wp2_with (first | ((with_reducible refine gate_callee (f := 26) rfl ?_); refine goesL_ (some 74) rfl rfl Try.func26 (by kernel_rfl) rfl #[.int .i64 t300, .agg #[.int .i64 t302, .int .i64 t303], .int .i64 (wrap64 (a1)), .int .i64 t306, .int .i64 (wrap64 (Go.bits .and .u16 a2 32767))] rfl (by (try simp only [List.map_toArray, List.map_cons, List.map_nil]); first | done | rfl | (simp only [List.length_drop, List.length_take]; rfl)) ?_; (with_reducible refine (cutroomlaw28_keeps.calls t300 t302 t303 (wrap64 (a1)) t306 (wrap64 (Go.bits .and .u16 a2 32767)) false _ A28.out).mono ?_); rintro e w48 ⟨rfl, hb⟩; refine ⟨_, rfl, ?_⟩; have n0_ := Aside0.mk (blk_below (g := gb305) (o := .cells #[.int .i64 t302, .int .i64 t303] 37 (0, 0)) (by (with_reducible repeat (first | refine blk_drewN ?_ _ | refine blk_drew ?_ | refine blk_alloc ?_ _)); exact BK305.out) hb); have n1_ := Aside0.mk (below_step (by repeat (first | (with_reducible first | exact HB.out | apply below_alloc | apply pw_below_drewN | apply below_drew1 | refine below_set ?_ GE305.out) | exact HB.out)) hb); clear BK305; clear HB; have BK305 := n0_; have HB := n1_; clear n0_ n1_; (try clear hb); (try clear hb2); (try clear hk); (try clear hi)))
     go_ret
     exact ⟨by first | rfl | (simp [errW_none, errW_some] <;> rfl) | (simp [*, errW_none, errW_some] <;> rfl), by repeat (first | (with_reducible first | exact HB.out | apply below_alloc | apply pw_below_drewN | apply below_drew1 | refine below_set ?_ GE305.out) | exact HB.out)⟩

/-- THE ONE PURE STATEMENT of cutroomlaw28_LoudnessGreatest: yours. -/
def cutroomlaw28_LoudnessGreatest.Pure : Prop := ∀ (l0 : List Int) (a1 : Int) (a2 : Int), l0.length ≤ maxLen → l0.length * 8 ≤ 140737488351232 → (∀ x ∈ l0, (Lit.int .i64 x).wf = true) → (Lit.int .u16 a1).wf = true → (Lit.int .u16 a2).wf = true → ∃ k, cutroomlaw28_LoudnessGreatest.f k l0 a1 a2 = some true
theorem cutroomlaw28_LoudnessGreatest.walk (P : cutroomlaw28_LoudnessGreatest.Pure) (a0 : Option Addr) (len0 cap0 : Nat) (z0 : List Int) (a1 : Int) (a2 : Int) (w : World) (w0 : (a0 = none ∧ len0 = 0 ∧ cap0 = 0 ∧ z0 = []) ∨ ∃ x, a0 = some x ∧ len0 ≤ cap0 ∧ cap0 ≤ maxLen ∧ z0.length = cap0 ∧ (∀ i, i < z0.length → w.cell? (x.add i) = some (.int .i64 (z0.getD i 0))) ∧ ∀ n ∈ z0, (Lit.int .i64 n).wf = true) (y0 : len0 * 8 ≤ 140737488351232) (w1 : (Lit.int .u16 a1).wf = true) (w2 : (Lit.int .u16 a2).wf = true) :
  Calls Try.prog 5 #[.slice a0 len0 cap0, .int .u16 a1, .int .u16 a2] w fun e w' => e = .returned (.bool true) ∧ Below w.heap.size w w' := by
 obtain ⟨l0, rfl, hr0, hm0, hw0, hc0⟩ := ReadsInt.ofRowC w0
 obtain ⟨k, h⟩ := P l0 a1 a2 hm0 y0 hw0 w1 w2
 refine (cutroomlaw28_LoudnessGreatest.calls k _ _ l0 a1 a2 true w (Kd.C_of_reads (d := (0 : Int)) (h1 := fun _ => rfl) hr0) hc0 h).mono ?_
 rintro e w' ⟨rfl, hd⟩
 exact ⟨rfl, hd⟩

end Go.Proofs.Ytjcjbbcamkkeiaa.P
