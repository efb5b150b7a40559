-- Written by this session's own program (wip/tools/myprint.py), which runs the kit's print with turns of its own: not a text of the kit's print.sh.
import Derived.Test.YtjcjbbcamkkeiaaPx0
import Derived.Test.YtjcjbbcamkkeiaaPx19
import Derived.Test.YtjcjbbcamkkeiaaPx24
import Derived.Test.YtjcjbbcamkkeiaaPx54
namespace Go.Proofs.Ytjcjbbcamkkeiaa.P
open Go.RowKit Go.Proofs.YtjcjbbcamkkeiaaW.PrintWords Go.Proofs.YtjcjbbcamkkeiaaW.PrintLast Go.Proofs.YtjcjbbcamkkeiaaW.PrintMore
attribute [local go_sem] max2_int min2_int max_two min_two max_three min_three max_four min_four   -- for this text's walks alone
set_option linter.unusedVariables false
set_option linter.unusedSimpArgs false

/-! ### cutroomref28_quiet: function 40 -/
def cutroomref28_quiet.f (k : Nat) (a0 : Int) (a1_0 : Int) (a1_1 : Int) (a2 : Int) : Option (Bool) := if a1_0 = 0 then (some true) else ((cutroomref01_MulDiv.f k a2 (wrap64 (a1_1 * 16777216)) a1_0).bind fun bt441 => (if bt441.2.2 = 0 then (some (decide ((wrap64 (a0 * a0)) ≤ bt441.1))) else (some true)))
theorem cutroomref28_quiet.mono : ∀ a0 a1 a2 a3 k, LeO (cutroomref28_quiet.f k a0 a1 a2 a3) (cutroomref28_quiet.f (k + 1) a0 a1 a2 a3) := by
 intro a0 a1 a2 a3 k
 unfold cutroomref28_quiet.f
 repeat' first
   | (with_reducible exact cutroomref01_MulDiv.mono _ _ _ _)
   | (with_reducible exact LeO.refl _)
   | (with_reducible exact LeO.none _)
   | (with_reducible refine LeO.ite ?_ ?_)
   | (with_reducible refine LeO.bind ?_ (fun _ => ?_))
   | exact cutroomref01_MulDiv.mono _ _ _ _
   | exact LeO.none _
   | refine LeO.ite ?_ ?_
   | refine LeO.bind ?_ (fun _ => ?_)
set_option maxHeartbeats 8000000 in
set_option maxRecDepth 100000 in
theorem cutroomref28_quiet.calls (k : Nat) (a0 : Int) (a1_0 : Int) (a1_1 : Int) (a2 : Int) (r : Bool) (w : World) (h : cutroomref28_quiet.f k a0 a1_0 a1_1 a2 = some r) :
  Calls Try.prog 40 #[.int .i64 a0, .agg #[.int .i64 a1_0, .int .i64 a1_1], .int .i64 a2] w fun e w' => e = .returned (.bool r) ∧ Below w.heap.size w w' := by
 have hu37 := Try.underlying37
 have HB := Aside0.mk (Below.refl w.heap.size w)
 have H : (if a1_0 = 0 then (some true) else ((cutroomref01_MulDiv.f k a2 (wrap64 (a1_1 * 16777216)) a1_0).bind fun bt441 => (if bt441.2.2 = 0 then (some (decide ((wrap64 (a0 * a0)) ≤ bt441.1))) else (some true)))) = some r := h
 clear h
 by_cases c4 : a1_0 = 0
 ·rw [if_pos c4] at H
  have c4b0 : (a1_0 == 0) = true := beq_iff_eq.mpr c4
  have c4b1 : (a1_0 != 0) = false := bne_eq_false_iff_eq.mpr c4
  clear c4
  obtain rfl := Option.some.inj H
  go_enter Try.func40, Try.ntmps40
  go_wp2_with (first | ((with_reducible refine gate_dst (N := 4) rfl ?_); refine box_event ?hg (N := 4) ?hd (cs := #[.int .i64 a1_0, .int .i64 a1_1]) (t := 37) ?hr ?_; (case hd => rfl); (case hg => rfl); (case hr => first | (go_simp; done) | (go_simp; rfl)); intro gb440 hg w5 hbox hb; have n0_ := Aside0.mk (below_step (by repeat (first | (with_reducible first | exact HB.out | apply below_alloc | apply pw_below_drewN | apply below_drew1) | exact HB.out)) hb); have n1_ := Aside0.mk (hbox); have n2_ := Aside0.mk ((by rw [hg]; exact (below_size (by repeat (first | (with_reducible first | exact HB.out | apply below_alloc | apply pw_below_drewN | apply below_drew1) | exact HB.out))) : w.heap.size ≤ gb440)); have n3_ := Aside0.mk ((by rw [hg]; exact (below_size (by repeat (first | (with_reducible first | exact HB.out | apply below_alloc | apply pw_below_drewN | apply below_drew1) | exact HB.out))) : w.heap.size ≤ gb440)); clear HB; have HB := n0_; have BK440 := n1_; have GW440 := n2_; have GE440 := n3_; clear n0_ n1_ n2_ n3_; clear hb hbox hg; have hcz6_0 : w5.cell? ⟨gb440, 0, none⟩ = some (.int .i64 a1_0) := (blk_cell BK440.out 0).trans rfl; have hcz6_1 : w5.cell? ⟨gb440, 1, none⟩ = some (.int .i64 a1_1) := (blk_cell BK440.out 1).trans rfl; have hfz6_0 := blk_frozen BK440.out 0; have hfz6_1 := blk_frozen BK440.out 1))
  go_ret
  exact ⟨by first | rfl | (simp [errW_none, errW_some] <;> rfl) | (simp [*, errW_none, errW_some] <;> rfl), by repeat (first | (with_reducible first | exact HB.out | apply below_alloc | apply pw_below_drewN | apply below_drew1 | refine below_set ?_ GE440.out) | exact HB.out)⟩
 ·rw [if_neg c4] at H
  have c4b0 : (a1_0 == 0) = false := beq_eq_false_iff_ne.mpr c4
  have c4b1 : (a1_0 != 0) = true := bne_iff_ne.mpr c4
  replace H := Option.bind_eq_some_iff.mp H
  obtain ⟨⟨t441, t442, t443⟩, A70, H⟩ := H
  replace H : (if t443 = 0 then (some (decide ((wrap64 (a0 * a0)) ≤ t441))) else (some true)) = some r := H
  have A7 := Aside0.mk A70
  clear A70
  by_cases c8 : t443 = 0
  ·rw [if_pos c8] at H
   have c8b0 : (t443 == 0) = true := beq_iff_eq.mpr c8
   have c8b1 : (t443 != 0) = false := bne_eq_false_iff_eq.mpr c8
   clear c8
   obtain rfl := Option.some.inj H
   go_enter Try.func40, Try.ntmps40
   go_wp2_with (first | ((with_reducible refine gate_dst (N := 4) rfl ?_); refine box_event ?hg (N := 4) ?hd (cs := #[.int .i64 a1_0, .int .i64 a1_1]) (t := 37) ?hr ?_; (case hd => rfl); (case hg => rfl); (case hr => first | (go_simp; done) | (go_simp; rfl)); intro gb440 hg w9 hbox hb; have n0_ := Aside0.mk (below_step (by repeat (first | (with_reducible first | exact HB.out | apply below_alloc | apply pw_below_drewN | apply below_drew1) | exact HB.out)) hb); have n1_ := Aside0.mk (hbox); have n2_ := Aside0.mk ((by rw [hg]; exact (below_size (by repeat (first | (with_reducible first | exact HB.out | apply below_alloc | apply pw_below_drewN | apply below_drew1) | exact HB.out))) : w.heap.size ≤ gb440)); have n3_ := Aside0.mk ((by rw [hg]; exact (below_size (by repeat (first | (with_reducible first | exact HB.out | apply below_alloc | apply pw_below_drewN | apply below_drew1) | exact HB.out))) : w.heap.size ≤ gb440)); clear HB; have HB := n0_; have BK440 := n1_; have GW440 := n2_; have GE440 := n3_; clear n0_ n1_ n2_ n3_; clear hb hbox hg; have hcz10_0 : w9.cell? ⟨gb440, 0, none⟩ = some (.int .i64 a1_0) := (blk_cell BK440.out 0).trans rfl; have hcz10_1 : w9.cell? ⟨gb440, 1, none⟩ = some (.int .i64 a1_1) := (blk_cell BK440.out 1).trans rfl; have hfz10_0 := blk_frozen BK440.out 0; have hfz10_1 := blk_frozen BK440.out 1) | ((with_reducible refine gate_callee (f := 50) rfl ?_); refine goesL_ (some 20) rfl rfl Try.func50 (by kernel_rfl) rfl #[.int .i64 a2, .int .i64 (wrap64 (a1_1 * 16777216)), .int .i64 a1_0] rfl (by (try simp only [List.map_toArray, List.map_cons, List.map_nil]); first | done | rfl | (simp only [List.length_drop, List.length_take]; rfl)) ?_; (with_reducible refine (cutroomref01_MulDiv.calls k a2 (wrap64 (a1_1 * 16777216)) a1_0 t441 t442 t443 _ A7.out).mono ?_); rintro e w11 ⟨rfl, hb⟩; refine ⟨_, rfl, ?_⟩; have n0_ := Aside0.mk (blk_below (g := gb440) (o := .cells #[.int .i64 a1_0, .int .i64 a1_1] 37 (0, 0)) (by (with_reducible repeat (first | refine blk_drewN ?_ _ | refine blk_drew ?_ | refine blk_alloc ?_ _)); exact BK440.out) hb); have n1_ := Aside0.mk (below_step (by repeat (first | (with_reducible first | exact HB.out | apply below_alloc | apply pw_below_drewN | apply below_drew1 | refine below_set ?_ GE440.out) | exact HB.out)) hb); clear BK440; clear HB; have BK440 := n0_; have HB := n1_; clear n0_ n1_; (try clear hb); (try clear hb2); (try clear hk); (try clear hi)))
   go_ret
   exact ⟨by first | rfl | (simp [errW_none, errW_some] <;> rfl) | (simp [*, errW_none, errW_some] <;> rfl), by repeat (first | (with_reducible first | exact HB.out | apply below_alloc | apply pw_below_drewN | apply below_drew1 | refine below_set ?_ GE440.out) | exact HB.out)⟩
  ·rw [if_neg c8] at H
   have c8b0 : (t443 == 0) = false := beq_eq_false_iff_ne.mpr c8
   have c8b1 : (t443 != 0) = true := bne_iff_ne.mpr c8
   obtain rfl := Option.some.inj H
   go_enter Try.func40, Try.ntmps40
   go_wp2_with (first | ((with_reducible refine gate_dst (N := 4) rfl ?_); refine box_event ?hg (N := 4) ?hd (cs := #[.int .i64 a1_0, .int .i64 a1_1]) (t := 37) ?hr ?_; (case hd => rfl); (case hg => rfl); (case hr => first | (go_simp; done) | (go_simp; rfl)); intro gb440 hg w12 hbox hb; have n0_ := Aside0.mk (below_step (by repeat (first | (with_reducible first | exact HB.out | apply below_alloc | apply pw_below_drewN | apply below_drew1) | exact HB.out)) hb); have n1_ := Aside0.mk (hbox); have n2_ := Aside0.mk ((by rw [hg]; exact (below_size (by repeat (first | (with_reducible first | exact HB.out | apply below_alloc | apply pw_below_drewN | apply below_drew1) | exact HB.out))) : w.heap.size ≤ gb440)); have n3_ := Aside0.mk ((by rw [hg]; exact (below_size (by repeat (first | (with_reducible first | exact HB.out | apply below_alloc | apply pw_below_drewN | apply below_drew1) | exact HB.out))) : w.heap.size ≤ gb440)); clear HB; have HB := n0_; have BK440 := n1_; have GW440 := n2_; have GE440 := n3_; clear n0_ n1_ n2_ n3_; clear hb hbox hg; have hcz13_0 : w12.cell? ⟨gb440, 0, none⟩ = some (.int .i64 a1_0) := (blk_cell BK440.out 0).trans rfl; have hcz13_1 : w12.cell? ⟨gb440, 1, none⟩ = some (.int .i64 a1_1) := (blk_cell BK440.out 1).trans rfl; have hfz13_0 := blk_frozen BK440.out 0; have hfz13_1 := blk_frozen BK440.out 1) | ((with_reducible refine gate_callee (f := 50) rfl ?_); refine goesL_ (some 20) rfl rfl Try.func50 (by kernel_rfl) rfl #[.int .i64 a2, .int .i64 (wrap64 (a1_1 * 16777216)), .int .i64 a1_0] rfl (by (try simp only [List.map_toArray, List.map_cons, List.map_nil]); first | done | rfl | (simp only [List.length_drop, List.length_take]; rfl)) ?_; (with_reducible refine (cutroomref01_MulDiv.calls k a2 (wrap64 (a1_1 * 16777216)) a1_0 t441 t442 t443 _ A7.out).mono ?_); rintro e w14 ⟨rfl, hb⟩; refine ⟨_, rfl, ?_⟩; have n0_ := Aside0.mk (blk_below (g := gb440) (o := .cells #[.int .i64 a1_0, .int .i64 a1_1] 37 (0, 0)) (by (with_reducible repeat (first | refine blk_drewN ?_ _ | refine blk_drew ?_ | refine blk_alloc ?_ _)); exact BK440.out) hb); have n1_ := Aside0.mk (below_step (by repeat (first | (with_reducible first | exact HB.out | apply below_alloc | apply pw_below_drewN | apply below_drew1 | refine below_set ?_ GE440.out) | exact HB.out)) hb); clear BK440; clear HB; have BK440 := n0_; have HB := n1_; clear n0_ n1_; (try clear hb); (try clear hb2); (try clear hk); (try clear hi)))
   go_ret
   exact ⟨by first | rfl | (simp [errW_none, errW_some] <;> rfl) | (simp [*, errW_none, errW_some] <;> rfl), by repeat (first | (with_reducible first | exact HB.out | apply below_alloc | apply pw_below_drewN | apply below_drew1 | refine below_set ?_ GE440.out) | exact HB.out)⟩

/-! ### cutroomref28_Gain: function 27 -/
mutual
def cutroomref28_Gain.j0 : Nat → List (List Int) → Int → Int → Bool → Int → Int → Option (Int × Int)
 | 0, _, _, _, _, _, _ => none
 | k + 1, x0, x1, x2, x36, x448000, x448001 => if x36 = true then (some (0, 1)) else ((cutroomref28_Peak.f k x0).bind fun t448 => (cutroomref28_Gain.l0 k x1 x2 t448 0 65536 x448000 x448001))
def cutroomref28_Gain.l0 : Nat → Int → Int → Int → Int → Int → Int → Int → Option (Int × Int)
 | 0, _, _, _, _, _, _, _ => none
 | k + 1, x1, x2, x10, x11, x12, x448000, x448001 => if x11 < x12 then ((cutroomref28_quiet.f k (wrap64 (Int.tdiv (wrap64 ((wrap64 (x11 + x12)) + 1)) 2)) x448000 x448001 x1).bind fun t449 => (if t449 = true then (if (wrap64 ((wrap64 (Int.tdiv (wrap64 ((wrap64 (x11 + x12)) + 1)) 2)) * x10)) ≤ (wrap64 (x2 * 4096)) then (cutroomref28_Gain.l0 k x1 x2 x10 (wrap64 (Int.tdiv (wrap64 ((wrap64 (x11 + x12)) + 1)) 2)) x12 x448000 x448001) else (cutroomref28_Gain.l0 k x1 x2 x10 x11 (wrap64 ((wrap64 (Int.tdiv (wrap64 ((wrap64 (x11 + x12)) + 1)) 2)) - 1)) x448000 x448001)) else (cutroomref28_Gain.l0 k x1 x2 x10 x11 (wrap64 ((wrap64 (Int.tdiv (wrap64 ((wrap64 (x11 + x12)) + 1)) 2)) - 1)) x448000 x448001))) else (some (x11, 0))
end
def cutroomref28_Gain.f (k : Nat) (l0 : List (List Int)) (a1 : Int) (a2 : Int) : Option (Int × Int) := (cutroomref28_Measure.f k l0).bind fun bt444 => (if bt444.2.2 = 0 then (if a1 < 0 then (cutroomref28_Gain.j0 k l0 a1 a2 true bt444.1 bt444.2.1) else (if a1 > 4294967296 then (cutroomref28_Gain.j0 k l0 a1 a2 true bt444.1 bt444.2.1) else (if a2 < 0 then (cutroomref28_Gain.j0 k l0 a1 a2 true bt444.1 bt444.2.1) else (cutroomref28_Gain.j0 k l0 a1 a2 (decide (a2 > 32767)) bt444.1 bt444.2.1)))) else (cutroomref28_Gain.j0 k l0 a1 a2 true bt444.1 bt444.2.1))
theorem cutroomref28_Gain.mono_l : ∀ k, (∀ y0 y1 y2 y3 y4 y5, LeO (cutroomref28_Gain.j0 k y0 y1 y2 y3 y4 y5) (cutroomref28_Gain.j0 (k + 1) y0 y1 y2 y3 y4 y5)) ∧ (∀ y0 y1 y2 y3 y4 y5 y6, LeO (cutroomref28_Gain.l0 k y0 y1 y2 y3 y4 y5 y6) (cutroomref28_Gain.l0 (k + 1) y0 y1 y2 y3 y4 y5 y6))
 | 0 => ⟨fun _ _ _ _ _ _ r h => by simp [cutroomref28_Gain.j0] at h, fun _ _ _ _ _ _ _ r h => by simp [cutroomref28_Gain.l0] at h⟩
 | k + 1 => by
  obtain ⟨ih0, ih1⟩ := cutroomref28_Gain.mono_l k
  refine ⟨?_, ?_⟩
  ·intro y0 y1 y2 y3 y4 y5
   unfold cutroomref28_Gain.j0
   repeat' first
   | (with_reducible exact ih0 _ _ _ _ _ _)
   | (with_reducible exact ih1 _ _ _ _ _ _ _)
   | (with_reducible exact cutroomref28_Measure.mono _ _)
   | (with_reducible exact cutroomref28_Peak.mono _ _)
   | (with_reducible exact cutroomref28_quiet.mono _ _ _ _ _)
   | (with_reducible exact LeO.refl _)
   | (with_reducible exact LeO.none _)
   | (with_reducible refine LeO.ite ?_ ?_)
   | (with_reducible refine LeO.bind ?_ (fun _ => ?_))
   | exact ih0 _ _ _ _ _ _
   | exact ih1 _ _ _ _ _ _ _
   | exact cutroomref28_Measure.mono _ _
   | exact cutroomref28_Peak.mono _ _
   | exact cutroomref28_quiet.mono _ _ _ _ _
   | exact LeO.none _
   | refine LeO.ite ?_ ?_
   | refine LeO.bind ?_ (fun _ => ?_)
  ·intro y0 y1 y2 y3 y4 y5 y6
   unfold cutroomref28_Gain.l0
   repeat' first
   | (with_reducible exact ih0 _ _ _ _ _ _)
   | (with_reducible exact ih1 _ _ _ _ _ _ _)
   | (with_reducible exact cutroomref28_Measure.mono _ _)
   | (with_reducible exact cutroomref28_Peak.mono _ _)
   | (with_reducible exact cutroomref28_quiet.mono _ _ _ _ _)
   | (with_reducible exact LeO.refl _)
   | (with_reducible exact LeO.none _)
   | (with_reducible refine LeO.ite ?_ ?_)
   | (with_reducible refine LeO.bind ?_ (fun _ => ?_))
   | exact ih0 _ _ _ _ _ _
   | exact ih1 _ _ _ _ _ _ _
   | exact cutroomref28_Measure.mono _ _
   | exact cutroomref28_Peak.mono _ _
   | exact cutroomref28_quiet.mono _ _ _ _ _
   | exact LeO.none _
   | refine LeO.ite ?_ ?_
   | refine LeO.bind ?_ (fun _ => ?_)
theorem cutroomref28_Gain.mono : ∀ a0 a1 a2 k, LeO (cutroomref28_Gain.f k a0 a1 a2) (cutroomref28_Gain.f (k + 1) a0 a1 a2) := by
 intro a0 a1 a2 k
 obtain ⟨ih0, ih1⟩ := cutroomref28_Gain.mono_l k
 unfold cutroomref28_Gain.f
 repeat' first
   | (with_reducible exact ih0 _ _ _ _ _ _)
   | (with_reducible exact ih1 _ _ _ _ _ _ _)
   | (with_reducible exact cutroomref28_Measure.mono _ _)
   | (with_reducible exact cutroomref28_Peak.mono _ _)
   | (with_reducible exact cutroomref28_quiet.mono _ _ _ _ _)
   | (with_reducible exact LeO.refl _)
   | (with_reducible exact LeO.none _)
   | (with_reducible refine LeO.ite ?_ ?_)
   | (with_reducible refine LeO.bind ?_ (fun _ => ?_))
   | exact ih0 _ _ _ _ _ _
   | exact ih1 _ _ _ _ _ _ _
   | exact cutroomref28_Measure.mono _ _
   | exact cutroomref28_Peak.mono _ _
   | exact cutroomref28_quiet.mono _ _ _ _ _
   | exact LeO.none _
   | refine LeO.ite ?_ ?_
   | refine LeO.bind ?_ (fun _ => ?_)
set_option maxHeartbeats 8000000 in
set_option maxRecDepth 100000 in
theorem cutroomref28_Gain.calls (k : Nat) (A0 : Option Addr) (c0 : Nat) (l0 : List (List Int)) (a1 : Int) (a2 : Int) (r1 : Int) (r2 : Int) (w : World) (hr0 : Kd.C (Kd.slice 48 (Kd.int .i16)) w A0 l0.length l0) (hc0 : l0.length ≤ c0) (h : cutroomref28_Gain.f k l0 a1 a2 = some (r1, r2)) :
  Calls Try.prog 27 #[.slice A0 l0.length c0, .int .i64 a1, .int .i64 a2] w fun e w' => e = .returned (.tuple #[.int .i64 r1, .int .i64 r2]) ∧ Below w.heap.size w w' := by
 have hu37 := Try.underlying37
 have HR0 := Aside0.mk hr0
 have HC0 := Aside0.mk hc0
 clear hr0 hc0
 have HB := Aside0.mk (Below.refl w.heap.size w)
 have H : ((cutroomref28_Measure.f k l0).bind fun bt444 => (if bt444.2.2 = 0 then (if a1 < 0 then (cutroomref28_Gain.j0 k l0 a1 a2 true bt444.1 bt444.2.1) else (if a1 > 4294967296 then (cutroomref28_Gain.j0 k l0 a1 a2 true bt444.1 bt444.2.1) else (if a2 < 0 then (cutroomref28_Gain.j0 k l0 a1 a2 true bt444.1 bt444.2.1) else (cutroomref28_Gain.j0 k l0 a1 a2 (decide (a2 > 32767)) bt444.1 bt444.2.1)))) else (cutroomref28_Gain.j0 k l0 a1 a2 true bt444.1 bt444.2.1))) = some (r1, r2) := h
 clear h
 replace H := Option.bind_eq_some_iff.mp H
 obtain ⟨⟨t444, t445, t446⟩, A40, H⟩ := H
 replace H : (if t446 = 0 then (if a1 < 0 then (cutroomref28_Gain.j0 k l0 a1 a2 true t444 t445) else (if a1 > 4294967296 then (cutroomref28_Gain.j0 k l0 a1 a2 true t444 t445) else (if a2 < 0 then (cutroomref28_Gain.j0 k l0 a1 a2 true t444 t445) else (cutroomref28_Gain.j0 k l0 a1 a2 (decide (a2 > 32767)) t444 t445)))) else (cutroomref28_Gain.j0 k l0 a1 a2 true t444 t445)) = some (r1, r2) := H
 have A4 := Aside0.mk A40
 clear A40
 have HC5 := Aside0.mk H
 clear H
 go_enter Try.func27, Try.ntmps27
 go_upto_region 2 with (first | ((with_reducible refine gate_callee (f := 23) rfl ?_); refine goesL_ (some 16) rfl rfl Try.func23 (by kernel_rfl) rfl #[.slice A0 l0.length c0] rfl (by (try simp only [List.map_toArray, List.map_cons, List.map_nil]); first | done | rfl | (simp only [List.length_drop, List.length_take]; rfl)) ?_; (with_reducible refine (cutroomref28_Measure.calls k _ _ l0 t444 t445 t446 _ ?side1 ?side2 A4.out).mono ?_); (case side1 => repeat (first | exact HR0.out | (with_reducible refine Kd.C_alloc ?_ _) | (with_reducible refine Kd.C_drewN ?_ _) | (with_reducible refine Kd.C_drew ?_))); (case side2 => exact HC0.out); rintro e w6 ⟨rfl, hb⟩; refine ⟨_, rfl, ?_⟩; have n0_ := Aside0.mk (below_step (by repeat (first | (with_reducible first | exact HB.out | apply below_alloc | apply pw_below_drewN | apply below_drew1) | exact HB.out)) hb); clear HB; have HB := n0_; clear n0_; (try clear hb); (try clear hb2); (try clear hk); (try clear hi)) | ((with_reducible refine gate_dst (N := 8) rfl ?_); refine box_event ?hg (N := 8) ?hd (cs := #[.int .i64 0, .int .i64 0]) (t := 37) ?hr ?_; (case hd => rfl); (case hg => rfl); (case hr => first | (go_simp; done) | (go_simp; rfl)); intro gb447 hg w7 hbox hb; have n0_ := Aside0.mk (below_step (by repeat (first | (with_reducible first | exact HB.out | apply below_alloc | apply pw_below_drewN | apply below_drew1) | exact HB.out)) hb); have n1_ := Aside0.mk (hbox); have n2_ := Aside0.mk ((by rw [hg]; exact (below_size (by repeat (first | (with_reducible first | exact HB.out | apply below_alloc | apply pw_below_drewN | apply below_drew1) | exact HB.out))) : w.heap.size ≤ gb447)); have n3_ := Aside0.mk ((by rw [hg]; exact (below_size (by repeat (first | (with_reducible first | exact HB.out | apply below_alloc | apply pw_below_drewN | apply below_drew1) | exact HB.out))) : w.heap.size ≤ gb447)); clear HB; have HB := n0_; have BK447 := n1_; have GW447 := n2_; have GE447 := n3_; clear n0_ n1_ n2_ n3_; clear hb hbox hg; have hcz8_0 : w7.cell? ⟨gb447, 0, none⟩ = some (.int .i64 0) := (blk_cell BK447.out 0).trans rfl; have hcz8_1 : w7.cell? ⟨gb447, 1, none⟩ = some (.int .i64 0) := (blk_cell BK447.out 1).trans rfl; have hfz8_0 := blk_frozen BK447.out 0; have hfz8_1 := blk_frozen BK447.out 1))
 (try simp only [Act.put, List.setIfInBounds_toArray, List.set_cons_zero, List.set_cons_succ])
 go_cut [36] (fun v36 wc => ∃ (kq : Nat) (x36_4 : Bool), v36 = .bool x36_4 ∧ Aside0 (cutroomref28_Gain.j0 kq l0 a1 a2 x36_4 t444 t445 = some (r1, r2)) ∧ Aside0 (kq ≤ k) ∧ Aside0 (wc.heap[gb447]? = some (.cells #[.int .i64 t444, .int .i64 t445] 37 (0, 0))) ∧ Aside0 (Below w.heap.size w wc))
 case first =>
  have H := HC5.out
  clear HC5
  by_cases c9 : t446 = 0
  ·rw [if_pos c9] at H
   have c9b0 : (t446 == 0) = true := beq_iff_eq.mpr c9
   have c9b1 : (t446 != 0) = false := bne_eq_false_iff_eq.mpr c9
   clear c9
   (first | rw [c9b0] | (simp only [i64_w, i32_w]; rw [c9b0]) | skip)
   by_cases c10 : a1 < 0
   ·rw [if_pos c10] at H
    have c10b0 : decide (a1 < 0) = true := decide_eq_true c10
    clear c10
    have H' := Aside0.mk H
    clear H
    go_wp2
    go_meet
    case rel => exact ⟨_, (true), (by first | rfl | (simp; done) | (simp [*]; done)), H', ⟨by first | omega | exact Nat.le_refl _⟩, ⟨by (with_reducible repeat (first | refine blk_drewN ?_ _ | refine blk_drew ?_ | refine blk_alloc ?_ _)); refine blk_put (cs := #[.int .i64 t444, .int .i64 0]) ?_ 1 _ rfl; (with_reducible repeat (first | refine blk_drewN ?_ _ | refine blk_drew ?_ | refine blk_alloc ?_ _)); refine blk_put (cs := #[.int .i64 0, .int .i64 0]) ?_ 0 _ rfl; (with_reducible repeat (first | refine blk_drewN ?_ _ | refine blk_drew ?_ | refine blk_alloc ?_ _)); exact BK447.out⟩, ⟨by repeat (first | (with_reducible first | exact HB.out | apply below_alloc | apply pw_below_drewN | apply below_drew1 | refine below_set ?_ GE447.out) | exact HB.out)⟩⟩
   ·rw [if_neg c10] at H
    have c10b0 : decide (a1 < 0) = false := decide_eq_false c10
    clear c10
    by_cases c11 : a1 > 4294967296
    ·rw [if_pos c11] at H
     have c11b0 : decide (4294967296 < a1) = true := decide_eq_true c11
     clear c11
     have H' := Aside0.mk H
     clear H
     go_wp2
     go_meet
     case rel => exact ⟨_, (true), (by first | rfl | (simp; done) | (simp [*]; done)), H', ⟨by first | omega | exact Nat.le_refl _⟩, ⟨by (with_reducible repeat (first | refine blk_drewN ?_ _ | refine blk_drew ?_ | refine blk_alloc ?_ _)); refine blk_put (cs := #[.int .i64 t444, .int .i64 0]) ?_ 1 _ rfl; (with_reducible repeat (first | refine blk_drewN ?_ _ | refine blk_drew ?_ | refine blk_alloc ?_ _)); refine blk_put (cs := #[.int .i64 0, .int .i64 0]) ?_ 0 _ rfl; (with_reducible repeat (first | refine blk_drewN ?_ _ | refine blk_drew ?_ | refine blk_alloc ?_ _)); exact BK447.out⟩, ⟨by repeat (first | (with_reducible first | exact HB.out | apply below_alloc | apply pw_below_drewN | apply below_drew1 | refine below_set ?_ GE447.out) | exact HB.out)⟩⟩
    ·rw [if_neg c11] at H
     have c11b0 : decide (4294967296 < a1) = false := decide_eq_false c11
     clear c11
     by_cases c12 : a2 < 0
     ·rw [if_pos c12] at H
      have c12b0 : decide (a2 < 0) = true := decide_eq_true c12
      clear c12
      have H' := Aside0.mk H
      clear H
      go_wp2
      go_meet
      case rel => exact ⟨_, (true), (by first | rfl | (simp; done) | (simp [*]; done)), H', ⟨by first | omega | exact Nat.le_refl _⟩, ⟨by (with_reducible repeat (first | refine blk_drewN ?_ _ | refine blk_drew ?_ | refine blk_alloc ?_ _)); refine blk_put (cs := #[.int .i64 t444, .int .i64 0]) ?_ 1 _ rfl; (with_reducible repeat (first | refine blk_drewN ?_ _ | refine blk_drew ?_ | refine blk_alloc ?_ _)); refine blk_put (cs := #[.int .i64 0, .int .i64 0]) ?_ 0 _ rfl; (with_reducible repeat (first | refine blk_drewN ?_ _ | refine blk_drew ?_ | refine blk_alloc ?_ _)); exact BK447.out⟩, ⟨by repeat (first | (with_reducible first | exact HB.out | apply below_alloc | apply pw_below_drewN | apply below_drew1 | refine below_set ?_ GE447.out) | exact HB.out)⟩⟩
     ·rw [if_neg c12] at H
      have c12b0 : decide (a2 < 0) = false := decide_eq_false c12
      clear c12
      have H' := Aside0.mk H
      clear H
      go_wp2
      go_meet
      case rel => exact ⟨_, (decide (a2 > 32767)), (by first | rfl | (simp; done) | (simp [*]; done)), H', ⟨by first | omega | exact Nat.le_refl _⟩, ⟨by (with_reducible repeat (first | refine blk_drewN ?_ _ | refine blk_drew ?_ | refine blk_alloc ?_ _)); refine blk_put (cs := #[.int .i64 t444, .int .i64 0]) ?_ 1 _ rfl; (with_reducible repeat (first | refine blk_drewN ?_ _ | refine blk_drew ?_ | refine blk_alloc ?_ _)); refine blk_put (cs := #[.int .i64 0, .int .i64 0]) ?_ 0 _ rfl; (with_reducible repeat (first | refine blk_drewN ?_ _ | refine blk_drew ?_ | refine blk_alloc ?_ _)); exact BK447.out⟩, ⟨by repeat (first | (with_reducible first | exact HB.out | apply below_alloc | apply pw_below_drewN | apply below_drew1 | refine below_set ?_ GE447.out) | exact HB.out)⟩⟩
  ·rw [if_neg c9] at H
   have c9b0 : (t446 == 0) = false := beq_eq_false_iff_ne.mpr c9
   have c9b1 : (t446 != 0) = true := bne_iff_ne.mpr c9
   (first | rw [c9b0] | (simp only [i64_w, i32_w]; rw [c9b0]) | skip)
   have H' := Aside0.mk H
   clear H
   go_wp2
   go_meet
   case rel => exact ⟨_, (true), (by first | rfl | (simp; done) | (simp [*]; done)), H', ⟨by first | omega | exact Nat.le_refl _⟩, ⟨by (with_reducible repeat (first | refine blk_drewN ?_ _ | refine blk_drew ?_ | refine blk_alloc ?_ _)); refine blk_put (cs := #[.int .i64 t444, .int .i64 0]) ?_ 1 _ rfl; (with_reducible repeat (first | refine blk_drewN ?_ _ | refine blk_drew ?_ | refine blk_alloc ?_ _)); refine blk_put (cs := #[.int .i64 0, .int .i64 0]) ?_ 0 _ rfl; (with_reducible repeat (first | refine blk_drewN ?_ _ | refine blk_drew ?_ | refine blk_alloc ?_ _)); exact BK447.out⟩, ⟨by repeat (first | (with_reducible first | exact HB.out | apply below_alloc | apply pw_below_drewN | apply below_drew1 | refine below_set ?_ GE447.out) | exact HB.out)⟩⟩
 case rest =>
  clear HC5
  (try clear c1);(try clear c2);(try clear p2);(try clear c9);(try clear c9b0);(try clear c9b1);(try clear c10);(try clear c10b0);(try clear c11);(try clear c11b0);(try clear c12);(try clear c12b0);(try clear hcz8_0);(try clear hcz8_1);(try clear hfz8_0);(try clear hfz8_1)
  obtain ⟨kq, x36_4, rfl, HA, HJ4, BK447, HB⟩ := hcut
  cases kq with
  | zero => exact absurd HA.out (by simp [cutroomref28_Gain.j0])
  | succ kj4 =>
   have H := HA.out
   clear HA
   simp only [cutroomref28_Gain.j0] at H
   by_cases c13 : x36_4 = true
   ·subst c13
    have H1 : (some (0, 1)) = some (r1, r2) := by rw [if_pos rfl] at H; exact H
    clear H
    have H := H1
    clear H1
    simp only [Option.some.injEq, Prod.mk.injEq] at H
    obtain ⟨rfl, rfl⟩ := H
    go_wp2
    go_ret2
    exact ⟨by first | rfl | (simp [errW_none, errW_some] <;> rfl) | (simp [*, errW_none, errW_some] <;> rfl), by repeat (first | (with_reducible first | exact HB.out | apply below_alloc | apply pw_below_drewN | apply below_drew1 | refine below_set ?_ GE447.out) | exact HB.out)⟩
   ·replace c13 := Bool.eq_false_iff.mpr c13
    subst c13
    have H1 : ((cutroomref28_Peak.f kj4 l0).bind fun t448 => (cutroomref28_Gain.l0 kj4 a1 a2 t448 0 65536 t444 t445)) = some (r1, r2) := by rw [if_neg (show ¬ (false = true) by decide)] at H; exact H
    clear H
    have H := H1
    clear H1
    replace H := Option.bind_eq_some_iff.mp H
    obtain ⟨t448, A140, H⟩ := H
    replace H : (cutroomref28_Gain.l0 kj4 a1 a2 t448 0 65536 t444 t445) = some (r1, r2) := H
    have A14 := Aside0.mk A140
    clear A140
    have H' := Aside0.mk H
    clear H
    go_wp2_with (first | ((with_reducible refine gate_callee (f := 18) rfl ?_); refine goesL_ (some 38) rfl rfl Try.func18 (by kernel_rfl) rfl #[.slice A0 l0.length c0] rfl (by (try simp only [List.map_toArray, List.map_cons, List.map_nil]); first | done | rfl | (simp only [List.length_drop, List.length_take]; rfl)) ?_; (with_reducible refine (cutroomref28_Peak.calls kj4 _ _ l0 t448 _ ?side1 ?side2 A14.out).mono ?_); (case side1 => repeat (first | exact (Kd.C_below HR0.out HB.out) | (with_reducible refine Kd.C_alloc ?_ _) | (with_reducible refine Kd.C_drewN ?_ _) | (with_reducible refine Kd.C_drew ?_))); (case side2 => exact HC0.out); rintro e w15 ⟨rfl, hb⟩; refine ⟨_, rfl, ?_⟩; have n0_ := Aside0.mk (blk_below (g := gb447) (o := .cells #[.int .i64 t444, .int .i64 t445] 37 (0, 0)) (by (with_reducible repeat (first | refine blk_drewN ?_ _ | refine blk_drew ?_ | refine blk_alloc ?_ _)); exact BK447.out) hb); have n1_ := Aside0.mk (below_step (by repeat (first | (with_reducible first | exact HB.out | apply below_alloc | apply pw_below_drewN | apply below_drew1 | refine below_set ?_ GE447.out) | exact HB.out)) hb); clear BK447; clear HB; have BK447 := n0_; have HB := n1_; clear n0_ n1_; (try clear hb); (try clear hb2); (try clear hk); (try clear hi)))
    go_loopg [11, 12] kj4 (fun kq v11 v12 w' => ∃ (x11_2 : Int) (x12_2 : Int), v11 = .int .i64 x11_2 ∧ v12 = .int .i64 x12_2 ∧ Aside0 (cutroomref28_Gain.l0 kq a1 a2 t448 x11_2 x12_2 t444 t445 = some (r1, r2)) ∧ Aside0 (kq ≤ kj4) ∧ Aside0 (w'.heap[gb447]? = some (.cells #[.int .i64 t444, .int .i64 t445] 37 (0, 0))) ∧ Aside0 (Below w.heap.size w w'))
    case atStart => exact ⟨(0), (65536), (by first | rfl | (simp; done) | (simp [*]; done)), (by first | rfl | (simp; done) | (simp [*]; done)), H', ⟨Nat.le_refl _⟩, ⟨by (with_reducible repeat (first | refine blk_drewN ?_ _ | refine blk_drew ?_ | refine blk_alloc ?_ _)); exact BK447.out⟩, ⟨by repeat (first | (with_reducible first | exact HB.out | apply below_alloc | apply pw_below_drewN | apply below_drew1 | refine below_set ?_ GE447.out) | exact HB.out)⟩⟩
    case round =>
     clear H'
     (try clear c1);(try clear c2);(try clear p2);(try clear c9);(try clear c9b0);(try clear c9b1);(try clear c10);(try clear c10b0);(try clear c11);(try clear c11b0);(try clear c12);(try clear c12b0);(try clear c13);(try clear hcz8_0);(try clear hcz8_1);(try clear hfz8_0);(try clear hfz8_1);(try clear p2)
     obtain ⟨x11_2, x12_2, rfl, rfl, HA, HK2, BK447, HB⟩ := hrel
     cases gk with
     | zero => exact absurd HA.out (by simp [cutroomref28_Gain.l0])
     | succ k2 =>
      have H := HA.out
      clear HA
      simp only [cutroomref28_Gain.l0] at H
      by_cases c16 : x11_2 < x12_2
      ·rw [if_pos c16] at H
       have c16b0 : decide (x11_2 < x12_2) = true := decide_eq_true c16
       clear c16
       replace H := Option.bind_eq_some_iff.mp H
       obtain ⟨t449, A170, H⟩ := H
       replace H : (if t449 = true then (if (wrap64 ((wrap64 (Int.tdiv (wrap64 ((wrap64 (x11_2 + x12_2)) + 1)) 2)) * t448)) ≤ (wrap64 (a2 * 4096)) then (cutroomref28_Gain.l0 k2 a1 a2 t448 (wrap64 (Int.tdiv (wrap64 ((wrap64 (x11_2 + x12_2)) + 1)) 2)) x12_2 t444 t445) else (cutroomref28_Gain.l0 k2 a1 a2 t448 x11_2 (wrap64 ((wrap64 (Int.tdiv (wrap64 ((wrap64 (x11_2 + x12_2)) + 1)) 2)) - 1)) t444 t445)) else (cutroomref28_Gain.l0 k2 a1 a2 t448 x11_2 (wrap64 ((wrap64 (Int.tdiv (wrap64 ((wrap64 (x11_2 + x12_2)) + 1)) 2)) - 1)) t444 t445)) = some (r1, r2) := H
       have A17 := Aside0.mk A170
       clear A170
       by_cases c18 : t449 = true
       ·subst c18
        have H1 : (if (wrap64 ((wrap64 (Int.tdiv (wrap64 ((wrap64 (x11_2 + x12_2)) + 1)) 2)) * t448)) ≤ (wrap64 (a2 * 4096)) then (cutroomref28_Gain.l0 k2 a1 a2 t448 (wrap64 (Int.tdiv (wrap64 ((wrap64 (x11_2 + x12_2)) + 1)) 2)) x12_2 t444 t445) else (cutroomref28_Gain.l0 k2 a1 a2 t448 x11_2 (wrap64 ((wrap64 (Int.tdiv (wrap64 ((wrap64 (x11_2 + x12_2)) + 1)) 2)) - 1)) t444 t445)) = some (r1, r2) := by rw [if_pos rfl] at H; exact H
        clear H
        have H := H1
        clear H1
        by_cases c19 : (wrap64 ((wrap64 (Int.tdiv (wrap64 ((wrap64 (x11_2 + x12_2)) + 1)) 2)) * t448)) ≤ (wrap64 (a2 * 4096))
        ·rw [if_pos c19] at H
         have c19b0 : decide ((wrap64 ((wrap64 (Int.tdiv (wrap64 ((wrap64 (x11_2 + x12_2)) + 1)) 2)) * t448)) ≤ (wrap64 (a2 * 4096))) = true := decide_eq_true c19
         clear c19
         have H' := Aside0.mk H
         clear H
         have hcz20_0 : wr.cell? ⟨gb447, 0, none⟩ = some (.int .i64 t444) := (blk_cell BK447.out 0).trans rfl
         have hcz20_1 : wr.cell? ⟨gb447, 1, none⟩ = some (.int .i64 t445) := (blk_cell BK447.out 1).trans rfl
         have hfz20_0 := blk_frozen BK447.out 0
         have hfz20_1 := blk_frozen BK447.out 1
         go_wp2_with (first | ((with_reducible refine gate_callee (f := 40) rfl ?_); refine goesL_ (some 50) rfl rfl Try.func40 (by kernel_rfl) rfl #[.int .i64 (wrap64 (Int.tdiv (wrap64 ((wrap64 (x11_2 + x12_2)) + 1)) 2)), .agg #[.int .i64 t444, .int .i64 t445], .int .i64 a1] rfl (by (try simp only [List.map_toArray, List.map_cons, List.map_nil]); first | done | rfl | (simp only [List.length_drop, List.length_take]; rfl)) ?_; (with_reducible refine (cutroomref28_quiet.calls k2 (wrap64 (Int.tdiv (wrap64 ((wrap64 (x11_2 + x12_2)) + 1)) 2)) t444 t445 a1 true _ A17.out).mono ?_); rintro e w21 ⟨rfl, hb⟩; refine ⟨_, rfl, ?_⟩; have n0_ := Aside0.mk (blk_below (g := gb447) (o := .cells #[.int .i64 t444, .int .i64 t445] 37 (0, 0)) (by (with_reducible repeat (first | refine blk_drewN ?_ _ | refine blk_drew ?_ | refine blk_alloc ?_ _)); exact BK447.out) hb); have n1_ := Aside0.mk (below_step (by repeat (first | (with_reducible first | exact HB.out | apply below_alloc | apply pw_below_drewN | apply below_drew1 | refine below_set ?_ GE447.out) | exact HB.out)) hb); clear BK447; clear HB; have BK447 := n0_; have HB := n1_; clear n0_ n1_; (try clear hb); (try clear hb2); (try clear hk); (try clear hi)))
         go_roundg k2
         case measure => have := HJ4.out; have := HK2.out; omega
         case rel => exact ⟨(wrap64 (Int.tdiv (wrap64 ((wrap64 (x11_2 + x12_2)) + 1)) 2)), (x12_2), (by first | rfl | (simp; done) | (simp [*]; done)), (by first | rfl | (simp; done) | (simp [*]; done)), H', ⟨by have := HJ4.out; have := HK2.out; omega⟩, ⟨by (with_reducible repeat (first | refine blk_drewN ?_ _ | refine blk_drew ?_ | refine blk_alloc ?_ _)); exact BK447.out⟩, ⟨by repeat (first | (with_reducible first | exact HB.out | apply below_alloc | apply pw_below_drewN | apply below_drew1 | refine below_set ?_ GE447.out) | exact HB.out)⟩⟩
        ·rw [if_neg c19] at H
         have c19b0 : decide ((wrap64 ((wrap64 (Int.tdiv (wrap64 ((wrap64 (x11_2 + x12_2)) + 1)) 2)) * t448)) ≤ (wrap64 (a2 * 4096))) = false := decide_eq_false c19
         clear c19
         have H' := Aside0.mk H
         clear H
         have hcz22_0 : wr.cell? ⟨gb447, 0, none⟩ = some (.int .i64 t444) := (blk_cell BK447.out 0).trans rfl
         have hcz22_1 : wr.cell? ⟨gb447, 1, none⟩ = some (.int .i64 t445) := (blk_cell BK447.out 1).trans rfl
         have hfz22_0 := blk_frozen BK447.out 0
         have hfz22_1 := blk_frozen BK447.out 1
         go_wp2_with (first | ((with_reducible refine gate_callee (f := 40) rfl ?_); refine goesL_ (some 50) rfl rfl Try.func40 (by kernel_rfl) rfl #[.int .i64 (wrap64 (Int.tdiv (wrap64 ((wrap64 (x11_2 + x12_2)) + 1)) 2)), .agg #[.int .i64 t444, .int .i64 t445], .int .i64 a1] rfl (by (try simp only [List.map_toArray, List.map_cons, List.map_nil]); first | done | rfl | (simp only [List.length_drop, List.length_take]; rfl)) ?_; (with_reducible refine (cutroomref28_quiet.calls k2 (wrap64 (Int.tdiv (wrap64 ((wrap64 (x11_2 + x12_2)) + 1)) 2)) t444 t445 a1 true _ A17.out).mono ?_); rintro e w23 ⟨rfl, hb⟩; refine ⟨_, rfl, ?_⟩; have n0_ := Aside0.mk (blk_below (g := gb447) (o := .cells #[.int .i64 t444, .int .i64 t445] 37 (0, 0)) (by (with_reducible repeat (first | refine blk_drewN ?_ _ | refine blk_drew ?_ | refine blk_alloc ?_ _)); exact BK447.out) hb); have n1_ := Aside0.mk (below_step (by repeat (first | (with_reducible first | exact HB.out | apply below_alloc | apply pw_below_drewN | apply below_drew1 | refine below_set ?_ GE447.out) | exact HB.out)) hb); clear BK447; clear HB; have BK447 := n0_; have HB := n1_; clear n0_ n1_; (try clear hb); (try clear hb2); (try clear hk); (try clear hi)))
         go_roundg k2
         case measure => have := HJ4.out; have := HK2.out; omega
         case rel => exact ⟨(x11_2), (wrap64 ((wrap64 (Int.tdiv (wrap64 ((wrap64 (x11_2 + x12_2)) + 1)) 2)) - 1)), (by first | rfl | (simp; done) | (simp [*]; done)), (by first | rfl | (simp; done) | (simp [*]; done)), H', ⟨by have := HJ4.out; have := HK2.out; omega⟩, ⟨by (with_reducible repeat (first | refine blk_drewN ?_ _ | refine blk_drew ?_ | refine blk_alloc ?_ _)); exact BK447.out⟩, ⟨by repeat (first | (with_reducible first | exact HB.out | apply below_alloc | apply pw_below_drewN | apply below_drew1 | refine below_set ?_ GE447.out) | exact HB.out)⟩⟩
       ·replace c18 := Bool.eq_false_iff.mpr c18
        subst c18
        have H1 : (cutroomref28_Gain.l0 k2 a1 a2 t448 x11_2 (wrap64 ((wrap64 (Int.tdiv (wrap64 ((wrap64 (x11_2 + x12_2)) + 1)) 2)) - 1)) t444 t445) = some (r1, r2) := by rw [if_neg (show ¬ (false = true) by decide)] at H; exact H
        clear H
        have H := H1
        clear H1
        have H' := Aside0.mk H
        clear H
        have hcz24_0 : wr.cell? ⟨gb447, 0, none⟩ = some (.int .i64 t444) := (blk_cell BK447.out 0).trans rfl
        have hcz24_1 : wr.cell? ⟨gb447, 1, none⟩ = some (.int .i64 t445) := (blk_cell BK447.out 1).trans rfl
        have hfz24_0 := blk_frozen BK447.out 0
        have hfz24_1 := blk_frozen BK447.out 1
        go_wp2_with (first | ((with_reducible refine gate_callee (f := 40) rfl ?_); refine goesL_ (some 50) rfl rfl Try.func40 (by kernel_rfl) rfl #[.int .i64 (wrap64 (Int.tdiv (wrap64 ((wrap64 (x11_2 + x12_2)) + 1)) 2)), .agg #[.int .i64 t444, .int .i64 t445], .int .i64 a1] rfl (by (try simp only [List.map_toArray, List.map_cons, List.map_nil]); first | done | rfl | (simp only [List.length_drop, List.length_take]; rfl)) ?_; (with_reducible refine (cutroomref28_quiet.calls k2 (wrap64 (Int.tdiv (wrap64 ((wrap64 (x11_2 + x12_2)) + 1)) 2)) t444 t445 a1 false _ A17.out).mono ?_); rintro e w25 ⟨rfl, hb⟩; refine ⟨_, rfl, ?_⟩; have n0_ := Aside0.mk (blk_below (g := gb447) (o := .cells #[.int .i64 t444, .int .i64 t445] 37 (0, 0)) (by (with_reducible repeat (first | refine blk_drewN ?_ _ | refine blk_drew ?_ | refine blk_alloc ?_ _)); exact BK447.out) hb); have n1_ := Aside0.mk (below_step (by repeat (first | (with_reducible first | exact HB.out | apply below_alloc | apply pw_below_drewN | apply below_drew1 | refine below_set ?_ GE447.out) | exact HB.out)) hb); clear BK447; clear HB; have BK447 := n0_; have HB := n1_; clear n0_ n1_; (try clear hb); (try clear hb2); (try clear hk); (try clear hi)))
        go_roundg k2
        case measure => have := HJ4.out; have := HK2.out; omega
        case rel => exact ⟨(x11_2), (wrap64 ((wrap64 (Int.tdiv (wrap64 ((wrap64 (x11_2 + x12_2)) + 1)) 2)) - 1)), (by first | rfl | (simp; done) | (simp [*]; done)), (by first | rfl | (simp; done) | (simp [*]; done)), H', ⟨by have := HJ4.out; have := HK2.out; omega⟩, ⟨by (with_reducible repeat (first | refine blk_drewN ?_ _ | refine blk_drew ?_ | refine blk_alloc ?_ _)); exact BK447.out⟩, ⟨by repeat (first | (with_reducible first | exact HB.out | apply below_alloc | apply pw_below_drewN | apply below_drew1 | refine below_set ?_ GE447.out) | exact HB.out)⟩⟩
      ·rw [if_neg c16] at H
       have c16b0 : decide (x11_2 < x12_2) = false := decide_eq_false c16
       clear c16
       simp only [Option.some.injEq, Prod.mk.injEq] at H
       obtain ⟨rfl, rfl⟩ := H
       go_wp2
       go_ret2
       exact ⟨by first | rfl | (simp [errW_none, errW_some] <;> rfl) | (simp [*, errW_none, errW_some] <;> rfl), by repeat (first | (with_reducible first | exact HB.out | apply below_alloc | apply pw_below_drewN | apply below_drew1 | refine below_set ?_ GE447.out) | exact HB.out)⟩

end Go.Proofs.Ytjcjbbcamkkeiaa.P
