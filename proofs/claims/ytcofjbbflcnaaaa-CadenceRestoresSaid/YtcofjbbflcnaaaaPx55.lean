-- Written by this session's own program (wip/tools/myprint.py), which runs the kit's print with turns of its own: not a text of the kit's print.sh.
import Derived.Test.YtcofjbbflcnaaaaPx0
import Derived.Test.YtcofjbbflcnaaaaPx54
import Derived.Test.YtcofjbbflcnaaaaPx70
import Derived.Test.YtcofjbbflcnaaaaAbb
namespace Go.Proofs.Ytcofjbbflcnaaaa.P
open Go.RowKit Go.Proofs.YtcofjbbflcnaaaaW.PrintWords Go.Proofs.YtcofjbbflcnaaaaW.PrintLast Go.Proofs.YtcofjbbflcnaaaaW.PrintMore
open List renaming setIfInBounds_toArray → sA, set_cons_zero → sZ, set_cons_succ → sS
open Bool renaming true → T', false → F'
open Go.Proofs.YtcofjbbflcnaaaaW.PrintWords renaming below_alloc → zA, pw_below_drewN → zN, below_drew1 → zD, blk_drewN → yN, blk_drew → yD, blk_alloc → yA, below_size → zS, below_step → zT, blk_below → yB, below_set → zP, cell_far → xF, add_block → xB, gate_callee → xC, gate_dst → xD
attribute [local go_sem] max2_int min2_int max_two min_two max_three min_three max_four min_four   -- for this text's walks alone
set_option linter.unusedVariables false
set_option linter.unusedSimpArgs false

/-! ### cadence_first: function 54 -/
def cadence_first.f (k : Nat) (a0 : Int) (a1_0 : Int) (a1_1 : Int) (a2_0 : Int) (a2_1 : Int) : Option (Int) := (rational_MulDiv.f k (wrap64 (2 * a0)) (wrap64 (a2_0 * a1_1)) (wrap64 (a2_1 * a1_0))).bind fun bt140 => (some bt140.1)
theorem cadence_first.mono : ∀ a0 a1 a2 a3 a4 k, LeO (cadence_first.f k a0 a1 a2 a3 a4) (cadence_first.f (k + 1) a0 a1 a2 a3 a4) := by
  intro a0 a1 a2 a3 a4 k
  unfold cadence_first.f
  repeat' first
      | (with_reducible exact rational_MulDiv.mono _ _ _ _)
      | (with_reducible exact LeO.refl _)
      | (with_reducible exact LeO.none _)
      | (with_reducible refine LeO.ite ?_ ?_)
      | (with_reducible refine LeO.bind ?_ (fun _ => ?_))
      | exact rational_MulDiv.mono _ _ _ _
      | exact LeO.none _
      | refine LeO.ite ?_ ?_
      | refine LeO.bind ?_ (fun _ => ?_)
set_option maxHeartbeats 8000000 in
set_option maxRecDepth 100000 in
theorem cadence_first.calls (k : Nat) (a0 : Int) (a1_0 : Int) (a1_1 : Int) (a2_0 : Int) (a2_1 : Int) (r : Int) (w : World) (h : cadence_first.f k a0 a1_0 a1_1 a2_0 a2_1 = some r) :
    Calls Try.prog 54 #[.int .i64 a0, .agg #[.int .i64 a1_0, .int .i64 a1_1], .agg #[.int .i64 a2_0, .int .i64 a2_1]] w fun e w' => e = .returned (.int .i64 r) ∧ Below w.heap.size w w' := by
  have hu23 := Try.underlying23
  have HB := Aside0.mk (Below.refl w.heap.size w)
  have H : ((rational_MulDiv.f k (wrap64 (2 * a0)) (wrap64 (a2_0 * a1_1)) (wrap64 (a2_1 * a1_0))).bind fun bt140 => (some bt140.1)) = some r := h
  clear h
  replace H := Option.bind_eq_some_iff.mp H
  obtain ⟨⟨t140, t141, t142⟩, A40, H⟩ := H
  replace H : (some t140) = some r := H
  have A4 := Aside0.mk A40
  clear A40
  obtain rfl := Option.some.inj H
  go_enter Try.func54, Try.ntmps54
  go_wp2_with (first | ((with_reducible refine xD (N := 4) rfl ?_); refine box_event ?hg (N := 4) ?hd (cs := #[.int .i64 a1_0, .int .i64 a1_1]) (t := 23) ?hr ?_; (case hd => rfl); (case hg => rfl); (case hr => first | (go_simp; done) | (go_simp; rfl)); intro gb138 hg w5 hbox hb; have n0_ := Aside0.mk (zT (by repeat (first | (with_reducible first | exact HB.out | apply zA | apply zN | apply zD) | exact HB.out)) hb); have n1_ := Aside0.mk (hbox); have n2_ := Aside0.mk ((by rw [hg]; exact (zS (by repeat (first | (with_reducible first | exact HB.out | apply zA | apply zN | apply zD) | exact HB.out))) : w.heap.size ≤ gb138)); have n3_ := n2_; clear HB; have HB := n0_; have BK138 := n1_; have GW138 := n2_; have GE138 := n3_; clear n0_ n1_ n2_ n3_; clear hb hbox hg) | ((with_reducible refine xD (N := 5) rfl ?_); refine box_event ?hg (N := 5) ?hd (cs := #[.int .i64 a2_0, .int .i64 a2_1]) (t := 23) ?hr ?_; (case hd => rfl); (case hg => rfl); (case hr => first | (go_simp; done) | (go_simp; rfl)); intro gb139 hg w6 hbox hb; have n0_ := Aside0.mk (yB (g := gb138) (o := .cells #[.int .i64 a1_0, .int .i64 a1_1] 23 (0, 0)) (by (with_reducible repeat (first | refine yN ?_ _ | refine yD ?_ | refine yA ?_ _)); exact BK138.out) hb); have n1_ := Aside0.mk (zT (by repeat (first | (with_reducible first | exact HB.out | apply zA | apply zN | apply zD | refine zP ?_ GE138.out) | exact HB.out)) hb); have n2_ := Aside0.mk (hbox); have n3_ := Aside0.mk ((by rw [hg]; exact (zS (by repeat (first | (with_reducible first | exact HB.out | apply zA | apply zN | apply zD | refine zP ?_ GE138.out) | exact HB.out))) : w.heap.size ≤ gb139)); have n4_ := n3_; have n5_ := Aside0.mk ((by rw [hg]; exact Nat.ne_of_lt (blk_lt (g := gb138) (o := .cells #[.int .i64 a1_0, .int .i64 a1_1] 23 (0, 0)) (by (with_reducible repeat (first | refine yN ?_ _ | refine yD ?_ | refine yA ?_ _)); exact BK138.out)) : gb138 ≠ gb139)); have n6_ := Aside0.mk ((by rw [hg]; exact Nat.ne_of_gt (blk_lt (g := gb138) (o := .cells #[.int .i64 a1_0, .int .i64 a1_1] 23 (0, 0)) (by (with_reducible repeat (first | refine yN ?_ _ | refine yD ?_ | refine yA ?_ _)); exact BK138.out)) : gb139 ≠ gb138)); clear BK138; clear HB; have BK138 := n0_; have HB := n1_; have BK139 := n2_; have GW139 := n3_; have GE139 := n4_; have NB138_139 := n5_; have NB139_138 := n6_; clear n0_ n1_ n2_ n3_ n4_ n5_ n6_; clear hb hbox hg; have hnb7 := NB139_138.out; have hnc7 := NB138_139.out; have hcz8_0 : w6.cell? ⟨gb139, 0, none⟩ = some (.int .i64 a2_0) := (blk_cell BK139.out 0).trans rfl; have hcz8_1 : w6.cell? ⟨gb139, 1, none⟩ = some (.int .i64 a2_1) := (blk_cell BK139.out 1).trans rfl; have hfz8_0 := blk_frozen BK139.out 0; have hfz8_1 := blk_frozen BK139.out 1; have hcz9_0 : w6.cell? ⟨gb138, 0, none⟩ = some (.int .i64 a1_0) := (blk_cell BK138.out 0).trans rfl; have hcz9_1 : w6.cell? ⟨gb138, 1, none⟩ = some (.int .i64 a1_1) := (blk_cell BK138.out 1).trans rfl; have hfz9_0 := blk_frozen BK138.out 0; have hfz9_1 := blk_frozen BK138.out 1) | ((with_reducible refine xC (f := 49) rfl ?_); refine goesL_ (some 23) rfl rfl Try.func49 (by kernel_rfl) rfl #[.int .i64 (wrap64 (2 * a0)), .int .i64 (wrap64 (a2_0 * a1_1)), .int .i64 (wrap64 (a2_1 * a1_0))] rfl (by (try simp only [List.map_toArray, List.map_cons, List.map_nil]); first | done | rfl | (simp only [List.length_drop, List.length_take]; rfl)) ?_; (with_reducible refine (rational_MulDiv.calls k (wrap64 (2 * a0)) (wrap64 (a2_0 * a1_1)) (wrap64 (a2_1 * a1_0)) t140 t141 t142 _ A4.out).mono ?_); rintro e w10 ⟨rfl, hb⟩; refine ⟨_, rfl, ?_⟩; have n0_ := Aside0.mk (yB (g := gb138) (o := .cells #[.int .i64 a1_0, .int .i64 a1_1] 23 (0, 0)) (by (with_reducible repeat (first | refine yN ?_ _ | refine yD ?_ | refine yA ?_ _)); exact BK138.out) hb); have n1_ := Aside0.mk (yB (g := gb139) (o := .cells #[.int .i64 a2_0, .int .i64 a2_1] 23 (0, 0)) (by (with_reducible repeat (first | refine yN ?_ _ | refine yD ?_ | refine yA ?_ _)); exact BK139.out) hb); have n2_ := Aside0.mk (zT (by repeat (first | (with_reducible first | exact HB.out | apply zA | apply zN | apply zD | refine zP ?_ GE138.out | refine zP ?_ GE139.out) | exact HB.out)) hb); clear BK138; clear BK139; clear HB; have BK138 := n0_; have BK139 := n1_; have HB := n2_; clear n0_ n1_ n2_; (try clear hb); (try clear hb2); (try clear hk); (try clear hi)))
  go_ret
  exact ⟨by first | rfl | (simp [errW_none, errW_some] <;> rfl) | (simp [*, errW_none, errW_some] <;> rfl), by repeat (first | (with_reducible first | exact HB.out | apply zA | apply zN | apply zD | refine zP ?_ GE138.out | refine zP ?_ GE139.out) | exact HB.out)⟩

/-! ### cadence_Fields: function 29 -/
def cadence_Fields.j0 : Nat → Int → Bool → Int → Int → Int → Int → Option (Int × Int)
 | 0, _, _, _, _, _, _ => none
 | k + 1, x0, x17, x144000, x144001, x145000, x145001 => if x17 = true then (some (0, 2)) else ((cadence_first.f k (wrap64 (x0 + 1)) x144000 x144001 x145000 x145001).bind fun t146 => ((cadence_first.f k x0 x144000 x144001 x145000 x145001).bind fun t147 => (some (wrap64 (t146 - t147), 0))))
def cadence_Fields.f (k : Nat) (a0 : Int) (a1_0 : Int) (a1_1 : Int) (a2_0 : Int) (a2_1 : Int) : Option (Int × Int) := (cadence_telecine.f k a1_0 a1_1 a2_0 a2_1).bind fun t145 => (if t145 = true then (if a0 < 0 then (cadence_Fields.j0 k a0 true a1_0 a1_1 a2_0 a2_1) else (cadence_Fields.j0 k a0 (decide (a0 ≥ 2147483647)) a1_0 a1_1 a2_0 a2_1)) else (some (0, 1)))
theorem cadence_Fields.mono_l : ∀ k, (∀ y0 y1 y2 y3 y4 y5, LeO (cadence_Fields.j0 k y0 y1 y2 y3 y4 y5) (cadence_Fields.j0 (k + 1) y0 y1 y2 y3 y4 y5))
 | 0 => fun _ _ _ _ _ _ r h => by simp [cadence_Fields.j0] at h
 | k + 1 => by
  have ih0 := cadence_Fields.mono_l k
  ·intro y0 y1 y2 y3 y4 y5
   unfold cadence_Fields.j0
   repeat' first
   | (with_reducible exact ih0 _ _ _ _ _ _)
   | (with_reducible exact cadence_first.mono _ _ _ _ _ _)
   | (with_reducible exact cadence_telecine.mono _ _ _ _ _)
   | (with_reducible exact LeO.refl _)
   | (with_reducible exact LeO.none _)
   | (with_reducible refine LeO.ite ?_ ?_)
   | (with_reducible refine LeO.bind ?_ (fun _ => ?_))
   | exact ih0 _ _ _ _ _ _
   | exact cadence_first.mono _ _ _ _ _ _
   | exact cadence_telecine.mono _ _ _ _ _
   | exact LeO.none _
   | refine LeO.ite ?_ ?_
   | refine LeO.bind ?_ (fun _ => ?_)
theorem cadence_Fields.mono : ∀ a0 a1 a2 a3 a4 k, LeO (cadence_Fields.f k a0 a1 a2 a3 a4) (cadence_Fields.f (k + 1) a0 a1 a2 a3 a4) := by
 intro a0 a1 a2 a3 a4 k
 have ih0 := cadence_Fields.mono_l k
 unfold cadence_Fields.f
 repeat' first
   | (with_reducible exact ih0 _ _ _ _ _ _)
   | (with_reducible exact cadence_first.mono _ _ _ _ _ _)
   | (with_reducible exact cadence_telecine.mono _ _ _ _ _)
   | (with_reducible exact LeO.refl _)
   | (with_reducible exact LeO.none _)
   | (with_reducible refine LeO.ite ?_ ?_)
   | (with_reducible refine LeO.bind ?_ (fun _ => ?_))
   | exact ih0 _ _ _ _ _ _
   | exact cadence_first.mono _ _ _ _ _ _
   | exact cadence_telecine.mono _ _ _ _ _
   | exact LeO.none _
   | refine LeO.ite ?_ ?_
   | refine LeO.bind ?_ (fun _ => ?_)
def cadence_Fields.T5 : Bool × List (List Nat × List Nat) := (true, [([], []), ([0], [0]), ([], []), ([], []), ([1, 2, 3], [1, 2, 3]), ([], []), ([], []), ([], []), ([5, 6, 7, 4], [5, 6, 7]), ([4, 8], [4, 8]), ([9, 8, 0, 1, 2, 3, 4, 5, 6, 7, 8, 9], [9]), ([10, 0, 1, 2, 3, 4, 5, 6, 7, 8, 9, 10], [])])
def cadence_Fields.B5 : List Nat := [0, 1, 0, 0, 15, 0, 0, 0, 255, 511, 1023, 2047]
theorem cadence_Fields.tab5 : rtab .any (opsOf Try.f29 5) = cadence_Fields.T5 := by kernel_rfl
theorem cadence_Fields.bits5 : waitsOk cadence_Fields.T5.2 cadence_Fields.B5 = true := by kernel_rfl
set_option maxHeartbeats 8000000 in
set_option maxRecDepth 100000 in
theorem cadence_Fields.calls (k : Nat) (a0 : Int) (a1_0 : Int) (a1_1 : Int) (a2_0 : Int) (a2_1 : Int) (r1 : Int) (r2 : Int) (w : World) (h : cadence_Fields.f k a0 a1_0 a1_1 a2_0 a2_1 = some (r1, r2)) :
  Calls Try.prog 29 #[.int .i64 a0, .agg #[.int .i64 a1_0, .int .i64 a1_1], .agg #[.int .i64 a2_0, .int .i64 a2_1]] w fun e w' => e = .returned (.tuple #[.int .i64 r1, .int .i64 r2]) ∧ Below w.heap.size w w' := by
 have hu23 := Try.underlying23
 have HB := Aside0.mk (Below.refl w.heap.size w)
 have H : ((cadence_telecine.f k a1_0 a1_1 a2_0 a2_1).bind fun t145 => (if t145 = true then (if a0 < 0 then (cadence_Fields.j0 k a0 true a1_0 a1_1 a2_0 a2_1) else (cadence_Fields.j0 k a0 (decide (a0 ≥ 2147483647)) a1_0 a1_1 a2_0 a2_1)) else (some (0, 1)))) = some (r1, r2) := h
 clear h
 replace H := Option.bind_eq_some_iff.mp H
 obtain ⟨t145, A40, H⟩ := H
 replace H : (if t145 = true then (if a0 < 0 then (cadence_Fields.j0 k a0 true a1_0 a1_1 a2_0 a2_1) else (cadence_Fields.j0 k a0 (decide (a0 ≥ 2147483647)) a1_0 a1_1 a2_0 a2_1)) else (some (0, 1))) = some (r1, r2) := H
 have A4 := Aside0.mk A40
 clear A40
 by_cases c5 : t145 = true
 ·subst c5
  have H1 : (if a0 < 0 then (cadence_Fields.j0 k a0 true a1_0 a1_1 a2_0 a2_1) else (cadence_Fields.j0 k a0 (decide (a0 ≥ 2147483647)) a1_0 a1_1 a2_0 a2_1)) = some (r1, r2) := by rw [if_pos rfl] at H; exact H
  clear H
  have H := H1
  clear H1
  have HC6 := Aside0.mk H
  clear H
  go_enter Try.func29, Try.ntmps29
  go_upto_region 3 with (first | ((with_reducible refine xD (N := 4) rfl ?_); refine box_event ?hg (N := 4) ?hd (cs := #[.int .i64 a1_0, .int .i64 a1_1]) (t := 23) ?hr ?_; (case hd => rfl); (case hg => rfl); (case hr => first | (go_simp; done) | (go_simp; rfl)); intro gb143 hg w7 hbox hb; have n0_ := Aside0.mk (zT (by repeat (first | (with_reducible first | exact HB.out | apply zA | apply zN | apply zD) | exact HB.out)) hb); have n1_ := Aside0.mk (hbox); have n2_ := Aside0.mk ((by rw [hg]; exact (zS (by repeat (first | (with_reducible first | exact HB.out | apply zA | apply zN | apply zD) | exact HB.out))) : w.heap.size ≤ gb143)); have n3_ := n2_; clear HB; have HB := n0_; have BK143 := n1_; have GW143 := n2_; have GE143 := n3_; clear n0_ n1_ n2_ n3_; clear hb hbox hg) | ((with_reducible refine xD (N := 5) rfl ?_); refine box_event ?hg (N := 5) ?hd (cs := #[.int .i64 a2_0, .int .i64 a2_1]) (t := 23) ?hr ?_; (case hd => rfl); (case hg => rfl); (case hr => first | (go_simp; done) | (go_simp; rfl)); intro gb144 hg w8 hbox hb; have n0_ := Aside0.mk (yB (g := gb143) (o := .cells #[.int .i64 a1_0, .int .i64 a1_1] 23 (0, 0)) (by (with_reducible repeat (first | refine yN ?_ _ | refine yD ?_ | refine yA ?_ _)); exact BK143.out) hb); have n1_ := Aside0.mk (zT (by repeat (first | (with_reducible first | exact HB.out | apply zA | apply zN | apply zD | refine zP ?_ GE143.out) | exact HB.out)) hb); have n2_ := Aside0.mk (hbox); have n3_ := Aside0.mk ((by rw [hg]; exact (zS (by repeat (first | (with_reducible first | exact HB.out | apply zA | apply zN | apply zD | refine zP ?_ GE143.out) | exact HB.out))) : w.heap.size ≤ gb144)); have n4_ := n3_; have n5_ := Aside0.mk ((by rw [hg]; exact Nat.ne_of_lt (blk_lt (g := gb143) (o := .cells #[.int .i64 a1_0, .int .i64 a1_1] 23 (0, 0)) (by (with_reducible repeat (first | refine yN ?_ _ | refine yD ?_ | refine yA ?_ _)); exact BK143.out)) : gb143 ≠ gb144)); have n6_ := Aside0.mk ((by rw [hg]; exact Nat.ne_of_gt (blk_lt (g := gb143) (o := .cells #[.int .i64 a1_0, .int .i64 a1_1] 23 (0, 0)) (by (with_reducible repeat (first | refine yN ?_ _ | refine yD ?_ | refine yA ?_ _)); exact BK143.out)) : gb144 ≠ gb143)); clear BK143; clear HB; have BK143 := n0_; have HB := n1_; have BK144 := n2_; have GW144 := n3_; have GE144 := n4_; have NB143_144 := n5_; have NB144_143 := n6_; clear n0_ n1_ n2_ n3_ n4_ n5_ n6_; clear hb hbox hg; have hnb9 := NB143_144.out; have hnc9 := NB144_143.out; have hcz10_0 : w8.cell? ⟨gb143, 0, none⟩ = some (.int .i64 a1_0) := (blk_cell BK143.out 0).trans rfl; have hcz10_1 : w8.cell? ⟨gb143, 1, none⟩ = some (.int .i64 a1_1) := (blk_cell BK143.out 1).trans rfl; have hfz10_0 := blk_frozen BK143.out 0; have hfz10_1 := blk_frozen BK143.out 1; have hcz11_0 : w8.cell? ⟨gb144, 0, none⟩ = some (.int .i64 a2_0) := (blk_cell BK144.out 0).trans rfl; have hcz11_1 : w8.cell? ⟨gb144, 1, none⟩ = some (.int .i64 a2_1) := (blk_cell BK144.out 1).trans rfl; have hfz11_0 := blk_frozen BK144.out 0; have hfz11_1 := blk_frozen BK144.out 1) | ((with_reducible refine xC (f := 53) rfl ?_); refine goesL_ (some 10) rfl rfl Try.func53 (by kernel_rfl) rfl #[.agg #[.int .i64 a1_0, .int .i64 a1_1], .agg #[.int .i64 a2_0, .int .i64 a2_1]] rfl (by (try simp only [List.map_toArray, List.map_cons, List.map_nil]); first | done | rfl | (simp only [List.length_drop, List.length_take]; rfl)) ?_; (with_reducible refine (cadence_telecine.calls k a1_0 a1_1 a2_0 a2_1 true _ A4.out).mono ?_); rintro e w12 ⟨rfl, hb⟩; refine ⟨_, rfl, ?_⟩; have n0_ := Aside0.mk (yB (g := gb143) (o := .cells #[.int .i64 a1_0, .int .i64 a1_1] 23 (0, 0)) (by (with_reducible repeat (first | refine yN ?_ _ | refine yD ?_ | refine yA ?_ _)); exact BK143.out) hb); have n1_ := Aside0.mk (yB (g := gb144) (o := .cells #[.int .i64 a2_0, .int .i64 a2_1] 23 (0, 0)) (by (with_reducible repeat (first | refine yN ?_ _ | refine yD ?_ | refine yA ?_ _)); exact BK144.out) hb); have n2_ := Aside0.mk (zT (by repeat (first | (with_reducible first | exact HB.out | apply zA | apply zN | apply zD | refine zP ?_ GE143.out | refine zP ?_ GE144.out) | exact HB.out)) hb); clear BK143; clear BK144; clear HB; have BK143 := n0_; have BK144 := n1_; have HB := n2_; clear n0_ n1_ n2_; (try clear hb); (try clear hb2); (try clear hk); (try clear hi)))
  (try simp only [Act.put, sA, sZ, sS])
  go_cut [17] (fun v17 wc => ∃ (kq : Nat) (x17_5 : Bool), v17 = .bool x17_5 ∧ Aside0 (cadence_Fields.j0 kq a0 x17_5 a1_0 a1_1 a2_0 a2_1 = some (r1, r2)) ∧ Aside0 (kq ≤ k) ∧ Aside0 (wc.heap[gb143]? = some (.cells #[.int .i64 a1_0, .int .i64 a1_1] 23 (0, 0))) ∧ Aside0 (wc.heap[gb144]? = some (.cells #[.int .i64 a2_0, .int .i64 a2_1] 23 (0, 0))) ∧ Aside0 (Below w.heap.size w wc))
  case first =>
   have H := HC6.out
   clear HC6
   by_cases c13 : a0 < 0
   ·rw [if_pos c13] at H
    have c13b0 : decide (a0 < 0) = true := decide_eq_true c13
    clear c13
    (first | rw [c13b0] | (simp only [i64_w, i32_w]; rw [c13b0]) | skip)
    have H' := Aside0.mk H
    clear H
    go_wp2
    go_meet
    case rel => exact ⟨_, (true), (by first | rfl | (simp; done) | (simp [*]; done)), H', ⟨by first | omega | exact Nat.le_refl _⟩, ⟨by (with_reducible repeat (first | refine yN ?_ _ | refine yD ?_ | refine yA ?_ _)); exact BK143.out⟩, ⟨by (with_reducible repeat (first | refine yN ?_ _ | refine yD ?_ | refine yA ?_ _)); exact BK144.out⟩, ⟨by repeat (first | (with_reducible first | exact HB.out | apply zA | apply zN | apply zD | refine zP ?_ GE143.out | refine zP ?_ GE144.out) | exact HB.out)⟩⟩
   ·rw [if_neg c13] at H
    have c13b0 : decide (a0 < 0) = false := decide_eq_false c13
    clear c13
    (first | rw [c13b0] | (simp only [i64_w, i32_w]; rw [c13b0]) | skip)
    have H' := Aside0.mk H
    clear H
    go_wp2
    go_meet
    case rel => exact ⟨_, (decide (a0 ≥ 2147483647)), (by first | rfl | (simp; done) | (simp [*]; done)), H', ⟨by first | omega | exact Nat.le_refl _⟩, ⟨by (with_reducible repeat (first | refine yN ?_ _ | refine yD ?_ | refine yA ?_ _)); exact BK143.out⟩, ⟨by (with_reducible repeat (first | refine yN ?_ _ | refine yD ?_ | refine yA ?_ _)); exact BK144.out⟩, ⟨by repeat (first | (with_reducible first | exact HB.out | apply zA | apply zN | apply zD | refine zP ?_ GE143.out | refine zP ?_ GE144.out) | exact HB.out)⟩⟩
  case rest =>
   clear HC6
   (try clear c1);(try clear c2);(try clear p2);(try clear c5);(try clear c9);(try clear c13);(try clear c13b0);(try clear hcz10_0);(try clear hcz10_1);(try clear hcz11_0);(try clear hcz11_1);(try clear hfz10_0);(try clear hfz10_1);(try clear hfz11_0);(try clear hfz11_1)
   obtain ⟨kq, x17_5, rfl, HA, HJ5, BK143, BK144, HB⟩ := hcut
   cases kq with
   | zero => exact absurd HA.out (by simp [cadence_Fields.j0])
   | succ kj5 =>
    have H := HA.out
    clear HA
    simp only [cadence_Fields.j0] at H
    by_cases c14 : x17_5 = true
    ·subst c14
     have H1 : (some (0, 2)) = some (r1, r2) := by rw [if_pos rfl] at H; exact H
     clear H
     have H := H1
     clear H1
     simp only [Option.some.injEq, Prod.mk.injEq] at H
     obtain ⟨rfl, rfl⟩ := H
     go_wp2
     go_ret2
     exact ⟨by first | rfl | (simp [errW_none, errW_some] <;> rfl) | (simp [*, errW_none, errW_some] <;> rfl), by repeat (first | (with_reducible first | exact HB.out | apply zA | apply zN | apply zD | refine zP ?_ GE143.out | refine zP ?_ GE144.out) | exact HB.out)⟩
    ·replace c14 := Bool.eq_false_iff.mpr c14
     subst c14
     have H1 : ((cadence_first.f kj5 (wrap64 (a0 + 1)) a1_0 a1_1 a2_0 a2_1).bind fun t146 => ((cadence_first.f kj5 a0 a1_0 a1_1 a2_0 a2_1).bind fun t147 => (some (wrap64 (t146 - t147), 0)))) = some (r1, r2) := by rw [if_neg (show ¬ (false = true) by decide)] at H; exact H
     clear H
     have H := H1
     clear H1
     replace H := Option.bind_eq_some_iff.mp H
     obtain ⟨t146, A150, H⟩ := H
     replace H : ((cadence_first.f kj5 a0 a1_0 a1_1 a2_0 a2_1).bind fun t147 => (some (wrap64 (t146 - t147), 0))) = some (r1, r2) := H
     have A15 := Aside0.mk A150
     clear A150
     replace H := Option.bind_eq_some_iff.mp H
     obtain ⟨t147, A160, H⟩ := H
     replace H : (some (wrap64 (t146 - t147), 0)) = some (r1, r2) := H
     have A16 := Aside0.mk A160
     clear A160
     simp only [Option.some.injEq, Prod.mk.injEq] at H
     obtain ⟨rfl, rfl⟩ := H
     try go_wp2
     have n0_ := Aside0.mk (yD BK143.out)
     have n1_ := Aside0.mk (yD BK144.out)
     have n2_ := Aside0.mk (zD HB.out)
     clear BK143
     clear BK144
     clear HB
     have BK143 := n0_
     have BK144 := n1_
     have HB := n2_
     clear n0_ n1_ n2_
     refine start_ (n := 12) (S := fun w' => w'.cell? ⟨gb143, 0, none⟩ = some (.int .i64 a1_0) ∧ w'.cell? ⟨gb143, 1, none⟩ = some (.int .i64 a1_1) ∧ w'.cell? ⟨gb144, 0, none⟩ = some (.int .i64 a2_0) ∧ w'.cell? ⟨gb144, 1, none⟩ = some (.int .i64 a2_1)) (ds := []) #[false, false, false, false, false, false, false, false, false, false, false, false] (by kernel_rfl) rfl rfl ⟨(blk_cell BK143.out 0).trans rfl, (blk_cell BK143.out 1).trans rfl, (blk_cell BK144.out 0).trans rfl, (blk_cell BK144.out 1).trans rfl⟩ (fun hHeld => ?_); refine with_tabW cadence_Fields.tab5 cadence_Fields.bits5 (fun HT_ HW_ => ?_)
     generalize wc.drew = w17 at BK143 BK144 HB hHeld ⊢
     refine Abb.pS 0 18 #[T', F', F', F', F', F', F', F', F', F', F', F'] HT_ ?_
     refine Abb.pS 1 19 #[T', T', F', F', F', F', F', F', F', F', F', F'] HT_ ?_
     refine Abb.pS 5 23 #[T', T', F', F', F', T', F', F', F', F', F', F'] HT_ ?_
     refine Abb.pT 2 20 #[T', T', T', F', F', T', F', F', F', F', F', F'] HT_ HW_ hHeld ?_
     refine Abb.pT 3 21 #[T', T', T', T', F', T', F', F', F', F', F', F'] HT_ HW_ hHeld ?_
     refine Abb.pT 6 24 #[T', T', T', T', F', T', T', F', F', F', F', F'] HT_ HW_ hHeld ?_
     refine Abb.pT 7 25 #[T', T', T', T', F', T', T', T', F', F', F', F'] HT_ HW_ hHeld ?_
     refine one_ (i := 4) (N := some 22) #[T', T', T', T', T', T', T', T', F', F', F', F'] rfl rfl (one_of HT_.out (by kernel_rfl)) (by decide) (fun K hK => ?_)
     refine goes_ Try.func54 (by kernel_rfl) rfl #[.int .i64 (wrap64 (a0 + 1)), .agg #[.int .i64 a1_0, .int .i64 a1_1], .agg #[.int .i64 a2_0, .int .i64 a2_1]] (by rfl) rfl rfl (by (try simp only [List.map_toArray, List.map_cons, List.map_nil]); first | done | rfl | (simp only [List.length_drop, List.length_take]; rfl)) ?_
     with_reducible refine (cadence_first.calls kj5 (wrap64 (a0 + 1)) a1_0 a1_1 a2_0 a2_1 t146 _ A15.out).mono ?_
     rintro e w18 ⟨rfl, hb⟩
     refine ⟨_, rfl, ?_⟩
     have n0_ := Aside0.mk (yB (g := gb143) (o := .cells #[.int .i64 a1_0, .int .i64 a1_1] 23 (0, 0)) (by (with_reducible repeat (first | refine yN ?_ _ | refine yD ?_ | refine yA ?_ _)); exact BK143.out) hb)
     have n1_ := Aside0.mk (yB (g := gb144) (o := .cells #[.int .i64 a2_0, .int .i64 a2_1] 23 (0, 0)) (by (with_reducible repeat (first | refine yN ?_ _ | refine yD ?_ | refine yA ?_ _)); exact BK144.out) hb)
     have n2_ := Aside0.mk (zT (by repeat (first | (with_reducible first | exact HB.out | apply zA | apply zN | apply zD | refine zP ?_ GE143.out | refine zP ?_ GE144.out) | exact HB.out)) hb)
     clear BK143
     clear BK144
     clear HB
     have BK143 := n0_
     have BK144 := n1_
     have HB := n2_
     clear n0_ n1_ n2_
     (try clear hb)
     (try clear hb2)
     (try clear hk)
     (try clear hi)
     refine hK.out _ _ ⟨(blk_cell BK143.out 0).trans rfl, (blk_cell BK143.out 1).trans rfl, (blk_cell BK144.out 0).trans rfl, (blk_cell BK144.out 1).trans rfl⟩ (fun hHeld => ?_)
     clear hK K
     refine norm_ (a' := ?_) ?_ ?_
     rotate_left
     ·show Act.put _ (some 22) _ = _
      simp only [Act.put, sA, sZ, sS, i64_w, i32_w]
      rfl
     refine one_ (i := 8) (N := some 26) #[T', T', T', T', T', T', T', T', T', F', F', F'] rfl rfl (one_of HT_.out (by kernel_rfl)) (by decide) (fun K hK => ?_)
     refine goes_ Try.func54 (by kernel_rfl) rfl #[.int .i64 a0, .agg #[.int .i64 a1_0, .int .i64 a1_1], .agg #[.int .i64 a2_0, .int .i64 a2_1]] (by rfl) rfl rfl (by (try simp only [List.map_toArray, List.map_cons, List.map_nil]); first | done | rfl | (simp only [List.length_drop, List.length_take]; rfl)) ?_
     with_reducible refine (cadence_first.calls kj5 a0 a1_0 a1_1 a2_0 a2_1 t147 _ A16.out).mono ?_
     rintro e w19 ⟨rfl, hb⟩
     refine ⟨_, rfl, ?_⟩
     have n0_ := Aside0.mk (yB (g := gb143) (o := .cells #[.int .i64 a1_0, .int .i64 a1_1] 23 (0, 0)) (by (with_reducible repeat (first | refine yN ?_ _ | refine yD ?_ | refine yA ?_ _)); exact BK143.out) hb)
     have n1_ := Aside0.mk (yB (g := gb144) (o := .cells #[.int .i64 a2_0, .int .i64 a2_1] 23 (0, 0)) (by (with_reducible repeat (first | refine yN ?_ _ | refine yD ?_ | refine yA ?_ _)); exact BK144.out) hb)
     have n2_ := Aside0.mk (zT (by repeat (first | (with_reducible first | exact HB.out | apply zA | apply zN | apply zD | refine zP ?_ GE143.out | refine zP ?_ GE144.out) | exact HB.out)) hb)
     clear BK143
     clear BK144
     clear HB
     have BK143 := n0_
     have BK144 := n1_
     have HB := n2_
     clear n0_ n1_ n2_
     (try clear hb)
     (try clear hb2)
     (try clear hk)
     (try clear hi)
     refine hK.out _ _ ⟨(blk_cell BK143.out 0).trans rfl, (blk_cell BK143.out 1).trans rfl, (blk_cell BK144.out 0).trans rfl, (blk_cell BK144.out 1).trans rfl⟩ (fun hHeld => ?_)
     clear hK K
     refine norm_ (a' := ?_) ?_ ?_
     rotate_left
     ·show Act.put _ (some 26) _ = _
      simp only [Act.put, sA, sZ, sS, i64_w, i32_w]
      rfl
     refine Abb.pS 9 27 #[T', T', T', T', T', T', T', T', T', T', F', F'] HT_ ?_
     refine Abb.pS 10 6 #[T', T', T', T', T', T', T', T', T', T', T', F'] HT_ ?_
     refine Abb.pS 11 7 #[T', T', T', T', T', T', T', T', T', T', T', T'] HT_ ?_
     refine done_ (done_of HT_.out (by kernel_rfl)) ?_
     try go_wp2
     go_ret2
     exact ⟨by first | rfl | (simp [errW_none, errW_some] <;> rfl) | (simp [*, errW_none, errW_some] <;> rfl), by repeat (first | (with_reducible first | exact HB.out | apply zA | apply zN | apply zD | refine zP ?_ GE143.out | refine zP ?_ GE144.out) | exact HB.out)⟩
 ·replace c5 := Bool.eq_false_iff.mpr c5
  subst c5
  have H1 : (some (0, 1)) = some (r1, r2) := by rw [if_neg (show ¬ (false = true) by decide)] at H; exact H
  clear H
  have H := H1
  clear H1
  simp only [Option.some.injEq, Prod.mk.injEq] at H
  obtain ⟨rfl, rfl⟩ := H
  go_enter Try.func29, Try.ntmps29
  go_wp2_with (first | ((with_reducible refine xD (N := 4) rfl ?_); refine box_event ?hg (N := 4) ?hd (cs := #[.int .i64 a1_0, .int .i64 a1_1]) (t := 23) ?hr ?_; (case hd => rfl); (case hg => rfl); (case hr => first | (go_simp; done) | (go_simp; rfl)); intro gb143 hg w20 hbox hb; have n0_ := Aside0.mk (zT (by repeat (first | (with_reducible first | exact HB.out | apply zA | apply zN | apply zD) | exact HB.out)) hb); have n1_ := Aside0.mk (hbox); have n2_ := Aside0.mk ((by rw [hg]; exact (zS (by repeat (first | (with_reducible first | exact HB.out | apply zA | apply zN | apply zD) | exact HB.out))) : w.heap.size ≤ gb143)); have n3_ := n2_; clear HB; have HB := n0_; have BK143 := n1_; have GW143 := n2_; have GE143 := n3_; clear n0_ n1_ n2_ n3_; clear hb hbox hg) | ((with_reducible refine xD (N := 5) rfl ?_); refine box_event ?hg (N := 5) ?hd (cs := #[.int .i64 a2_0, .int .i64 a2_1]) (t := 23) ?hr ?_; (case hd => rfl); (case hg => rfl); (case hr => first | (go_simp; done) | (go_simp; rfl)); intro gb144 hg w21 hbox hb; have n0_ := Aside0.mk (yB (g := gb143) (o := .cells #[.int .i64 a1_0, .int .i64 a1_1] 23 (0, 0)) (by (with_reducible repeat (first | refine yN ?_ _ | refine yD ?_ | refine yA ?_ _)); exact BK143.out) hb); have n1_ := Aside0.mk (zT (by repeat (first | (with_reducible first | exact HB.out | apply zA | apply zN | apply zD | refine zP ?_ GE143.out) | exact HB.out)) hb); have n2_ := Aside0.mk (hbox); have n3_ := Aside0.mk ((by rw [hg]; exact (zS (by repeat (first | (with_reducible first | exact HB.out | apply zA | apply zN | apply zD | refine zP ?_ GE143.out) | exact HB.out))) : w.heap.size ≤ gb144)); have n4_ := n3_; have n5_ := Aside0.mk ((by rw [hg]; exact Nat.ne_of_lt (blk_lt (g := gb143) (o := .cells #[.int .i64 a1_0, .int .i64 a1_1] 23 (0, 0)) (by (with_reducible repeat (first | refine yN ?_ _ | refine yD ?_ | refine yA ?_ _)); exact BK143.out)) : gb143 ≠ gb144)); have n6_ := Aside0.mk ((by rw [hg]; exact Nat.ne_of_gt (blk_lt (g := gb143) (o := .cells #[.int .i64 a1_0, .int .i64 a1_1] 23 (0, 0)) (by (with_reducible repeat (first | refine yN ?_ _ | refine yD ?_ | refine yA ?_ _)); exact BK143.out)) : gb144 ≠ gb143)); clear BK143; clear HB; have BK143 := n0_; have HB := n1_; have BK144 := n2_; have GW144 := n3_; have GE144 := n4_; have NB143_144 := n5_; have NB144_143 := n6_; clear n0_ n1_ n2_ n3_ n4_ n5_ n6_; clear hb hbox hg; have hnb22 := NB143_144.out; have hnc22 := NB144_143.out; have hcz23_0 : w21.cell? ⟨gb143, 0, none⟩ = some (.int .i64 a1_0) := (blk_cell BK143.out 0).trans rfl; have hcz23_1 : w21.cell? ⟨gb143, 1, none⟩ = some (.int .i64 a1_1) := (blk_cell BK143.out 1).trans rfl; have hfz23_0 := blk_frozen BK143.out 0; have hfz23_1 := blk_frozen BK143.out 1; have hcz24_0 : w21.cell? ⟨gb144, 0, none⟩ = some (.int .i64 a2_0) := (blk_cell BK144.out 0).trans rfl; have hcz24_1 : w21.cell? ⟨gb144, 1, none⟩ = some (.int .i64 a2_1) := (blk_cell BK144.out 1).trans rfl; have hfz24_0 := blk_frozen BK144.out 0; have hfz24_1 := blk_frozen BK144.out 1) | ((with_reducible refine xC (f := 53) rfl ?_); refine goesL_ (some 10) rfl rfl Try.func53 (by kernel_rfl) rfl #[.agg #[.int .i64 a1_0, .int .i64 a1_1], .agg #[.int .i64 a2_0, .int .i64 a2_1]] rfl (by (try simp only [List.map_toArray, List.map_cons, List.map_nil]); first | done | rfl | (simp only [List.length_drop, List.length_take]; rfl)) ?_; (with_reducible refine (cadence_telecine.calls k a1_0 a1_1 a2_0 a2_1 false _ A4.out).mono ?_); rintro e w25 ⟨rfl, hb⟩; refine ⟨_, rfl, ?_⟩; have n0_ := Aside0.mk (yB (g := gb143) (o := .cells #[.int .i64 a1_0, .int .i64 a1_1] 23 (0, 0)) (by (with_reducible repeat (first | refine yN ?_ _ | refine yD ?_ | refine yA ?_ _)); exact BK143.out) hb); have n1_ := Aside0.mk (yB (g := gb144) (o := .cells #[.int .i64 a2_0, .int .i64 a2_1] 23 (0, 0)) (by (with_reducible repeat (first | refine yN ?_ _ | refine yD ?_ | refine yA ?_ _)); exact BK144.out) hb); have n2_ := Aside0.mk (zT (by repeat (first | (with_reducible first | exact HB.out | apply zA | apply zN | apply zD | refine zP ?_ GE143.out | refine zP ?_ GE144.out) | exact HB.out)) hb); clear BK143; clear BK144; clear HB; have BK143 := n0_; have BK144 := n1_; have HB := n2_; clear n0_ n1_ n2_; (try clear hb); (try clear hb2); (try clear hk); (try clear hi)))
  go_ret2
  exact ⟨by first | rfl | (simp [errW_none, errW_some] <;> rfl) | (simp [*, errW_none, errW_some] <;> rfl), by repeat (first | (with_reducible first | exact HB.out | apply zA | apply zN | apply zD | refine zP ?_ GE143.out | refine zP ?_ GE144.out) | exact HB.out)⟩

end Go.Proofs.Ytcofjbbflcnaaaa.P
