-- Written by this session's own program (wip/tools/myprint.py), which runs the kit's print with turns of its own: not a text of the kit's print.sh.
import Derived.Test.YtbpmkcgpgdbbkaaPx0
namespace Go.Proofs.Ytbpmkcgpgdbbkaa.P
open Go.RowKit Go.Proofs.YtbpmkcgpgdbbkaaW.PrintWords Go.Proofs.YtbpmkcgpgdbbkaaW.PrintLast Go.Proofs.YtbpmkcgpgdbbkaaW.PrintMore
attribute [local go_sem] max2_int min2_int max_two min_two max_three min_three max_four min_four   -- for this text's walks alone
set_option linter.unusedVariables false
set_option linter.unusedSimpArgs false

/-! ### cutroomref18_shown: function 34 -/
mutual
def cutroomref18_shown.l0 : Nat → Int → Int → Int → Int → List (S48) → ByteArray → Int → List Int → List (S74) → List (S61) → Option (Int)
 | 0, _, _, _, _, _, _, _, _, _, _ => none
 | k + 1, x2, x7, x8, x252000, x252001, x253000, x253001, x253002, x253003, x253004 => if x8 < (x253004.length : Int) then (if 0 ≤ x8 then (if ((rd_T61 x253004 x8).f1) ≥ 0 then (cutroomref18_shown.j1 k x2 x7 x8 (decide (((rd_T61 x253004 x8).f1) ≤ x2)) x252000 x252001 x253000 x253001 x253002 x253003 x253004 ((rd_T61 x253004 x8).f0) ((rd_T61 x253004 x8).f1)) else (cutroomref18_shown.j1 k x2 x7 x8 false x252000 x252001 x253000 x253001 x253002 x253003 x253004 ((rd_T61 x253004 x8).f0) ((rd_T61 x253004 x8).f1))) else (none)) else (some (-1))
def cutroomref18_shown.j1 : Nat → Int → Int → Int → Bool → Int → List (S48) → ByteArray → Int → List Int → List (S74) → List (S61) → Int → Int → Option (Int)
 | 0, _, _, _, _, _, _, _, _, _, _, _, _, _ => none
 | k + 1, x2, x7, x8, x42, x252000, x252001, x253000, x253001, x253002, x253003, x253004, x255000, x255001 => if x42 = true then (if x253001 = 0 then (none) else (if (wrap64 (Int.tdiv (wrap64 ((wrap64 (x2 - x255001)) * x252000)) x253001)) < x255000 then (some (wrap64 (x7 + (wrap64 (Int.tdiv (wrap64 ((wrap64 (x2 - x255001)) * x252000)) x253001))))) else (cutroomref18_shown.l0 k x2 (wrap64 (x7 + x255000)) (wrap64 (x8 + 1)) x252000 x252001 x253000 x253001 x253002 x253003 x253004))) else (cutroomref18_shown.l0 k x2 (wrap64 (x7 + x255000)) (wrap64 (x8 + 1)) x252000 x252001 x253000 x253001 x253002 x253003 x253004)
end
def cutroomref18_shown.f (k : Nat) (a0_0 : Int) (l0_1 : List (S48)) (a1_0 : ByteArray) (a1_1 : Int) (l1_2 : List Int) (l1_3 : List (S74)) (l1_4 : List (S61)) (a2 : Int) : Option (Int) := if (l1_4.length : Int) = 0 then (if a1_1 = 0 then (none) else (some (wrap64 (Int.tdiv (wrap64 (a2 * a0_0)) a1_1)))) else (cutroomref18_shown.l0 k a2 0 0 a0_0 l0_1 a1_0 a1_1 l1_2 l1_3 l1_4)
theorem cutroomref18_shown.mono_l : ∀ k, (∀ y0 y1 y2 y3 y4 y5 y6 y7 y8 y9, LeO (cutroomref18_shown.l0 k y0 y1 y2 y3 y4 y5 y6 y7 y8 y9) (cutroomref18_shown.l0 (k + 1) y0 y1 y2 y3 y4 y5 y6 y7 y8 y9)) ∧ (∀ y0 y1 y2 y3 y4 y5 y6 y7 y8 y9 y10 y11 y12, LeO (cutroomref18_shown.j1 k y0 y1 y2 y3 y4 y5 y6 y7 y8 y9 y10 y11 y12) (cutroomref18_shown.j1 (k + 1) y0 y1 y2 y3 y4 y5 y6 y7 y8 y9 y10 y11 y12))
 | 0 => ⟨fun _ _ _ _ _ _ _ _ _ _ r h => by simp [cutroomref18_shown.l0] at h, fun _ _ _ _ _ _ _ _ _ _ _ _ _ r h => by simp [cutroomref18_shown.j1] at h⟩
 | k + 1 => by
  obtain ⟨ih0, ih1⟩ := cutroomref18_shown.mono_l k
  refine ⟨?_, ?_⟩
  ·intro y0 y1 y2 y3 y4 y5 y6 y7 y8 y9
   unfold cutroomref18_shown.l0
   repeat' first
   | (with_reducible exact ih0 _ _ _ _ _ _ _ _ _ _)
   | (with_reducible exact ih1 _ _ _ _ _ _ _ _ _ _ _ _ _)
   | (with_reducible exact LeO.refl _)
   | (with_reducible exact LeO.none _)
   | (with_reducible refine LeO.ite ?_ ?_)
   | (with_reducible refine LeO.bind ?_ (fun _ => ?_))
   | exact ih0 _ _ _ _ _ _ _ _ _ _
   | exact ih1 _ _ _ _ _ _ _ _ _ _ _ _ _
   | exact LeO.none _
   | refine LeO.ite ?_ ?_
   | refine LeO.bind ?_ (fun _ => ?_)
  ·intro y0 y1 y2 y3 y4 y5 y6 y7 y8 y9 y10 y11 y12
   unfold cutroomref18_shown.j1
   repeat' first
   | (with_reducible exact ih0 _ _ _ _ _ _ _ _ _ _)
   | (with_reducible exact ih1 _ _ _ _ _ _ _ _ _ _ _ _ _)
   | (with_reducible exact LeO.refl _)
   | (with_reducible exact LeO.none _)
   | (with_reducible refine LeO.ite ?_ ?_)
   | (with_reducible refine LeO.bind ?_ (fun _ => ?_))
   | exact ih0 _ _ _ _ _ _ _ _ _ _
   | exact ih1 _ _ _ _ _ _ _ _ _ _ _ _ _
   | exact LeO.none _
   | refine LeO.ite ?_ ?_
   | refine LeO.bind ?_ (fun _ => ?_)
theorem cutroomref18_shown.mono : ∀ a0 a1 a2 a3 a4 a5 a6 a7 k, LeO (cutroomref18_shown.f k a0 a1 a2 a3 a4 a5 a6 a7) (cutroomref18_shown.f (k + 1) a0 a1 a2 a3 a4 a5 a6 a7) := by
 intro a0 a1 a2 a3 a4 a5 a6 a7 k
 obtain ⟨ih0, ih1⟩ := cutroomref18_shown.mono_l k
 unfold cutroomref18_shown.f
 repeat' first
   | (with_reducible exact ih0 _ _ _ _ _ _ _ _ _ _)
   | (with_reducible exact ih1 _ _ _ _ _ _ _ _ _ _ _ _ _)
   | (with_reducible exact LeO.refl _)
   | (with_reducible exact LeO.none _)
   | (with_reducible refine LeO.ite ?_ ?_)
   | (with_reducible refine LeO.bind ?_ (fun _ => ?_))
   | exact ih0 _ _ _ _ _ _ _ _ _ _
   | exact ih1 _ _ _ _ _ _ _ _ _ _ _ _ _
   | exact LeO.none _
   | refine LeO.ite ?_ ?_
   | refine LeO.bind ?_ (fun _ => ?_)
set_option maxHeartbeats 8000000 in
set_option maxRecDepth 100000 in
theorem cutroomref18_shown.calls (k : Nat) (a0_0 : Int) (A0_1 : Option Addr) (c0_1 : Nat) (l0_1 : List (S48)) (a1_0 : ByteArray) (a1_1 : Int) (A1_2 : Option Addr) (c1_2 : Nat) (l1_2 : List Int) (A1_3 : Option Addr) (c1_3 : Nat) (l1_3 : List (S74)) (A1_4 : Option Addr) (c1_4 : Nat) (l1_4 : List (S61)) (a2 : Int) (r : Int) (w : World) (hr0_1 : Kd.C k48 w A0_1 l0_1.length l0_1) (hc0_1 : l0_1.length ≤ c0_1) (hr1_2 : Kd.C (Kd.int .u8) w A1_2 l1_2.length l1_2) (hc1_2 : l1_2.length ≤ c1_2) (hr1_3 : Kd.C k74 w A1_3 l1_3.length l1_3) (hc1_3 : l1_3.length ≤ c1_3) (hr1_4 : Kd.C k61 w A1_4 l1_4.length l1_4) (hc1_4 : l1_4.length ≤ c1_4) (h : cutroomref18_shown.f k a0_0 l0_1 a1_0 a1_1 l1_2 l1_3 l1_4 a2 = some r) :
  Calls Try.prog 34 #[.agg #[.int .i64 a0_0, .slice A0_1 l0_1.length c0_1], .agg #[.string a1_0, .int .i64 a1_1, .slice A1_2 l1_2.length c1_2, .slice A1_3 l1_3.length c1_3, .slice A1_4 l1_4.length c1_4], .int .i64 a2] w fun e w' => e = .returned (.int .i64 r) ∧ Below w.heap.size w w' := by
 have hu37 := Try.underlying37
 have hu48 := Try.underlying48
 have hu61 := Try.underlying61
 have HR0_1 := Aside0.mk hr0_1
 have HC0_1 := Aside0.mk hc0_1
 clear hr0_1 hc0_1
 have HR1_2 := Aside0.mk hr1_2
 have HC1_2 := Aside0.mk hc1_2
 clear hr1_2 hc1_2
 have HR1_3 := Aside0.mk hr1_3
 have HC1_3 := Aside0.mk hc1_3
 clear hr1_3 hc1_3
 have HR1_4 := Aside0.mk hr1_4
 have HC1_4 := Aside0.mk hc1_4
 clear hr1_4 hc1_4
 have HB := Aside0.mk (Below.refl w.heap.size w)
 have H : (if (l1_4.length : Int) = 0 then (if a1_1 = 0 then (none) else (some (wrap64 (Int.tdiv (wrap64 (a2 * a0_0)) a1_1)))) else (cutroomref18_shown.l0 k a2 0 0 a0_0 l0_1 a1_0 a1_1 l1_2 l1_3 l1_4)) = some r := h
 clear h
 by_cases c4 : (l1_4.length : Int) = 0
 ·rw [if_pos c4] at H
  have c4b0 : ((l1_4.length : Int) == 0) = true := beq_iff_eq.mpr c4
  have c4b1 : ((l1_4.length : Int) != 0) = false := bne_eq_false_iff_eq.mpr c4
  clear c4
  by_cases c5 : a1_1 = 0
  ·rw [if_pos c5] at H
   exact absurd H (by simp)
  ·rw [if_neg c5] at H
   have c5b0 : (a1_1 == 0) = false := beq_eq_false_iff_ne.mpr c5
   have c5b1 : (a1_1 != 0) = true := bne_iff_ne.mpr c5
   obtain rfl := Option.some.inj H
   go_enter Try.func34, Try.ntmps34
   go_wp2_with (first | ((with_reducible refine gate_dst (N := 3) rfl ?_); refine box_event ?hg (N := 3) ?hd (cs := #[.int .i64 a0_0, .slice A0_1 l0_1.length c0_1]) (t := 37) ?hr ?_; (case hd => rfl); (case hg => rfl); (case hr => first | (go_simp; done) | (go_simp; rfl)); intro gb251 hg w6 hbox hb; have n0_ := Aside0.mk (below_step (by repeat (first | (with_reducible first | exact HB.out | apply below_alloc | apply pw_below_drewN | apply below_drew1) | exact HB.out)) hb); have n1_ := Aside0.mk (hbox); have n2_ := Aside0.mk ((by rw [hg]; exact (below_size (by repeat (first | (with_reducible first | exact HB.out | apply below_alloc | apply pw_below_drewN | apply below_drew1) | exact HB.out))) : w.heap.size ≤ gb251)); have n3_ := Aside0.mk ((by rw [hg]; exact (below_size (by repeat (first | (with_reducible first | exact HB.out | apply below_alloc | apply pw_below_drewN | apply below_drew1) | exact HB.out))) : w.heap.size ≤ gb251)); clear HB; have HB := n0_; have BK251 := n1_; have GW251 := n2_; have GE251 := n3_; clear n0_ n1_ n2_ n3_; clear hb hbox hg) | ((with_reducible refine gate_dst (N := 4) rfl ?_); refine box_event ?hg (N := 4) ?hd (cs := #[.string a1_0, .int .i64 a1_1, .slice A1_2 l1_2.length c1_2, .slice A1_3 l1_3.length c1_3, .slice A1_4 l1_4.length c1_4]) (t := 48) ?hr ?_; (case hd => rfl); (case hg => rfl); (case hr => first | (go_simp; done) | (go_simp; rfl)); intro gb252 hg w7 hbox hb; have n0_ := Aside0.mk (blk_below (g := gb251) (o := .cells #[.int .i64 a0_0, .slice A0_1 l0_1.length c0_1] 37 (0, 0)) (by (with_reducible repeat (first | refine blk_drewN ?_ _ | refine blk_drew ?_ | refine blk_alloc ?_ _)); exact BK251.out) hb); have n1_ := Aside0.mk (below_step (by repeat (first | (with_reducible first | exact HB.out | apply below_alloc | apply pw_below_drewN | apply below_drew1 | refine below_set ?_ GE251.out) | exact HB.out)) hb); have n2_ := Aside0.mk (hbox); have n3_ := Aside0.mk ((by rw [hg]; exact (below_size (by repeat (first | (with_reducible first | exact HB.out | apply below_alloc | apply pw_below_drewN | apply below_drew1 | refine below_set ?_ GE251.out) | exact HB.out))) : w.heap.size ≤ gb252)); have n4_ := Aside0.mk ((by rw [hg]; exact (below_size (by repeat (first | (with_reducible first | exact HB.out | apply below_alloc | apply pw_below_drewN | apply below_drew1 | refine below_set ?_ GE251.out) | exact HB.out))) : w.heap.size ≤ gb252)); have n5_ := Aside0.mk ((by rw [hg]; exact Nat.ne_of_lt (blk_lt (g := gb251) (o := .cells #[.int .i64 a0_0, .slice A0_1 l0_1.length c0_1] 37 (0, 0)) (by (with_reducible repeat (first | refine blk_drewN ?_ _ | refine blk_drew ?_ | refine blk_alloc ?_ _)); exact BK251.out)) : gb251 ≠ gb252)); have n6_ := Aside0.mk ((by rw [hg]; exact Nat.ne_of_gt (blk_lt (g := gb251) (o := .cells #[.int .i64 a0_0, .slice A0_1 l0_1.length c0_1] 37 (0, 0)) (by (with_reducible repeat (first | refine blk_drewN ?_ _ | refine blk_drew ?_ | refine blk_alloc ?_ _)); exact BK251.out)) : gb252 ≠ gb251)); clear BK251; clear HB; have BK251 := n0_; have HB := n1_; have BK252 := n2_; have GW252 := n3_; have GE252 := n4_; have NB251_252 := n5_; have NB252_251 := n6_; clear n0_ n1_ n2_ n3_ n4_ n5_ n6_; clear hb hbox hg; have hnb8 := NB252_251.out; have hnc8 := NB251_252.out; have hcz9_0 : w7.cell? ⟨gb252, 0, none⟩ = some (.string a1_0) := (blk_cell BK252.out 0).trans rfl; have hcz9_1 : w7.cell? ⟨gb252, 1, none⟩ = some (.int .i64 a1_1) := (blk_cell BK252.out 1).trans rfl; have hcz9_2 : w7.cell? ⟨gb252, 2, none⟩ = some (.slice A1_2 l1_2.length c1_2) := (blk_cell BK252.out 2).trans rfl; have hcz9_3 : w7.cell? ⟨gb252, 3, none⟩ = some (.slice A1_3 l1_3.length c1_3) := (blk_cell BK252.out 3).trans rfl; have hcz9_4 : w7.cell? ⟨gb252, 4, none⟩ = some (.slice A1_4 l1_4.length c1_4) := (blk_cell BK252.out 4).trans rfl; have hfz9_0 := blk_frozen BK252.out 0; have hfz9_1 := blk_frozen BK252.out 1; have hfz9_2 := blk_frozen BK252.out 2; have hfz9_3 := blk_frozen BK252.out 3; have hfz9_4 := blk_frozen BK252.out 4; have hcz10_0 : w7.cell? ⟨gb251, 0, none⟩ = some (.int .i64 a0_0) := (blk_cell BK251.out 0).trans rfl; have hcz10_1 : w7.cell? ⟨gb251, 1, none⟩ = some (.slice A0_1 l0_1.length c0_1) := (blk_cell BK251.out 1).trans rfl; have hfz10_0 := blk_frozen BK251.out 0; have hfz10_1 := blk_frozen BK251.out 1))
   go_ret
   exact ⟨by first | rfl | (simp [errW_none, errW_some] <;> rfl) | (simp [*, errW_none, errW_some] <;> rfl), by repeat (first | (with_reducible first | exact HB.out | apply below_alloc | apply pw_below_drewN | apply below_drew1 | refine below_set ?_ GE251.out | refine below_set ?_ GE252.out) | exact HB.out)⟩
 ·rw [if_neg c4] at H
  have c4b0 : ((l1_4.length : Int) == 0) = false := beq_eq_false_iff_ne.mpr c4
  have c4b1 : ((l1_4.length : Int) != 0) = true := bne_iff_ne.mpr c4
  have c4b2 : ¬ (l1_4 = []) := fun h_ => c4 (by rw [h_]; rfl)
  have H' := Aside0.mk H
  clear H
  go_enter Try.func34, Try.ntmps34
  go_wp2_with (first | ((with_reducible refine gate_dst (N := 3) rfl ?_); refine box_event ?hg (N := 3) ?hd (cs := #[.int .i64 a0_0, .slice A0_1 l0_1.length c0_1]) (t := 37) ?hr ?_; (case hd => rfl); (case hg => rfl); (case hr => first | (go_simp; done) | (go_simp; rfl)); intro gb251 hg w11 hbox hb; have n0_ := Aside0.mk (below_step (by repeat (first | (with_reducible first | exact HB.out | apply below_alloc | apply pw_below_drewN | apply below_drew1) | exact HB.out)) hb); have n1_ := Aside0.mk (hbox); have n2_ := Aside0.mk ((by rw [hg]; exact (below_size (by repeat (first | (with_reducible first | exact HB.out | apply below_alloc | apply pw_below_drewN | apply below_drew1) | exact HB.out))) : w.heap.size ≤ gb251)); have n3_ := Aside0.mk ((by rw [hg]; exact (below_size (by repeat (first | (with_reducible first | exact HB.out | apply below_alloc | apply pw_below_drewN | apply below_drew1) | exact HB.out))) : w.heap.size ≤ gb251)); clear HB; have HB := n0_; have BK251 := n1_; have GW251 := n2_; have GE251 := n3_; clear n0_ n1_ n2_ n3_; clear hb hbox hg) | ((with_reducible refine gate_dst (N := 4) rfl ?_); refine box_event ?hg (N := 4) ?hd (cs := #[.string a1_0, .int .i64 a1_1, .slice A1_2 l1_2.length c1_2, .slice A1_3 l1_3.length c1_3, .slice A1_4 l1_4.length c1_4]) (t := 48) ?hr ?_; (case hd => rfl); (case hg => rfl); (case hr => first | (go_simp; done) | (go_simp; rfl)); intro gb252 hg w12 hbox hb; have n0_ := Aside0.mk (blk_below (g := gb251) (o := .cells #[.int .i64 a0_0, .slice A0_1 l0_1.length c0_1] 37 (0, 0)) (by (with_reducible repeat (first | refine blk_drewN ?_ _ | refine blk_drew ?_ | refine blk_alloc ?_ _)); exact BK251.out) hb); have n1_ := Aside0.mk (below_step (by repeat (first | (with_reducible first | exact HB.out | apply below_alloc | apply pw_below_drewN | apply below_drew1 | refine below_set ?_ GE251.out) | exact HB.out)) hb); have n2_ := Aside0.mk (hbox); have n3_ := Aside0.mk ((by rw [hg]; exact (below_size (by repeat (first | (with_reducible first | exact HB.out | apply below_alloc | apply pw_below_drewN | apply below_drew1 | refine below_set ?_ GE251.out) | exact HB.out))) : w.heap.size ≤ gb252)); have n4_ := Aside0.mk ((by rw [hg]; exact (below_size (by repeat (first | (with_reducible first | exact HB.out | apply below_alloc | apply pw_below_drewN | apply below_drew1 | refine below_set ?_ GE251.out) | exact HB.out))) : w.heap.size ≤ gb252)); have n5_ := Aside0.mk ((by rw [hg]; exact Nat.ne_of_lt (blk_lt (g := gb251) (o := .cells #[.int .i64 a0_0, .slice A0_1 l0_1.length c0_1] 37 (0, 0)) (by (with_reducible repeat (first | refine blk_drewN ?_ _ | refine blk_drew ?_ | refine blk_alloc ?_ _)); exact BK251.out)) : gb251 ≠ gb252)); have n6_ := Aside0.mk ((by rw [hg]; exact Nat.ne_of_gt (blk_lt (g := gb251) (o := .cells #[.int .i64 a0_0, .slice A0_1 l0_1.length c0_1] 37 (0, 0)) (by (with_reducible repeat (first | refine blk_drewN ?_ _ | refine blk_drew ?_ | refine blk_alloc ?_ _)); exact BK251.out)) : gb252 ≠ gb251)); clear BK251; clear HB; have BK251 := n0_; have HB := n1_; have BK252 := n2_; have GW252 := n3_; have GE252 := n4_; have NB251_252 := n5_; have NB252_251 := n6_; clear n0_ n1_ n2_ n3_ n4_ n5_ n6_; clear hb hbox hg; have hnb13 := NB252_251.out; have hnc13 := NB251_252.out; have hcz14_0 : w12.cell? ⟨gb252, 0, none⟩ = some (.string a1_0) := (blk_cell BK252.out 0).trans rfl; have hcz14_1 : w12.cell? ⟨gb252, 1, none⟩ = some (.int .i64 a1_1) := (blk_cell BK252.out 1).trans rfl; have hcz14_2 : w12.cell? ⟨gb252, 2, none⟩ = some (.slice A1_2 l1_2.length c1_2) := (blk_cell BK252.out 2).trans rfl; have hcz14_3 : w12.cell? ⟨gb252, 3, none⟩ = some (.slice A1_3 l1_3.length c1_3) := (blk_cell BK252.out 3).trans rfl; have hcz14_4 : w12.cell? ⟨gb252, 4, none⟩ = some (.slice A1_4 l1_4.length c1_4) := (blk_cell BK252.out 4).trans rfl; have hfz14_0 := blk_frozen BK252.out 0; have hfz14_1 := blk_frozen BK252.out 1; have hfz14_2 := blk_frozen BK252.out 2; have hfz14_3 := blk_frozen BK252.out 3; have hfz14_4 := blk_frozen BK252.out 4))
  go_loopg [7, 8] k (fun kq v7 v8 w' => ∃ (x7_1 : Int) (x8_1 : Int), v7 = .int .i64 x7_1 ∧ v8 = .int .i64 x8_1 ∧ Aside0 (cutroomref18_shown.l0 kq a2 x7_1 x8_1 a0_0 l0_1 a1_0 a1_1 l1_2 l1_3 l1_4 = some r) ∧ Aside0 (kq ≤ k) ∧ Aside0 (w'.heap[gb251]? = some (.cells #[.int .i64 a0_0, (.slice A0_1 l0_1.length c0_1)] 37 (0, 0))) ∧ Aside0 (w'.heap[gb252]? = some (.cells #[.string a1_0, .int .i64 a1_1, (.slice A1_2 l1_2.length c1_2), (.slice A1_3 l1_3.length c1_3), (.slice A1_4 l1_4.length c1_4)] 48 (0, 0))) ∧ Aside0 (Below w.heap.size w w'))
  case atStart => exact ⟨(0), (0), (by first | rfl | (simp; done) | (simp [*]; done)), (by first | rfl | (simp; done) | (simp [*]; done)), H', ⟨Nat.le_refl _⟩, ⟨by (with_reducible repeat (first | refine blk_drewN ?_ _ | refine blk_drew ?_ | refine blk_alloc ?_ _)); exact BK251.out⟩, ⟨by (with_reducible repeat (first | refine blk_drewN ?_ _ | refine blk_drew ?_ | refine blk_alloc ?_ _)); exact BK252.out⟩, ⟨by repeat (first | (with_reducible first | exact HB.out | apply below_alloc | apply pw_below_drewN | apply below_drew1 | refine below_set ?_ GE251.out | refine below_set ?_ GE252.out) | exact HB.out)⟩⟩
  case round =>
   clear H'
   (try clear c1);(try clear p2);(try clear c3);(try clear c4);(try clear c4b0);(try clear c4b1);(try clear c4b2);(try clear c5);(try clear c5b0);(try clear c5b1);(try clear p6);(try clear c8);(try clear c13);(try clear hcz10_0);(try clear hcz10_1);(try clear hcz14_0);(try clear hcz14_1);(try clear hcz14_2);(try clear hcz14_3);(try clear hcz14_4);(try clear hcz9_0);(try clear hcz9_1);(try clear hcz9_2);(try clear hcz9_3);(try clear hcz9_4);(try clear hfz10_0);(try clear hfz10_1);(try clear hfz14_0);(try clear hfz14_1);(try clear hfz14_2);(try clear hfz14_3);(try clear hfz14_4);(try clear hfz9_0);(try clear hfz9_1);(try clear hfz9_2);(try clear hfz9_3);(try clear hfz9_4)
   obtain ⟨x7_1, x8_1, rfl, rfl, HA, HK1, BK251, BK252, HB⟩ := hrel
   cases gk with
   | zero => exact absurd HA.out (by simp [cutroomref18_shown.l0])
   | succ k1 =>
    have H := HA.out
    clear HA
    simp only [cutroomref18_shown.l0] at H
    by_cases c15 : x8_1 < (l1_4.length : Int)
    ·rw [if_pos c15] at H
     have c15b0 : decide (x8_1 < (l1_4.length : Int)) = true := decide_eq_true c15
     clear c15
     by_cases c16 : 0 ≤ x8_1
     ·rw [if_pos c16] at H
      have c16b0 : decide (0 ≤ x8_1) = true := decide_eq_true c16
      clear c16
      have HC17 := Aside0.mk H
      clear H
      have hnb18 := NB252_251.out
      have hnc18 := NB251_252.out
      have hcz19_0 : wr.cell? ⟨gb252, 0, none⟩ = some (.string a1_0) := (blk_cell BK252.out 0).trans rfl
      have hcz19_1 : wr.cell? ⟨gb252, 1, none⟩ = some (.int .i64 a1_1) := (blk_cell BK252.out 1).trans rfl
      have hcz19_2 : wr.cell? ⟨gb252, 2, none⟩ = some (.slice A1_2 l1_2.length c1_2) := (blk_cell BK252.out 2).trans rfl
      have hcz19_3 : wr.cell? ⟨gb252, 3, none⟩ = some (.slice A1_3 l1_3.length c1_3) := (blk_cell BK252.out 3).trans rfl
      have hcz19_4 : wr.cell? ⟨gb252, 4, none⟩ = some (.slice A1_4 l1_4.length c1_4) := (blk_cell BK252.out 4).trans rfl
      have hfz19_0 := blk_frozen BK252.out 0
      have hfz19_1 := blk_frozen BK252.out 1
      have hfz19_2 := blk_frozen BK252.out 2
      have hfz19_3 := blk_frozen BK252.out 3
      have hfz19_4 := blk_frozen BK252.out 4
      have p253 : 0 ≤ (x8_1 : Int) := of_decide_eq_true (by first | (with_reducible assumption) | assumption)
      have q253 : x8_1 < (l1_4.length : Int) := of_decide_eq_true (by first | (with_reducible assumption) | assumption)
      obtain ⟨ad253, e253, hx253_0, hx253_1⟩ := at_T61 HR1_4.out x8_1 p253 q253
      cases e253
      replace hx253_0 := (HB.out.cell (World.block_lt_of_cell? w _ hx253_0)).trans hx253_0
      replace hx253_1 := (HB.out.cell (World.block_lt_of_cell? w _ hx253_1)).trans hx253_1
      replace p253 := eq_true p253
      replace q253 := eq_true q253
      go_upto_region 8 with (first | ((with_reducible refine gate_dst (N := 9) rfl ?_); refine box_event ?hg (N := 9) ?hd (cs := #[.int .i64 0, .int .i64 0]) (t := 61) ?hr ?_; (case hd => rfl); (case hg => rfl); (case hr => first | (go_simp; done) | (go_simp; rfl)); intro gb254 hg w20 hbox hb; have n0_ := Aside0.mk (blk_below (g := gb251) (o := .cells #[.int .i64 a0_0, .slice A0_1 l0_1.length c0_1] 37 (0, 0)) (by (with_reducible repeat (first | refine blk_drewN ?_ _ | refine blk_drew ?_ | refine blk_alloc ?_ _)); exact BK251.out) hb); have n1_ := Aside0.mk (blk_below (g := gb252) (o := .cells #[.string a1_0, .int .i64 a1_1, .slice A1_2 l1_2.length c1_2, .slice A1_3 l1_3.length c1_3, .slice (some ad253) l1_4.length c1_4] 48 (0, 0)) (by (with_reducible repeat (first | refine blk_drewN ?_ _ | refine blk_drew ?_ | refine blk_alloc ?_ _)); exact BK252.out) hb); have n2_ := Aside0.mk (below_step (by repeat (first | (with_reducible first | exact HB.out | apply below_alloc | apply pw_below_drewN | apply below_drew1 | refine below_set ?_ GE251.out | refine below_set ?_ GE252.out) | exact HB.out)) hb); have n3_ := Aside0.mk (hbox); have n4_ := Aside0.mk ((by rw [hg]; exact (below_size (by repeat (first | (with_reducible first | exact HB.out | apply below_alloc | apply pw_below_drewN | apply below_drew1 | refine below_set ?_ GE251.out | refine below_set ?_ GE252.out) | exact HB.out))) : w.heap.size ≤ gb254)); have n5_ := Aside0.mk ((by rw [hg]; exact (below_size (by repeat (first | (with_reducible first | exact HB.out | apply below_alloc | apply pw_below_drewN | apply below_drew1 | refine below_set ?_ GE251.out | refine below_set ?_ GE252.out) | exact HB.out))) : w.heap.size ≤ gb254)); have n6_ := Aside0.mk ((by rw [hg]; exact Nat.ne_of_lt (blk_lt (g := gb251) (o := .cells #[.int .i64 a0_0, .slice A0_1 l0_1.length c0_1] 37 (0, 0)) (by (with_reducible repeat (first | refine blk_drewN ?_ _ | refine blk_drew ?_ | refine blk_alloc ?_ _)); exact BK251.out)) : gb251 ≠ gb254)); have n7_ := Aside0.mk ((by rw [hg]; exact Nat.ne_of_gt (blk_lt (g := gb251) (o := .cells #[.int .i64 a0_0, .slice A0_1 l0_1.length c0_1] 37 (0, 0)) (by (with_reducible repeat (first | refine blk_drewN ?_ _ | refine blk_drew ?_ | refine blk_alloc ?_ _)); exact BK251.out)) : gb254 ≠ gb251)); have n8_ := Aside0.mk ((by rw [hg]; exact Nat.ne_of_lt (blk_lt (g := gb252) (o := .cells #[.string a1_0, .int .i64 a1_1, .slice A1_2 l1_2.length c1_2, .slice A1_3 l1_3.length c1_3, .slice (some ad253) l1_4.length c1_4] 48 (0, 0)) (by (with_reducible repeat (first | refine blk_drewN ?_ _ | refine blk_drew ?_ | refine blk_alloc ?_ _)); exact BK252.out)) : gb252 ≠ gb254)); have n9_ := Aside0.mk ((by rw [hg]; exact Nat.ne_of_gt (blk_lt (g := gb252) (o := .cells #[.string a1_0, .int .i64 a1_1, .slice A1_2 l1_2.length c1_2, .slice A1_3 l1_3.length c1_3, .slice (some ad253) l1_4.length c1_4] 48 (0, 0)) (by (with_reducible repeat (first | refine blk_drewN ?_ _ | refine blk_drew ?_ | refine blk_alloc ?_ _)); exact BK252.out)) : gb254 ≠ gb252)); clear BK251; clear BK252; clear HB; have BK251 := n0_; have BK252 := n1_; have HB := n2_; have BK254 := n3_; have GW254 := n4_; have GE254 := n5_; have NB251_254 := n6_; have NB254_251 := n7_; have NB252_254 := n8_; have NB254_252 := n9_; clear n0_ n1_ n2_ n3_ n4_ n5_ n6_ n7_ n8_ n9_; clear hb hbox hg; have hnb21 := NB254_251.out; have hnc21 := NB251_254.out; have hnb22 := NB254_252.out; have hnc22 := NB252_254.out; have hcz23_0 : w20.cell? ⟨gb254, 0, none⟩ = some (.int .i64 0) := (blk_cell BK254.out 0).trans rfl; have hcz23_1 : w20.cell? ⟨gb254, 1, none⟩ = some (.int .i64 0) := (blk_cell BK254.out 1).trans rfl; have hfz23_0 := blk_frozen BK254.out 0; have hfz23_1 := blk_frozen BK254.out 1))
      (try simp only [Act.put, List.setIfInBounds_toArray, List.set_cons_zero, List.set_cons_succ])
      go_cut [42] (fun v42 wc => ∃ (kq : Nat) (x42_16 : Bool), v42 = .bool x42_16 ∧ Aside0 (cutroomref18_shown.j1 kq a2 x7_1 x8_1 x42_16 a0_0 l0_1 a1_0 a1_1 l1_2 l1_3 l1_4 ((rd_T61 l1_4 x8_1).f0) ((rd_T61 l1_4 x8_1).f1) = some r) ∧ Aside0 (kq ≤ k1) ∧ Aside0 (wc.heap[gb251]? = some (.cells #[.int .i64 a0_0, (.slice A0_1 l0_1.length c0_1)] 37 (0, 0))) ∧ Aside0 (wc.heap[gb252]? = some (.cells #[.string a1_0, .int .i64 a1_1, (.slice A1_2 l1_2.length c1_2), (.slice A1_3 l1_3.length c1_3), (.slice (some ad253) l1_4.length c1_4)] 48 (0, 0))) ∧ Aside0 (wc.heap[gb254]? = some (.cells #[.int .i64 ((rd_T61 l1_4 x8_1).f0), .int .i64 ((rd_T61 l1_4 x8_1).f1)] 61 (0, 0))) ∧ Aside0 (Below w.heap.size w wc))
      case first =>
       have H := HC17.out
       clear HC17
       by_cases c24 : ((rd_T61 l1_4 x8_1).f1) ≥ 0
       ·rw [if_pos c24] at H
        have c24b0 : decide (0 ≤ ((rd_T61 l1_4 x8_1).f1)) = true := decide_eq_true c24
        clear c24
        (first | rw [c24b0] | (simp only [i64_w, i32_w]; rw [c24b0]) | skip)
        have H' := Aside0.mk H
        clear H
        have hnb25 := NB254_251.out
        have hnc25 := NB251_254.out
        have hnb26 := NB254_252.out
        have hnc26 := NB252_254.out
        have hcz27_0 : w20.cell? ⟨gb254, 0, none⟩ = some (.int .i64 0) := (blk_cell BK254.out 0).trans rfl
        have hcz27_1 : w20.cell? ⟨gb254, 1, none⟩ = some (.int .i64 0) := (blk_cell BK254.out 1).trans rfl
        have hfz27_0 := blk_frozen BK254.out 0
        have hfz27_1 := blk_frozen BK254.out 1
        go_wp2
        go_meet
        case rel => exact ⟨_, (decide (((rd_T61 l1_4 x8_1).f1) ≤ a2)), (by first | rfl | (simp; done) | (simp [*]; done)), H', ⟨by have := HK1.out; first | omega | exact Nat.le_refl _⟩, ⟨by (with_reducible repeat (first | refine blk_drewN ?_ _ | refine blk_drew ?_ | refine blk_alloc ?_ _)); refine blk_far ?_ NB251_254.out _; (with_reducible repeat (first | refine blk_drewN ?_ _ | refine blk_drew ?_ | refine blk_alloc ?_ _)); refine blk_far ?_ NB251_254.out _; (with_reducible repeat (first | refine blk_drewN ?_ _ | refine blk_drew ?_ | refine blk_alloc ?_ _)); exact BK251.out⟩, ⟨by (with_reducible repeat (first | refine blk_drewN ?_ _ | refine blk_drew ?_ | refine blk_alloc ?_ _)); refine blk_far ?_ NB252_254.out _; (with_reducible repeat (first | refine blk_drewN ?_ _ | refine blk_drew ?_ | refine blk_alloc ?_ _)); refine blk_far ?_ NB252_254.out _; (with_reducible repeat (first | refine blk_drewN ?_ _ | refine blk_drew ?_ | refine blk_alloc ?_ _)); exact BK252.out⟩, ⟨by (with_reducible repeat (first | refine blk_drewN ?_ _ | refine blk_drew ?_ | refine blk_alloc ?_ _)); refine blk_put (cs := #[.int .i64 ((rd_T61 l1_4 x8_1).f0), .int .i64 0]) ?_ 1 _ rfl; (with_reducible repeat (first | refine blk_drewN ?_ _ | refine blk_drew ?_ | refine blk_alloc ?_ _)); refine blk_put (cs := #[.int .i64 0, .int .i64 0]) ?_ 0 _ rfl; (with_reducible repeat (first | refine blk_drewN ?_ _ | refine blk_drew ?_ | refine blk_alloc ?_ _)); exact BK254.out⟩, ⟨by repeat (first | (with_reducible first | exact HB.out | apply below_alloc | apply pw_below_drewN | apply below_drew1 | refine below_set ?_ GE251.out | refine below_set ?_ GE252.out | refine below_set ?_ GE254.out) | exact HB.out)⟩⟩
       ·rw [if_neg c24] at H
        have c24b0 : decide (0 ≤ ((rd_T61 l1_4 x8_1).f1)) = false := decide_eq_false c24
        clear c24
        (first | rw [c24b0] | (simp only [i64_w, i32_w]; rw [c24b0]) | skip)
        have H' := Aside0.mk H
        clear H
        have hnb28 := NB254_251.out
        have hnc28 := NB251_254.out
        have hnb29 := NB254_252.out
        have hnc29 := NB252_254.out
        have hcz30_0 : w20.cell? ⟨gb254, 0, none⟩ = some (.int .i64 0) := (blk_cell BK254.out 0).trans rfl
        have hcz30_1 : w20.cell? ⟨gb254, 1, none⟩ = some (.int .i64 0) := (blk_cell BK254.out 1).trans rfl
        have hfz30_0 := blk_frozen BK254.out 0
        have hfz30_1 := blk_frozen BK254.out 1
        go_wp2
        go_meet
        case rel => exact ⟨_, (false), (by first | rfl | (simp; done) | (simp [*]; done)), H', ⟨by have := HK1.out; first | omega | exact Nat.le_refl _⟩, ⟨by (with_reducible repeat (first | refine blk_drewN ?_ _ | refine blk_drew ?_ | refine blk_alloc ?_ _)); refine blk_far ?_ NB251_254.out _; (with_reducible repeat (first | refine blk_drewN ?_ _ | refine blk_drew ?_ | refine blk_alloc ?_ _)); refine blk_far ?_ NB251_254.out _; (with_reducible repeat (first | refine blk_drewN ?_ _ | refine blk_drew ?_ | refine blk_alloc ?_ _)); exact BK251.out⟩, ⟨by (with_reducible repeat (first | refine blk_drewN ?_ _ | refine blk_drew ?_ | refine blk_alloc ?_ _)); refine blk_far ?_ NB252_254.out _; (with_reducible repeat (first | refine blk_drewN ?_ _ | refine blk_drew ?_ | refine blk_alloc ?_ _)); refine blk_far ?_ NB252_254.out _; (with_reducible repeat (first | refine blk_drewN ?_ _ | refine blk_drew ?_ | refine blk_alloc ?_ _)); exact BK252.out⟩, ⟨by (with_reducible repeat (first | refine blk_drewN ?_ _ | refine blk_drew ?_ | refine blk_alloc ?_ _)); refine blk_put (cs := #[.int .i64 ((rd_T61 l1_4 x8_1).f0), .int .i64 0]) ?_ 1 _ rfl; (with_reducible repeat (first | refine blk_drewN ?_ _ | refine blk_drew ?_ | refine blk_alloc ?_ _)); refine blk_put (cs := #[.int .i64 0, .int .i64 0]) ?_ 0 _ rfl; (with_reducible repeat (first | refine blk_drewN ?_ _ | refine blk_drew ?_ | refine blk_alloc ?_ _)); exact BK254.out⟩, ⟨by repeat (first | (with_reducible first | exact HB.out | apply below_alloc | apply pw_below_drewN | apply below_drew1 | refine below_set ?_ GE251.out | refine below_set ?_ GE252.out | refine below_set ?_ GE254.out) | exact HB.out)⟩⟩
      case rest =>
       clear HC17
       (try clear c1);(try clear c2);(try clear p2);(try clear q2);(try clear hx2);(try clear c3);(try clear c4);(try clear c4b0);(try clear c4b1);(try clear c4b2);(try clear c5);(try clear c5b0);(try clear c5b1);(try clear p6);(try clear c8);(try clear c13);(try clear c15);(try clear c15b0);(try clear c16);(try clear c16b0);(try clear c18);(try clear c21);(try clear c22);(try clear c24);(try clear c24b0);(try clear c25);(try clear p25);(try clear q25);(try clear hx25);(try clear c26);(try clear c28);(try clear c29);(try clear hcz10_0);(try clear hcz10_1);(try clear hcz14_0);(try clear hcz14_1);(try clear hcz14_2);(try clear hcz14_3);(try clear hcz14_4);(try clear hcz19_0);(try clear hcz19_1);(try clear hcz19_2);(try clear hcz19_3);(try clear hcz19_4);(try clear hcz23_0);(try clear hcz23_1);(try clear hcz27_0);(try clear hcz27_1);(try clear hcz30_0);(try clear hcz30_1);(try clear hcz9_0)
       (try clear hcz9_1);(try clear hcz9_2);(try clear hcz9_3);(try clear hcz9_4);(try clear hfz10_0);(try clear hfz10_1);(try clear hfz14_0);(try clear hfz14_1);(try clear hfz14_2);(try clear hfz14_3);(try clear hfz14_4);(try clear hfz19_0);(try clear hfz19_1);(try clear hfz19_2);(try clear hfz19_3);(try clear hfz19_4);(try clear hfz23_0);(try clear hfz23_1);(try clear hfz27_0);(try clear hfz27_1);(try clear hfz30_0);(try clear hfz30_1);(try clear hfz9_0);(try clear hfz9_1);(try clear hfz9_2);(try clear hfz9_3);(try clear hfz9_4);(try clear hx253_0);(try clear hx253_1);(try clear p2);(try clear p253);(try clear p6);(try clear q253)
       obtain ⟨kq, x42_16, rfl, HA, HJ16, BK251, BK252, BK254, HB⟩ := hcut
       cases kq with
       | zero => exact absurd HA.out (by simp [cutroomref18_shown.j1])
       | succ kj16 =>
        have H := HA.out
        clear HA
        simp only [cutroomref18_shown.j1] at H
        by_cases c31 : x42_16 = true
        ·subst c31
         have H1 : (if a1_1 = 0 then (none) else (if (wrap64 (Int.tdiv (wrap64 ((wrap64 (a2 - ((rd_T61 l1_4 x8_1).f1))) * a0_0)) a1_1)) < ((rd_T61 l1_4 x8_1).f0) then (some (wrap64 (x7_1 + (wrap64 (Int.tdiv (wrap64 ((wrap64 (a2 - ((rd_T61 l1_4 x8_1).f1))) * a0_0)) a1_1))))) else (cutroomref18_shown.l0 kj16 a2 (wrap64 (x7_1 + ((rd_T61 l1_4 x8_1).f0))) (wrap64 (x8_1 + 1)) a0_0 l0_1 a1_0 a1_1 l1_2 l1_3 l1_4))) = some r := by rw [if_pos rfl] at H; exact H
         clear H
         have H := H1
         clear H1
         by_cases c32 : a1_1 = 0
         ·rw [if_pos c32] at H
          exact absurd H (by simp)
         ·rw [if_neg c32] at H
          have c32b0 : (a1_1 == 0) = false := beq_eq_false_iff_ne.mpr c32
          have c32b1 : (a1_1 != 0) = true := bne_iff_ne.mpr c32
          by_cases c33 : (wrap64 (Int.tdiv (wrap64 ((wrap64 (a2 - ((rd_T61 l1_4 x8_1).f1))) * a0_0)) a1_1)) < ((rd_T61 l1_4 x8_1).f0)
          ·rw [if_pos c33] at H
           have c33b0 : decide ((wrap64 (Int.tdiv (wrap64 ((wrap64 (a2 - ((rd_T61 l1_4 x8_1).f1))) * a0_0)) a1_1)) < ((rd_T61 l1_4 x8_1).f0)) = true := decide_eq_true c33
           clear c33
           obtain rfl := Option.some.inj H
           have hnb34 := NB254_251.out
           have hnc34 := NB251_254.out
           have hnb35 := NB254_252.out
           have hnc35 := NB252_254.out
           have hcz36_0 : wc.cell? ⟨gb254, 0, none⟩ = some (.int .i64 ((rd_T61 l1_4 x8_1).f0)) := (blk_cell BK254.out 0).trans rfl
           have hcz36_1 : wc.cell? ⟨gb254, 1, none⟩ = some (.int .i64 ((rd_T61 l1_4 x8_1).f1)) := (blk_cell BK254.out 1).trans rfl
           have hfz36_0 := blk_frozen BK254.out 0
           have hfz36_1 := blk_frozen BK254.out 1
           have hnb37 := NB251_252.out
           have hnc37 := NB252_251.out
           have hcz38_0 : wc.cell? ⟨gb251, 0, none⟩ = some (.int .i64 a0_0) := (blk_cell BK251.out 0).trans rfl
           have hcz38_1 : wc.cell? ⟨gb251, 1, none⟩ = some (.slice A0_1 l0_1.length c0_1) := (blk_cell BK251.out 1).trans rfl
           have hfz38_0 := blk_frozen BK251.out 0
           have hfz38_1 := blk_frozen BK251.out 1
           have hcz39_0 : wc.cell? ⟨gb252, 0, none⟩ = some (.string a1_0) := (blk_cell BK252.out 0).trans rfl
           have hcz39_1 : wc.cell? ⟨gb252, 1, none⟩ = some (.int .i64 a1_1) := (blk_cell BK252.out 1).trans rfl
           have hcz39_2 : wc.cell? ⟨gb252, 2, none⟩ = some (.slice A1_2 l1_2.length c1_2) := (blk_cell BK252.out 2).trans rfl
           have hcz39_3 : wc.cell? ⟨gb252, 3, none⟩ = some (.slice A1_3 l1_3.length c1_3) := (blk_cell BK252.out 3).trans rfl
           have hcz39_4 : wc.cell? ⟨gb252, 4, none⟩ = some (.slice (some ad253) l1_4.length c1_4) := (blk_cell BK252.out 4).trans rfl
           have hfz39_0 := blk_frozen BK252.out 0
           have hfz39_1 := blk_frozen BK252.out 1
           have hfz39_2 := blk_frozen BK252.out 2
           have hfz39_3 := blk_frozen BK252.out 3
           have hfz39_4 := blk_frozen BK252.out 4
           go_wp2
           go_ret
           exact ⟨by first | rfl | (simp [errW_none, errW_some] <;> rfl) | (simp [*, errW_none, errW_some] <;> rfl), by repeat (first | (with_reducible first | exact HB.out | apply below_alloc | apply pw_below_drewN | apply below_drew1 | refine below_set ?_ GE251.out | refine below_set ?_ GE252.out | refine below_set ?_ GE254.out) | exact HB.out)⟩
          ·rw [if_neg c33] at H
           have c33b0 : decide ((wrap64 (Int.tdiv (wrap64 ((wrap64 (a2 - ((rd_T61 l1_4 x8_1).f1))) * a0_0)) a1_1)) < ((rd_T61 l1_4 x8_1).f0)) = false := decide_eq_false c33
           clear c33
           have H' := Aside0.mk H
           clear H
           have hnb40 := NB254_251.out
           have hnc40 := NB251_254.out
           have hnb41 := NB254_252.out
           have hnc41 := NB252_254.out
           have hcz42_0 : wc.cell? ⟨gb254, 0, none⟩ = some (.int .i64 ((rd_T61 l1_4 x8_1).f0)) := (blk_cell BK254.out 0).trans rfl
           have hcz42_1 : wc.cell? ⟨gb254, 1, none⟩ = some (.int .i64 ((rd_T61 l1_4 x8_1).f1)) := (blk_cell BK254.out 1).trans rfl
           have hfz42_0 := blk_frozen BK254.out 0
           have hfz42_1 := blk_frozen BK254.out 1
           have hnb43 := NB251_252.out
           have hnc43 := NB252_251.out
           have hcz44_0 : wc.cell? ⟨gb251, 0, none⟩ = some (.int .i64 a0_0) := (blk_cell BK251.out 0).trans rfl
           have hcz44_1 : wc.cell? ⟨gb251, 1, none⟩ = some (.slice A0_1 l0_1.length c0_1) := (blk_cell BK251.out 1).trans rfl
           have hfz44_0 := blk_frozen BK251.out 0
           have hfz44_1 := blk_frozen BK251.out 1
           have hcz45_0 : wc.cell? ⟨gb252, 0, none⟩ = some (.string a1_0) := (blk_cell BK252.out 0).trans rfl
           have hcz45_1 : wc.cell? ⟨gb252, 1, none⟩ = some (.int .i64 a1_1) := (blk_cell BK252.out 1).trans rfl
           have hcz45_2 : wc.cell? ⟨gb252, 2, none⟩ = some (.slice A1_2 l1_2.length c1_2) := (blk_cell BK252.out 2).trans rfl
           have hcz45_3 : wc.cell? ⟨gb252, 3, none⟩ = some (.slice A1_3 l1_3.length c1_3) := (blk_cell BK252.out 3).trans rfl
           have hcz45_4 : wc.cell? ⟨gb252, 4, none⟩ = some (.slice (some ad253) l1_4.length c1_4) := (blk_cell BK252.out 4).trans rfl
           have hfz45_0 := blk_frozen BK252.out 0
           have hfz45_1 := blk_frozen BK252.out 1
           have hfz45_2 := blk_frozen BK252.out 2
           have hfz45_3 := blk_frozen BK252.out 3
           have hfz45_4 := blk_frozen BK252.out 4
           go_wp2
           go_roundg kj16
           case measure => have := HK1.out; have := HJ16.out; omega
           case rel => exact ⟨(wrap64 (x7_1 + ((rd_T61 l1_4 x8_1).f0))), (wrap64 (x8_1 + 1)), (by first | rfl | (simp; done) | (simp [*]; done)), (by first | rfl | (simp; done) | (simp [*]; done)), H', ⟨by have := HK1.out; have := HJ16.out; omega⟩, ⟨by (with_reducible repeat (first | refine blk_drewN ?_ _ | refine blk_drew ?_ | refine blk_alloc ?_ _)); exact BK251.out⟩, ⟨by (with_reducible repeat (first | refine blk_drewN ?_ _ | refine blk_drew ?_ | refine blk_alloc ?_ _)); exact BK252.out⟩, ⟨by repeat (first | (with_reducible first | exact HB.out | apply below_alloc | apply pw_below_drewN | apply below_drew1 | refine below_set ?_ GE251.out | refine below_set ?_ GE252.out | refine below_set ?_ GE254.out) | exact HB.out)⟩⟩
        ·replace c31 := Bool.eq_false_iff.mpr c31
         subst c31
         have H1 : (cutroomref18_shown.l0 kj16 a2 (wrap64 (x7_1 + ((rd_T61 l1_4 x8_1).f0))) (wrap64 (x8_1 + 1)) a0_0 l0_1 a1_0 a1_1 l1_2 l1_3 l1_4) = some r := by rw [if_neg (show ¬ (false = true) by decide)] at H; exact H
         clear H
         have H := H1
         clear H1
         have H' := Aside0.mk H
         clear H
         have hnb46 := NB254_251.out
         have hnc46 := NB251_254.out
         have hnb47 := NB254_252.out
         have hnc47 := NB252_254.out
         have hcz48_0 : wc.cell? ⟨gb254, 0, none⟩ = some (.int .i64 ((rd_T61 l1_4 x8_1).f0)) := (blk_cell BK254.out 0).trans rfl
         have hcz48_1 : wc.cell? ⟨gb254, 1, none⟩ = some (.int .i64 ((rd_T61 l1_4 x8_1).f1)) := (blk_cell BK254.out 1).trans rfl
         have hfz48_0 := blk_frozen BK254.out 0
         have hfz48_1 := blk_frozen BK254.out 1
         go_wp2
         go_roundg kj16
         case measure => have := HK1.out; have := HJ16.out; omega
         case rel => exact ⟨(wrap64 (x7_1 + ((rd_T61 l1_4 x8_1).f0))), (wrap64 (x8_1 + 1)), (by first | rfl | (simp; done) | (simp [*]; done)), (by first | rfl | (simp; done) | (simp [*]; done)), H', ⟨by have := HK1.out; have := HJ16.out; omega⟩, ⟨by (with_reducible repeat (first | refine blk_drewN ?_ _ | refine blk_drew ?_ | refine blk_alloc ?_ _)); exact BK251.out⟩, ⟨by (with_reducible repeat (first | refine blk_drewN ?_ _ | refine blk_drew ?_ | refine blk_alloc ?_ _)); exact BK252.out⟩, ⟨by repeat (first | (with_reducible first | exact HB.out | apply below_alloc | apply pw_below_drewN | apply below_drew1 | refine below_set ?_ GE251.out | refine below_set ?_ GE252.out | refine below_set ?_ GE254.out) | exact HB.out)⟩⟩
     ·rw [if_neg c16] at H
      exact absurd H (by simp)
    ·rw [if_neg c15] at H
     have c15b0 : decide (x8_1 < (l1_4.length : Int)) = false := decide_eq_false c15
     clear c15
     obtain rfl := Option.some.inj H
     have hnb49 := NB252_251.out
     have hnc49 := NB251_252.out
     have hcz50_0 : wr.cell? ⟨gb252, 0, none⟩ = some (.string a1_0) := (blk_cell BK252.out 0).trans rfl
     have hcz50_1 : wr.cell? ⟨gb252, 1, none⟩ = some (.int .i64 a1_1) := (blk_cell BK252.out 1).trans rfl
     have hcz50_2 : wr.cell? ⟨gb252, 2, none⟩ = some (.slice A1_2 l1_2.length c1_2) := (blk_cell BK252.out 2).trans rfl
     have hcz50_3 : wr.cell? ⟨gb252, 3, none⟩ = some (.slice A1_3 l1_3.length c1_3) := (blk_cell BK252.out 3).trans rfl
     have hcz50_4 : wr.cell? ⟨gb252, 4, none⟩ = some (.slice A1_4 l1_4.length c1_4) := (blk_cell BK252.out 4).trans rfl
     have hfz50_0 := blk_frozen BK252.out 0
     have hfz50_1 := blk_frozen BK252.out 1
     have hfz50_2 := blk_frozen BK252.out 2
     have hfz50_3 := blk_frozen BK252.out 3
     have hfz50_4 := blk_frozen BK252.out 4
     go_wp2
     go_ret
     exact ⟨by first | rfl | (simp [errW_none, errW_some] <;> rfl) | (simp [*, errW_none, errW_some] <;> rfl), by repeat (first | (with_reducible first | exact HB.out | apply below_alloc | apply pw_below_drewN | apply below_drew1 | refine below_set ?_ GE251.out | refine below_set ?_ GE252.out) | exact HB.out)⟩

end Go.Proofs.Ytbpmkcgpgdbbkaa.P
