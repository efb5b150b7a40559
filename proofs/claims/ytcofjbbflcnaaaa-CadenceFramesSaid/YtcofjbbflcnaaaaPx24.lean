-- Written by this session's own program (wip/tools/myprint.py), which runs the kit's print with turns of its own: not a text of the kit's print.sh.
import Derived.Test.YtcofjbbflcnaaaaPx0
import Derived.Test.YtcofjbbflcnaaaaPx21
import Derived.Test.YtcofjbbflcnaaaaPx51
namespace Go.Proofs.Ytcofjbbflcnaaaa.P
open Go.RowKit Go.Proofs.YtcofjbbflcnaaaaW.PrintWords Go.Proofs.YtcofjbbflcnaaaaW.PrintLast Go.Proofs.YtcofjbbflcnaaaaW.PrintMore
attribute [local go_sem] max2_int min2_int max_two min_two max_three min_three max_four min_four   -- for this text's walks alone
set_option linter.unusedVariables false
set_option linter.unusedSimpArgs false

/-! ### cutroomref20_Frame: function 23 -/
mutual
def cutroomref20_Frame.j0 : Nat → Int → Bool → Int → Int → Int → Int → Option (Int × Int)
  | 0, _, _, _, _, _, _ => none
  | k + 1, x0, x21, x187000, x187001, x188000, x188001 => if x21 = true then (some (0, 1)) else ((cutroomref20_InRange.f x0).bind fun t190 => (if t190 = true then (if (wrap64 (x188001 * x187000)) = 0 then (none) else ((cutroomref20_Split.f k (mx x0 (wrap64 (-x0))) (Int.tmod (wrap64 (x188000 * x187001)) (wrap64 (x188001 * x187000))) (wrap64 (x188001 * x187000))).bind fun bt191 => (if (wrap64 (Int.tdiv (wrap64 (x188000 * x187001)) (wrap64 (x188001 * x187000)))) > 0 then (if (wrap64 (Int.tdiv (wrap64 (x188000 * x187001)) (wrap64 (x188001 * x187000)))) = 0 then (none) else (if (mx x0 (wrap64 (-x0))) > (wrap64 ((9223372036854775807 : Int) / (wrap64 (Int.tdiv (wrap64 (x188000 * x187001)) (wrap64 (x188001 * x187000)))))) then (cutroomref20_Frame.j1 k x0 (mx x0 (wrap64 (-x0))) (wrap64 (Int.tdiv (wrap64 (x188000 * x187001)) (wrap64 (x188001 * x187000)))) bt191.1 bt191.2 true) else (cutroomref20_Frame.j1 k x0 (mx x0 (wrap64 (-x0))) (wrap64 (Int.tdiv (wrap64 (x188000 * x187001)) (wrap64 (x188001 * x187000)))) bt191.1 bt191.2 (decide ((wrap64 ((mx x0 (wrap64 (-x0))) * (wrap64 (Int.tdiv (wrap64 (x188000 * x187001)) (wrap64 (x188001 * x187000)))))) > (wrap64 (9223372036854775807 - bt191.1))))))) else (cutroomref20_Frame.j1 k x0 (mx x0 (wrap64 (-x0))) (wrap64 (Int.tdiv (wrap64 (x188000 * x187001)) (wrap64 (x188001 * x187000)))) bt191.1 bt191.2 (decide ((wrap64 ((mx x0 (wrap64 (-x0))) * (wrap64 (Int.tdiv (wrap64 (x188000 * x187001)) (wrap64 (x188001 * x187000)))))) > (wrap64 (9223372036854775807 - bt191.1)))))))) else (some (0, 2))))
def cutroomref20_Frame.j1 : Nat → Int → Int → Int → Int → Int → Bool → Option (Int × Int)
  | 0, _, _, _, _, _, _ => none
  | k + 1, x0, x10, x11, x12, x13, x66 => if x66 = true then (some (0, 2)) else (if x0 < 0 then (cutroomref20_Frame.j2 k x0 (wrap64 (x12 + (wrap64 (x10 * x11)))) (decide (x13 > 0))) else (cutroomref20_Frame.j2 k x0 (wrap64 (x12 + (wrap64 (x10 * x11)))) false))
def cutroomref20_Frame.j2 : Nat → Int → Int → Bool → Option (Int × Int)
  | 0, _, _, _ => none
  | k + 1, x0, x12, x77 => if x77 = true then (if x12 = 9223372036854775807 then (some (0, 2)) else (if x0 < 0 then (some (wrap64 (-(wrap64 (x12 + 1))), 0)) else (some (wrap64 (x12 + 1), 0)))) else (if x0 < 0 then (some (wrap64 (-x12), 0)) else (some (x12, 0)))
end
def cutroomref20_Frame.f (k : Nat) (a0 : Int) (a1_0 : Int) (a1_1 : Int) (a2_0 : Int) (a2_1 : Int) : Option (Int × Int) := (cutroomref20_Usable.f k a1_0 a1_1).bind fun t188 => (if t188 = true then ((cutroomref20_Usable.f k a2_0 a2_1).bind fun t189 => (cutroomref20_Frame.j0 k a0 (!t189) a1_0 a1_1 a2_0 a2_1)) else (cutroomref20_Frame.j0 k a0 true a1_0 a1_1 a2_0 a2_1))
theorem cutroomref20_Frame.mono_l : ∀ k, (∀ y0 y1 y2 y3 y4 y5, LeO (cutroomref20_Frame.j0 k y0 y1 y2 y3 y4 y5) (cutroomref20_Frame.j0 (k + 1) y0 y1 y2 y3 y4 y5)) ∧ (∀ y0 y1 y2 y3 y4 y5, LeO (cutroomref20_Frame.j1 k y0 y1 y2 y3 y4 y5) (cutroomref20_Frame.j1 (k + 1) y0 y1 y2 y3 y4 y5)) ∧ (∀ y0 y1 y2, LeO (cutroomref20_Frame.j2 k y0 y1 y2) (cutroomref20_Frame.j2 (k + 1) y0 y1 y2))
  | 0 => ⟨fun _ _ _ _ _ _ r h => by simp [cutroomref20_Frame.j0] at h, fun _ _ _ _ _ _ r h => by simp [cutroomref20_Frame.j1] at h, fun _ _ _ r h => by simp [cutroomref20_Frame.j2] at h⟩
  | k + 1 => by
    obtain ⟨ih0, ih1, ih2⟩ := cutroomref20_Frame.mono_l k
    refine ⟨?_, ?_, ?_⟩
    · intro y0 y1 y2 y3 y4 y5
      unfold cutroomref20_Frame.j0
      repeat' first
      | (with_reducible exact ih0 _ _ _ _ _ _)
      | (with_reducible exact ih1 _ _ _ _ _ _)
      | (with_reducible exact ih2 _ _ _)
      | (with_reducible exact cutroomref20_Split.mono _ _ _ _)
      | (with_reducible exact cutroomref20_Usable.mono _ _ _)
      | (with_reducible exact LeO.refl _)
      | (with_reducible exact LeO.none _)
      | (with_reducible refine LeO.ite ?_ ?_)
      | (with_reducible refine LeO.bind ?_ (fun _ => ?_))
      | exact ih0 _ _ _ _ _ _
      | exact ih1 _ _ _ _ _ _
      | exact ih2 _ _ _
      | exact cutroomref20_Split.mono _ _ _ _
      | exact cutroomref20_Usable.mono _ _ _
      | exact LeO.none _
      | refine LeO.ite ?_ ?_
      | refine LeO.bind ?_ (fun _ => ?_)
    · intro y0 y1 y2 y3 y4 y5
      unfold cutroomref20_Frame.j1
      repeat' first
      | (with_reducible exact ih0 _ _ _ _ _ _)
      | (with_reducible exact ih1 _ _ _ _ _ _)
      | (with_reducible exact ih2 _ _ _)
      | (with_reducible exact cutroomref20_Split.mono _ _ _ _)
      | (with_reducible exact cutroomref20_Usable.mono _ _ _)
      | (with_reducible exact LeO.refl _)
      | (with_reducible exact LeO.none _)
      | (with_reducible refine LeO.ite ?_ ?_)
      | (with_reducible refine LeO.bind ?_ (fun _ => ?_))
      | exact ih0 _ _ _ _ _ _
      | exact ih1 _ _ _ _ _ _
      | exact ih2 _ _ _
      | exact cutroomref20_Split.mono _ _ _ _
      | exact cutroomref20_Usable.mono _ _ _
      | exact LeO.none _
      | refine LeO.ite ?_ ?_
      | refine LeO.bind ?_ (fun _ => ?_)
    · intro y0 y1 y2
      unfold cutroomref20_Frame.j2
      repeat' first
      | (with_reducible exact ih0 _ _ _ _ _ _)
      | (with_reducible exact ih1 _ _ _ _ _ _)
      | (with_reducible exact ih2 _ _ _)
      | (with_reducible exact cutroomref20_Split.mono _ _ _ _)
      | (with_reducible exact cutroomref20_Usable.mono _ _ _)
      | (with_reducible exact LeO.refl _)
      | (with_reducible exact LeO.none _)
      | (with_reducible refine LeO.ite ?_ ?_)
      | (with_reducible refine LeO.bind ?_ (fun _ => ?_))
      | exact ih0 _ _ _ _ _ _
      | exact ih1 _ _ _ _ _ _
      | exact ih2 _ _ _
      | exact cutroomref20_Split.mono _ _ _ _
      | exact cutroomref20_Usable.mono _ _ _
      | exact LeO.none _
      | refine LeO.ite ?_ ?_
      | refine LeO.bind ?_ (fun _ => ?_)
theorem cutroomref20_Frame.mono : ∀ a0 a1 a2 a3 a4 k, LeO (cutroomref20_Frame.f k a0 a1 a2 a3 a4) (cutroomref20_Frame.f (k + 1) a0 a1 a2 a3 a4) := by
  intro a0 a1 a2 a3 a4 k
  obtain ⟨ih0, ih1, ih2⟩ := cutroomref20_Frame.mono_l k
  unfold cutroomref20_Frame.f
  repeat' first
      | (with_reducible exact ih0 _ _ _ _ _ _)
      | (with_reducible exact ih1 _ _ _ _ _ _)
      | (with_reducible exact ih2 _ _ _)
      | (with_reducible exact cutroomref20_Split.mono _ _ _ _)
      | (with_reducible exact cutroomref20_Usable.mono _ _ _)
      | (with_reducible exact LeO.refl _)
      | (with_reducible exact LeO.none _)
      | (with_reducible refine LeO.ite ?_ ?_)
      | (with_reducible refine LeO.bind ?_ (fun _ => ?_))
      | exact ih0 _ _ _ _ _ _
      | exact ih1 _ _ _ _ _ _
      | exact ih2 _ _ _
      | exact cutroomref20_Split.mono _ _ _ _
      | exact cutroomref20_Usable.mono _ _ _
      | exact LeO.none _
      | refine LeO.ite ?_ ?_
      | refine LeO.bind ?_ (fun _ => ?_)
set_option maxHeartbeats 8000000 in
set_option maxRecDepth 100000 in
theorem cutroomref20_Frame.calls (k : Nat) (a0 : Int) (a1_0 : Int) (a1_1 : Int) (a2_0 : Int) (a2_1 : Int) (r1 : Int) (r2 : Int) (w : World) (h : cutroomref20_Frame.f k a0 a1_0 a1_1 a2_0 a2_1 = some (r1, r2)) :
    Calls Try.prog 23 #[.int .i64 a0, .agg #[.int .i64 a1_0, .int .i64 a1_1], .agg #[.int .i64 a2_0, .int .i64 a2_1]] w fun e w' => e = .returned (.tuple #[.int .i64 r1, .int .i64 r2]) ∧ Below w.heap.size w w' := by
  have hu23 := Try.underlying23
  have HB := Aside0.mk (Below.refl w.heap.size w)
  have H : ((cutroomref20_Usable.f k a1_0 a1_1).bind fun t188 => (if t188 = true then ((cutroomref20_Usable.f k a2_0 a2_1).bind fun t189 => (cutroomref20_Frame.j0 k a0 (!t189) a1_0 a1_1 a2_0 a2_1)) else (cutroomref20_Frame.j0 k a0 true a1_0 a1_1 a2_0 a2_1))) = some (r1, r2) := h
  clear h
  have HC4 := Aside0.mk H
  clear H
  go_enter Try.func23, Try.ntmps23
  go_upto_region 1 with (first | ((with_reducible refine gate_dst (N := 4) rfl ?_); refine box_event ?hg (N := 4) ?hd (cs := #[.int .i64 a1_0, .int .i64 a1_1]) (t := 23) ?hr ?_; (case hd => rfl); (case hg => rfl); (case hr => first | (go_simp; done) | (go_simp; rfl)); intro gb186 hg w5 hbox hb; have n0_ := Aside0.mk (below_step (by repeat (first | (with_reducible first | exact HB.out | apply below_alloc | apply pw_below_drewN | apply below_drew1) | exact HB.out)) hb); have n1_ := Aside0.mk (hbox); have n2_ := Aside0.mk ((by rw [hg]; exact (below_size (by repeat (first | (with_reducible first | exact HB.out | apply below_alloc | apply pw_below_drewN | apply below_drew1) | exact HB.out))) : w.heap.size ≤ gb186)); have n3_ := Aside0.mk ((by rw [hg]; exact (below_size (by repeat (first | (with_reducible first | exact HB.out | apply below_alloc | apply pw_below_drewN | apply below_drew1) | exact HB.out))) : w.heap.size ≤ gb186)); clear HB; have HB := n0_; have BK186 := n1_; have GW186 := n2_; have GE186 := n3_; clear n0_ n1_ n2_ n3_; clear hb hbox hg) | ((with_reducible refine gate_dst (N := 5) rfl ?_); refine box_event ?hg (N := 5) ?hd (cs := #[.int .i64 a2_0, .int .i64 a2_1]) (t := 23) ?hr ?_; (case hd => rfl); (case hg => rfl); (case hr => first | (go_simp; done) | (go_simp; rfl)); intro gb187 hg w6 hbox hb; have n0_ := Aside0.mk (blk_below (g := gb186) (o := .cells #[.int .i64 a1_0, .int .i64 a1_1] 23 (0, 0)) (by (with_reducible repeat (first | refine blk_drewN ?_ _ | refine blk_drew ?_ | refine blk_alloc ?_ _)); exact BK186.out) hb); have n1_ := Aside0.mk (below_step (by repeat (first | (with_reducible first | exact HB.out | apply below_alloc | apply pw_below_drewN | apply below_drew1 | refine below_set ?_ GE186.out) | exact HB.out)) hb); have n2_ := Aside0.mk (hbox); have n3_ := Aside0.mk ((by rw [hg]; exact (below_size (by repeat (first | (with_reducible first | exact HB.out | apply below_alloc | apply pw_below_drewN | apply below_drew1 | refine below_set ?_ GE186.out) | exact HB.out))) : w.heap.size ≤ gb187)); have n4_ := Aside0.mk ((by rw [hg]; exact (below_size (by repeat (first | (with_reducible first | exact HB.out | apply below_alloc | apply pw_below_drewN | apply below_drew1 | refine below_set ?_ GE186.out) | exact HB.out))) : w.heap.size ≤ gb187)); have n5_ := Aside0.mk ((by rw [hg]; exact Nat.ne_of_lt (blk_lt (g := gb186) (o := .cells #[.int .i64 a1_0, .int .i64 a1_1] 23 (0, 0)) (by (with_reducible repeat (first | refine blk_drewN ?_ _ | refine blk_drew ?_ | refine blk_alloc ?_ _)); exact BK186.out)) : gb186 ≠ gb187)); have n6_ := Aside0.mk ((by rw [hg]; exact Nat.ne_of_gt (blk_lt (g := gb186) (o := .cells #[.int .i64 a1_0, .int .i64 a1_1] 23 (0, 0)) (by (with_reducible repeat (first | refine blk_drewN ?_ _ | refine blk_drew ?_ | refine blk_alloc ?_ _)); exact BK186.out)) : gb187 ≠ gb186)); clear BK186; clear HB; have BK186 := n0_; have HB := n1_; have BK187 := n2_; have GW187 := n3_; have GE187 := n4_; have NB186_187 := n5_; have NB187_186 := n6_; clear n0_ n1_ n2_ n3_ n4_ n5_ n6_; clear hb hbox hg))
  repeat (go_quiet (first | ((with_reducible refine gate_dst (N := 4) rfl ?_); refine box_event ?hg (N := 4) ?hd (cs := #[.int .i64 a1_0, .int .i64 a1_1]) (t := 23) ?hr ?_; (case hd => rfl); (case hg => rfl); (case hr => first | (go_simp; done) | (go_simp; rfl)); intro gb186 hg w5 hbox hb; have n0_ := Aside0.mk (below_step (by repeat (first | (with_reducible first | exact HB.out | apply below_alloc | apply pw_below_drewN | apply below_drew1) | exact HB.out)) hb); have n1_ := Aside0.mk (hbox); have n2_ := Aside0.mk ((by rw [hg]; exact (below_size (by repeat (first | (with_reducible first | exact HB.out | apply below_alloc | apply pw_below_drewN | apply below_drew1) | exact HB.out))) : w.heap.size ≤ gb186)); have n3_ := Aside0.mk ((by rw [hg]; exact (below_size (by repeat (first | (with_reducible first | exact HB.out | apply below_alloc | apply pw_below_drewN | apply below_drew1) | exact HB.out))) : w.heap.size ≤ gb186)); clear HB; have HB := n0_; have BK186 := n1_; have GW186 := n2_; have GE186 := n3_; clear n0_ n1_ n2_ n3_; clear hb hbox hg) | ((with_reducible refine gate_dst (N := 5) rfl ?_); refine box_event ?hg (N := 5) ?hd (cs := #[.int .i64 a2_0, .int .i64 a2_1]) (t := 23) ?hr ?_; (case hd => rfl); (case hg => rfl); (case hr => first | (go_simp; done) | (go_simp; rfl)); intro gb187 hg w6 hbox hb; have n0_ := Aside0.mk (blk_below (g := gb186) (o := .cells #[.int .i64 a1_0, .int .i64 a1_1] 23 (0, 0)) (by (with_reducible repeat (first | refine blk_drewN ?_ _ | refine blk_drew ?_ | refine blk_alloc ?_ _)); exact BK186.out) hb); have n1_ := Aside0.mk (below_step (by repeat (first | (with_reducible first | exact HB.out | apply below_alloc | apply pw_below_drewN | apply below_drew1 | refine below_set ?_ GE186.out) | exact HB.out)) hb); have n2_ := Aside0.mk (hbox); have n3_ := Aside0.mk ((by rw [hg]; exact (below_size (by repeat (first | (with_reducible first | exact HB.out | apply below_alloc | apply pw_below_drewN | apply below_drew1 | refine below_set ?_ GE186.out) | exact HB.out))) : w.heap.size ≤ gb187)); have n4_ := Aside0.mk ((by rw [hg]; exact (below_size (by repeat (first | (with_reducible first | exact HB.out | apply below_alloc | apply pw_below_drewN | apply below_drew1 | refine below_set ?_ GE186.out) | exact HB.out))) : w.heap.size ≤ gb187)); have n5_ := Aside0.mk ((by rw [hg]; exact Nat.ne_of_lt (blk_lt (g := gb186) (o := .cells #[.int .i64 a1_0, .int .i64 a1_1] 23 (0, 0)) (by (with_reducible repeat (first | refine blk_drewN ?_ _ | refine blk_drew ?_ | refine blk_alloc ?_ _)); exact BK186.out)) : gb186 ≠ gb187)); have n6_ := Aside0.mk ((by rw [hg]; exact Nat.ne_of_gt (blk_lt (g := gb186) (o := .cells #[.int .i64 a1_0, .int .i64 a1_1] 23 (0, 0)) (by (with_reducible repeat (first | refine blk_drewN ?_ _ | refine blk_drew ?_ | refine blk_alloc ?_ _)); exact BK186.out)) : gb187 ≠ gb186)); clear BK186; clear HB; have BK186 := n0_; have HB := n1_; have BK187 := n2_; have GW187 := n3_; have GE187 := n4_; have NB186_187 := n5_; have NB187_186 := n6_; clear n0_ n1_ n2_ n3_ n4_ n5_ n6_; clear hb hbox hg)); go_upto_region 1 with (first | ((with_reducible refine gate_dst (N := 4) rfl ?_); refine box_event ?hg (N := 4) ?hd (cs := #[.int .i64 a1_0, .int .i64 a1_1]) (t := 23) ?hr ?_; (case hd => rfl); (case hg => rfl); (case hr => first | (go_simp; done) | (go_simp; rfl)); intro gb186 hg w5 hbox hb; have n0_ := Aside0.mk (below_step (by repeat (first | (with_reducible first | exact HB.out | apply below_alloc | apply pw_below_drewN | apply below_drew1) | exact HB.out)) hb); have n1_ := Aside0.mk (hbox); have n2_ := Aside0.mk ((by rw [hg]; exact (below_size (by repeat (first | (with_reducible first | exact HB.out | apply below_alloc | apply pw_below_drewN | apply below_drew1) | exact HB.out))) : w.heap.size ≤ gb186)); have n3_ := Aside0.mk ((by rw [hg]; exact (below_size (by repeat (first | (with_reducible first | exact HB.out | apply below_alloc | apply pw_below_drewN | apply below_drew1) | exact HB.out))) : w.heap.size ≤ gb186)); clear HB; have HB := n0_; have BK186 := n1_; have GW186 := n2_; have GE186 := n3_; clear n0_ n1_ n2_ n3_; clear hb hbox hg) | ((with_reducible refine gate_dst (N := 5) rfl ?_); refine box_event ?hg (N := 5) ?hd (cs := #[.int .i64 a2_0, .int .i64 a2_1]) (t := 23) ?hr ?_; (case hd => rfl); (case hg => rfl); (case hr => first | (go_simp; done) | (go_simp; rfl)); intro gb187 hg w6 hbox hb; have n0_ := Aside0.mk (blk_below (g := gb186) (o := .cells #[.int .i64 a1_0, .int .i64 a1_1] 23 (0, 0)) (by (with_reducible repeat (first | refine blk_drewN ?_ _ | refine blk_drew ?_ | refine blk_alloc ?_ _)); exact BK186.out) hb); have n1_ := Aside0.mk (below_step (by repeat (first | (with_reducible first | exact HB.out | apply below_alloc | apply pw_below_drewN | apply below_drew1 | refine below_set ?_ GE186.out) | exact HB.out)) hb); have n2_ := Aside0.mk (hbox); have n3_ := Aside0.mk ((by rw [hg]; exact (below_size (by repeat (first | (with_reducible first | exact HB.out | apply below_alloc | apply pw_below_drewN | apply below_drew1 | refine below_set ?_ GE186.out) | exact HB.out))) : w.heap.size ≤ gb187)); have n4_ := Aside0.mk ((by rw [hg]; exact (below_size (by repeat (first | (with_reducible first | exact HB.out | apply below_alloc | apply pw_below_drewN | apply below_drew1 | refine below_set ?_ GE186.out) | exact HB.out))) : w.heap.size ≤ gb187)); have n5_ := Aside0.mk ((by rw [hg]; exact Nat.ne_of_lt (blk_lt (g := gb186) (o := .cells #[.int .i64 a1_0, .int .i64 a1_1] 23 (0, 0)) (by (with_reducible repeat (first | refine blk_drewN ?_ _ | refine blk_drew ?_ | refine blk_alloc ?_ _)); exact BK186.out)) : gb186 ≠ gb187)); have n6_ := Aside0.mk ((by rw [hg]; exact Nat.ne_of_gt (blk_lt (g := gb186) (o := .cells #[.int .i64 a1_0, .int .i64 a1_1] 23 (0, 0)) (by (with_reducible repeat (first | refine blk_drewN ?_ _ | refine blk_drew ?_ | refine blk_alloc ?_ _)); exact BK186.out)) : gb187 ≠ gb186)); clear BK186; clear HB; have BK186 := n0_; have HB := n1_; have BK187 := n2_; have GW187 := n3_; have GE187 := n4_; have NB186_187 := n5_; have NB187_186 := n6_; clear n0_ n1_ n2_ n3_ n4_ n5_ n6_; clear hb hbox hg)))
  (try simp only [Act.put, List.setIfInBounds_toArray, List.set_cons_zero, List.set_cons_succ])
  go_cut [21] (fun v21 wc => ∃ (kq : Nat) (x21_3 : Bool), v21 = .bool x21_3 ∧ Aside0 (cutroomref20_Frame.j0 kq a0 x21_3 a1_0 a1_1 a2_0 a2_1 = some (r1, r2)) ∧ Aside0 (kq ≤ k) ∧ Aside0 (wc.heap[gb186]? = some (.cells #[.int .i64 a1_0, .int .i64 a1_1] 23 (0, 0))) ∧ Aside0 (wc.heap[gb187]? = some (.cells #[.int .i64 a2_0, .int .i64 a2_1] 23 (0, 0))) ∧ Aside0 (Below w.heap.size w wc))
  case first =>
    have H := HC4.out
    clear HC4
    replace H := Option.bind_eq_some_iff.mp H
    obtain ⟨t188, A70, H⟩ := H
    replace H : (if t188 = true then ((cutroomref20_Usable.f k a2_0 a2_1).bind fun t189 => (cutroomref20_Frame.j0 k a0 (!t189) a1_0 a1_1 a2_0 a2_1)) else (cutroomref20_Frame.j0 k a0 true a1_0 a1_1 a2_0 a2_1)) = some (r1, r2) := H
    have A7 := Aside0.mk A70
    clear A70
    by_cases c8 : t188 = true
    · subst c8
      have H1 : ((cutroomref20_Usable.f k a2_0 a2_1).bind fun t189 => (cutroomref20_Frame.j0 k a0 (!t189) a1_0 a1_1 a2_0 a2_1)) = some (r1, r2) := by rw [if_pos rfl] at H; exact H
      clear H
      have H := H1
      clear H1
      replace H := Option.bind_eq_some_iff.mp H
      obtain ⟨t189, A90, H⟩ := H
      replace H : (cutroomref20_Frame.j0 k a0 (!t189) a1_0 a1_1 a2_0 a2_1) = some (r1, r2) := H
      have A9 := Aside0.mk A90
      clear A90
      have H' := Aside0.mk H
      clear H
      have hnb10 := NB186_187.out
      have hnc10 := NB187_186.out
      have hcz11_0 : w6.cell? ⟨gb186, 0, none⟩ = some (.int .i64 a1_0) := (blk_cell BK186.out 0).trans rfl
      have hcz11_1 : w6.cell? ⟨gb186, 1, none⟩ = some (.int .i64 a1_1) := (blk_cell BK186.out 1).trans rfl
      have hfz11_0 := blk_frozen BK186.out 0
      have hfz11_1 := blk_frozen BK186.out 1
      go_wp2_with (first | (go_at_call 20; (with_reducible refine (cutroomref20_Usable.calls k a1_0 a1_1 true _ A7.out).mono ?_); rintro e w12 ⟨rfl, hb⟩; have n0_ := Aside0.mk (blk_below (g := gb186) (o := .cells #[.int .i64 a1_0, .int .i64 a1_1] 23 (0, 0)) (by (with_reducible repeat (first | refine blk_drewN ?_ _ | refine blk_drew ?_ | refine blk_alloc ?_ _)); exact BK186.out) hb); have n1_ := Aside0.mk (blk_below (g := gb187) (o := .cells #[.int .i64 a2_0, .int .i64 a2_1] 23 (0, 0)) (by (with_reducible repeat (first | refine blk_drewN ?_ _ | refine blk_drew ?_ | refine blk_alloc ?_ _)); exact BK187.out) hb); have n2_ := Aside0.mk (below_step (by repeat (first | (with_reducible first | exact HB.out | apply below_alloc | apply pw_below_drewN | apply below_drew1 | refine below_set ?_ GE186.out | refine below_set ?_ GE187.out) | exact HB.out)) hb); clear BK186; clear BK187; clear HB; have BK186 := n0_; have BK187 := n1_; have HB := n2_; clear n0_ n1_ n2_; (try clear hb); (try clear hb2); (try clear hk); (try clear hi); have hcz13_0 : w12.cell? ⟨gb187, 0, none⟩ = some (.int .i64 a2_0) := (blk_cell BK187.out 0).trans rfl; have hcz13_1 : w12.cell? ⟨gb187, 1, none⟩ = some (.int .i64 a2_1) := (blk_cell BK187.out 1).trans rfl; have hfz13_0 := blk_frozen BK187.out 0; have hfz13_1 := blk_frozen BK187.out 1) | (go_at_call 20; (with_reducible refine (cutroomref20_Usable.calls k a2_0 a2_1 t189 _ A9.out).mono ?_); rintro e w14 ⟨rfl, hb⟩; have n0_ := Aside0.mk (blk_below (g := gb186) (o := .cells #[.int .i64 a1_0, .int .i64 a1_1] 23 (0, 0)) (by (with_reducible repeat (first | refine blk_drewN ?_ _ | refine blk_drew ?_ | refine blk_alloc ?_ _)); exact BK186.out) hb); have n1_ := Aside0.mk (blk_below (g := gb187) (o := .cells #[.int .i64 a2_0, .int .i64 a2_1] 23 (0, 0)) (by (with_reducible repeat (first | refine blk_drewN ?_ _ | refine blk_drew ?_ | refine blk_alloc ?_ _)); exact BK187.out) hb); have n2_ := Aside0.mk (below_step (by repeat (first | (with_reducible first | exact HB.out | apply below_alloc | apply pw_below_drewN | apply below_drew1 | refine below_set ?_ GE186.out | refine below_set ?_ GE187.out) | exact HB.out)) hb); clear BK186; clear BK187; clear HB; have BK186 := n0_; have BK187 := n1_; have HB := n2_; clear n0_ n1_ n2_; (try clear hb); (try clear hb2); (try clear hk); (try clear hi)))
      repeat (go_quiet (first | (go_at_call 20; (with_reducible refine (cutroomref20_Usable.calls k a1_0 a1_1 true _ A7.out).mono ?_); rintro e w12 ⟨rfl, hb⟩; have n0_ := Aside0.mk (blk_below (g := gb186) (o := .cells #[.int .i64 a1_0, .int .i64 a1_1] 23 (0, 0)) (by (with_reducible repeat (first | refine blk_drewN ?_ _ | refine blk_drew ?_ | refine blk_alloc ?_ _)); exact BK186.out) hb); have n1_ := Aside0.mk (blk_below (g := gb187) (o := .cells #[.int .i64 a2_0, .int .i64 a2_1] 23 (0, 0)) (by (with_reducible repeat (first | refine blk_drewN ?_ _ | refine blk_drew ?_ | refine blk_alloc ?_ _)); exact BK187.out) hb); have n2_ := Aside0.mk (below_step (by repeat (first | (with_reducible first | exact HB.out | apply below_alloc | apply pw_below_drewN | apply below_drew1 | refine below_set ?_ GE186.out | refine below_set ?_ GE187.out) | exact HB.out)) hb); clear BK186; clear BK187; clear HB; have BK186 := n0_; have BK187 := n1_; have HB := n2_; clear n0_ n1_ n2_; (try clear hb); (try clear hb2); (try clear hk); (try clear hi); have hcz13_0 : w12.cell? ⟨gb187, 0, none⟩ = some (.int .i64 a2_0) := (blk_cell BK187.out 0).trans rfl; have hcz13_1 : w12.cell? ⟨gb187, 1, none⟩ = some (.int .i64 a2_1) := (blk_cell BK187.out 1).trans rfl; have hfz13_0 := blk_frozen BK187.out 0; have hfz13_1 := blk_frozen BK187.out 1) | (go_at_call 20; (with_reducible refine (cutroomref20_Usable.calls k a2_0 a2_1 t189 _ A9.out).mono ?_); rintro e w14 ⟨rfl, hb⟩; have n0_ := Aside0.mk (blk_below (g := gb186) (o := .cells #[.int .i64 a1_0, .int .i64 a1_1] 23 (0, 0)) (by (with_reducible repeat (first | refine blk_drewN ?_ _ | refine blk_drew ?_ | refine blk_alloc ?_ _)); exact BK186.out) hb); have n1_ := Aside0.mk (blk_below (g := gb187) (o := .cells #[.int .i64 a2_0, .int .i64 a2_1] 23 (0, 0)) (by (with_reducible repeat (first | refine blk_drewN ?_ _ | refine blk_drew ?_ | refine blk_alloc ?_ _)); exact BK187.out) hb); have n2_ := Aside0.mk (below_step (by repeat (first | (with_reducible first | exact HB.out | apply below_alloc | apply pw_below_drewN | apply below_drew1 | refine below_set ?_ GE186.out | refine below_set ?_ GE187.out) | exact HB.out)) hb); clear BK186; clear BK187; clear HB; have BK186 := n0_; have BK187 := n1_; have HB := n2_; clear n0_ n1_ n2_; (try clear hb); (try clear hb2); (try clear hk); (try clear hi))); try go_wp2_with (first | (go_at_call 20; (with_reducible refine (cutroomref20_Usable.calls k a1_0 a1_1 true _ A7.out).mono ?_); rintro e w12 ⟨rfl, hb⟩; have n0_ := Aside0.mk (blk_below (g := gb186) (o := .cells #[.int .i64 a1_0, .int .i64 a1_1] 23 (0, 0)) (by (with_reducible repeat (first | refine blk_drewN ?_ _ | refine blk_drew ?_ | refine blk_alloc ?_ _)); exact BK186.out) hb); have n1_ := Aside0.mk (blk_below (g := gb187) (o := .cells #[.int .i64 a2_0, .int .i64 a2_1] 23 (0, 0)) (by (with_reducible repeat (first | refine blk_drewN ?_ _ | refine blk_drew ?_ | refine blk_alloc ?_ _)); exact BK187.out) hb); have n2_ := Aside0.mk (below_step (by repeat (first | (with_reducible first | exact HB.out | apply below_alloc | apply pw_below_drewN | apply below_drew1 | refine below_set ?_ GE186.out | refine below_set ?_ GE187.out) | exact HB.out)) hb); clear BK186; clear BK187; clear HB; have BK186 := n0_; have BK187 := n1_; have HB := n2_; clear n0_ n1_ n2_; (try clear hb); (try clear hb2); (try clear hk); (try clear hi); have hcz13_0 : w12.cell? ⟨gb187, 0, none⟩ = some (.int .i64 a2_0) := (blk_cell BK187.out 0).trans rfl; have hcz13_1 : w12.cell? ⟨gb187, 1, none⟩ = some (.int .i64 a2_1) := (blk_cell BK187.out 1).trans rfl; have hfz13_0 := blk_frozen BK187.out 0; have hfz13_1 := blk_frozen BK187.out 1) | (go_at_call 20; (with_reducible refine (cutroomref20_Usable.calls k a2_0 a2_1 t189 _ A9.out).mono ?_); rintro e w14 ⟨rfl, hb⟩; have n0_ := Aside0.mk (blk_below (g := gb186) (o := .cells #[.int .i64 a1_0, .int .i64 a1_1] 23 (0, 0)) (by (with_reducible repeat (first | refine blk_drewN ?_ _ | refine blk_drew ?_ | refine blk_alloc ?_ _)); exact BK186.out) hb); have n1_ := Aside0.mk (blk_below (g := gb187) (o := .cells #[.int .i64 a2_0, .int .i64 a2_1] 23 (0, 0)) (by (with_reducible repeat (first | refine blk_drewN ?_ _ | refine blk_drew ?_ | refine blk_alloc ?_ _)); exact BK187.out) hb); have n2_ := Aside0.mk (below_step (by repeat (first | (with_reducible first | exact HB.out | apply below_alloc | apply pw_below_drewN | apply below_drew1 | refine below_set ?_ GE186.out | refine below_set ?_ GE187.out) | exact HB.out)) hb); clear BK186; clear BK187; clear HB; have BK186 := n0_; have BK187 := n1_; have HB := n2_; clear n0_ n1_ n2_; (try clear hb); (try clear hb2); (try clear hk); (try clear hi))))
      go_meet
      case rel => exact ⟨_, (!t189), (by first | rfl | (simp; done) | (simp [*]; done)), H', ⟨by first | omega | exact Nat.le_refl _⟩, ⟨by (with_reducible repeat (first | refine blk_drewN ?_ _ | refine blk_drew ?_ | refine blk_alloc ?_ _)); exact BK186.out⟩, ⟨by (with_reducible repeat (first | refine blk_drewN ?_ _ | refine blk_drew ?_ | refine blk_alloc ?_ _)); exact BK187.out⟩, ⟨by repeat (first | (with_reducible first | exact HB.out | apply below_alloc | apply pw_below_drewN | apply below_drew1 | refine below_set ?_ GE186.out | refine below_set ?_ GE187.out) | exact HB.out)⟩⟩
    · replace c8 := Bool.eq_false_iff.mpr c8
      subst c8
      have H1 : (cutroomref20_Frame.j0 k a0 true a1_0 a1_1 a2_0 a2_1) = some (r1, r2) := by rw [if_neg (show ¬ (false = true) by decide)] at H; exact H
      clear H
      have H := H1
      clear H1
      have H' := Aside0.mk H
      clear H
      have hnb15 := NB186_187.out
      have hnc15 := NB187_186.out
      have hcz16_0 : w6.cell? ⟨gb186, 0, none⟩ = some (.int .i64 a1_0) := (blk_cell BK186.out 0).trans rfl
      have hcz16_1 : w6.cell? ⟨gb186, 1, none⟩ = some (.int .i64 a1_1) := (blk_cell BK186.out 1).trans rfl
      have hfz16_0 := blk_frozen BK186.out 0
      have hfz16_1 := blk_frozen BK186.out 1
      go_wp2_with (first | (go_at_call 20; (with_reducible refine (cutroomref20_Usable.calls k a1_0 a1_1 false _ A7.out).mono ?_); rintro e w17 ⟨rfl, hb⟩; have n0_ := Aside0.mk (blk_below (g := gb186) (o := .cells #[.int .i64 a1_0, .int .i64 a1_1] 23 (0, 0)) (by (with_reducible repeat (first | refine blk_drewN ?_ _ | refine blk_drew ?_ | refine blk_alloc ?_ _)); exact BK186.out) hb); have n1_ := Aside0.mk (blk_below (g := gb187) (o := .cells #[.int .i64 a2_0, .int .i64 a2_1] 23 (0, 0)) (by (with_reducible repeat (first | refine blk_drewN ?_ _ | refine blk_drew ?_ | refine blk_alloc ?_ _)); exact BK187.out) hb); have n2_ := Aside0.mk (below_step (by repeat (first | (with_reducible first | exact HB.out | apply below_alloc | apply pw_below_drewN | apply below_drew1 | refine below_set ?_ GE186.out | refine below_set ?_ GE187.out) | exact HB.out)) hb); clear BK186; clear BK187; clear HB; have BK186 := n0_; have BK187 := n1_; have HB := n2_; clear n0_ n1_ n2_; (try clear hb); (try clear hb2); (try clear hk); (try clear hi)))
      repeat (go_quiet (first | (go_at_call 20; (with_reducible refine (cutroomref20_Usable.calls k a1_0 a1_1 false _ A7.out).mono ?_); rintro e w17 ⟨rfl, hb⟩; have n0_ := Aside0.mk (blk_below (g := gb186) (o := .cells #[.int .i64 a1_0, .int .i64 a1_1] 23 (0, 0)) (by (with_reducible repeat (first | refine blk_drewN ?_ _ | refine blk_drew ?_ | refine blk_alloc ?_ _)); exact BK186.out) hb); have n1_ := Aside0.mk (blk_below (g := gb187) (o := .cells #[.int .i64 a2_0, .int .i64 a2_1] 23 (0, 0)) (by (with_reducible repeat (first | refine blk_drewN ?_ _ | refine blk_drew ?_ | refine blk_alloc ?_ _)); exact BK187.out) hb); have n2_ := Aside0.mk (below_step (by repeat (first | (with_reducible first | exact HB.out | apply below_alloc | apply pw_below_drewN | apply below_drew1 | refine below_set ?_ GE186.out | refine below_set ?_ GE187.out) | exact HB.out)) hb); clear BK186; clear BK187; clear HB; have BK186 := n0_; have BK187 := n1_; have HB := n2_; clear n0_ n1_ n2_; (try clear hb); (try clear hb2); (try clear hk); (try clear hi))); try go_wp2_with (first | (go_at_call 20; (with_reducible refine (cutroomref20_Usable.calls k a1_0 a1_1 false _ A7.out).mono ?_); rintro e w17 ⟨rfl, hb⟩; have n0_ := Aside0.mk (blk_below (g := gb186) (o := .cells #[.int .i64 a1_0, .int .i64 a1_1] 23 (0, 0)) (by (with_reducible repeat (first | refine blk_drewN ?_ _ | refine blk_drew ?_ | refine blk_alloc ?_ _)); exact BK186.out) hb); have n1_ := Aside0.mk (blk_below (g := gb187) (o := .cells #[.int .i64 a2_0, .int .i64 a2_1] 23 (0, 0)) (by (with_reducible repeat (first | refine blk_drewN ?_ _ | refine blk_drew ?_ | refine blk_alloc ?_ _)); exact BK187.out) hb); have n2_ := Aside0.mk (below_step (by repeat (first | (with_reducible first | exact HB.out | apply below_alloc | apply pw_below_drewN | apply below_drew1 | refine below_set ?_ GE186.out | refine below_set ?_ GE187.out) | exact HB.out)) hb); clear BK186; clear BK187; clear HB; have BK186 := n0_; have BK187 := n1_; have HB := n2_; clear n0_ n1_ n2_; (try clear hb); (try clear hb2); (try clear hk); (try clear hi))))
      go_meet
      case rel => exact ⟨_, (true), (by first | rfl | (simp; done) | (simp [*]; done)), H', ⟨by first | omega | exact Nat.le_refl _⟩, ⟨by (with_reducible repeat (first | refine blk_drewN ?_ _ | refine blk_drew ?_ | refine blk_alloc ?_ _)); exact BK186.out⟩, ⟨by (with_reducible repeat (first | refine blk_drewN ?_ _ | refine blk_drew ?_ | refine blk_alloc ?_ _)); exact BK187.out⟩, ⟨by repeat (first | (with_reducible first | exact HB.out | apply below_alloc | apply pw_below_drewN | apply below_drew1 | refine below_set ?_ GE186.out | refine below_set ?_ GE187.out) | exact HB.out)⟩⟩
  case rest =>
    clear HC4
    try clear c1
    try clear c2
    try clear p2
    try clear c8
    try clear c10
    try clear c15
    try clear hcz11_0
    try clear hcz11_1
    try clear hcz13_0
    try clear hcz13_1
    try clear hcz16_0
    try clear hcz16_1
    try clear hfz11_0
    try clear hfz11_1
    try clear hfz13_0
    try clear hfz13_1
    try clear hfz16_0
    try clear hfz16_1
    obtain ⟨kq, x21_3, rfl, HA, HJ3, BK186, BK187, HB⟩ := hcut
    cases kq with
    | zero => exact absurd HA.out (by simp [cutroomref20_Frame.j0])
    | succ kj3 =>
      have H := HA.out
      clear HA
      simp only [cutroomref20_Frame.j0] at H
      by_cases c18 : x21_3 = true
      · subst c18
        have H1 : (some (0, 1)) = some (r1, r2) := by rw [if_pos rfl] at H; exact H
        clear H
        have H := H1
        clear H1
        simp only [Option.some.injEq, Prod.mk.injEq] at H
        obtain ⟨rfl, rfl⟩ := H
        go_wp2
        repeat (go_quiet (fail); try go_wp2)
        go_ret2
        exact ⟨by first | rfl | (simp [errW_none, errW_some] <;> rfl) | (simp [*, errW_none, errW_some] <;> rfl), by repeat (first | (with_reducible first | exact HB.out | apply below_alloc | apply pw_below_drewN | apply below_drew1 | refine below_set ?_ GE186.out | refine below_set ?_ GE187.out) | exact HB.out)⟩
      · replace c18 := Bool.eq_false_iff.mpr c18
        subst c18
        have H1 : ((cutroomref20_InRange.f a0).bind fun t190 => (if t190 = true then (if (wrap64 (a2_1 * a1_0)) = 0 then (none) else ((cutroomref20_Split.f kj3 (mx a0 (wrap64 (-a0))) (Int.tmod (wrap64 (a2_0 * a1_1)) (wrap64 (a2_1 * a1_0))) (wrap64 (a2_1 * a1_0))).bind fun bt191 => (if (wrap64 (Int.tdiv (wrap64 (a2_0 * a1_1)) (wrap64 (a2_1 * a1_0)))) > 0 then (if (wrap64 (Int.tdiv (wrap64 (a2_0 * a1_1)) (wrap64 (a2_1 * a1_0)))) = 0 then (none) else (if (mx a0 (wrap64 (-a0))) > (wrap64 ((9223372036854775807 : Int) / (wrap64 (Int.tdiv (wrap64 (a2_0 * a1_1)) (wrap64 (a2_1 * a1_0)))))) then (cutroomref20_Frame.j1 kj3 a0 (mx a0 (wrap64 (-a0))) (wrap64 (Int.tdiv (wrap64 (a2_0 * a1_1)) (wrap64 (a2_1 * a1_0)))) bt191.1 bt191.2 true) else (cutroomref20_Frame.j1 kj3 a0 (mx a0 (wrap64 (-a0))) (wrap64 (Int.tdiv (wrap64 (a2_0 * a1_1)) (wrap64 (a2_1 * a1_0)))) bt191.1 bt191.2 (decide ((wrap64 ((mx a0 (wrap64 (-a0))) * (wrap64 (Int.tdiv (wrap64 (a2_0 * a1_1)) (wrap64 (a2_1 * a1_0)))))) > (wrap64 (9223372036854775807 - bt191.1))))))) else (cutroomref20_Frame.j1 kj3 a0 (mx a0 (wrap64 (-a0))) (wrap64 (Int.tdiv (wrap64 (a2_0 * a1_1)) (wrap64 (a2_1 * a1_0)))) bt191.1 bt191.2 (decide ((wrap64 ((mx a0 (wrap64 (-a0))) * (wrap64 (Int.tdiv (wrap64 (a2_0 * a1_1)) (wrap64 (a2_1 * a1_0)))))) > (wrap64 (9223372036854775807 - bt191.1)))))))) else (some (0, 2)))) = some (r1, r2) := by rw [if_neg (show ¬ (false = true) by decide)] at H; exact H
        clear H
        have H := H1
        clear H1
        replace H := Option.bind_eq_some_iff.mp H
        obtain ⟨t190, A190, H⟩ := H
        replace H : (if t190 = true then (if (wrap64 (a2_1 * a1_0)) = 0 then (none) else ((cutroomref20_Split.f kj3 (mx a0 (wrap64 (-a0))) (Int.tmod (wrap64 (a2_0 * a1_1)) (wrap64 (a2_1 * a1_0))) (wrap64 (a2_1 * a1_0))).bind fun bt191 => (if (wrap64 (Int.tdiv (wrap64 (a2_0 * a1_1)) (wrap64 (a2_1 * a1_0)))) > 0 then (if (wrap64 (Int.tdiv (wrap64 (a2_0 * a1_1)) (wrap64 (a2_1 * a1_0)))) = 0 then (none) else (if (mx a0 (wrap64 (-a0))) > (wrap64 ((9223372036854775807 : Int) / (wrap64 (Int.tdiv (wrap64 (a2_0 * a1_1)) (wrap64 (a2_1 * a1_0)))))) then (cutroomref20_Frame.j1 kj3 a0 (mx a0 (wrap64 (-a0))) (wrap64 (Int.tdiv (wrap64 (a2_0 * a1_1)) (wrap64 (a2_1 * a1_0)))) bt191.1 bt191.2 true) else (cutroomref20_Frame.j1 kj3 a0 (mx a0 (wrap64 (-a0))) (wrap64 (Int.tdiv (wrap64 (a2_0 * a1_1)) (wrap64 (a2_1 * a1_0)))) bt191.1 bt191.2 (decide ((wrap64 ((mx a0 (wrap64 (-a0))) * (wrap64 (Int.tdiv (wrap64 (a2_0 * a1_1)) (wrap64 (a2_1 * a1_0)))))) > (wrap64 (9223372036854775807 - bt191.1))))))) else (cutroomref20_Frame.j1 kj3 a0 (mx a0 (wrap64 (-a0))) (wrap64 (Int.tdiv (wrap64 (a2_0 * a1_1)) (wrap64 (a2_1 * a1_0)))) bt191.1 bt191.2 (decide ((wrap64 ((mx a0 (wrap64 (-a0))) * (wrap64 (Int.tdiv (wrap64 (a2_0 * a1_1)) (wrap64 (a2_1 * a1_0)))))) > (wrap64 (9223372036854775807 - bt191.1)))))))) else (some (0, 2))) = some (r1, r2) := H
        have A19 := Aside0.mk A190
        clear A190
        by_cases c20 : t190 = true
        · subst c20
          have H1 : (if (wrap64 (a2_1 * a1_0)) = 0 then (none) else ((cutroomref20_Split.f kj3 (mx a0 (wrap64 (-a0))) (Int.tmod (wrap64 (a2_0 * a1_1)) (wrap64 (a2_1 * a1_0))) (wrap64 (a2_1 * a1_0))).bind fun bt191 => (if (wrap64 (Int.tdiv (wrap64 (a2_0 * a1_1)) (wrap64 (a2_1 * a1_0)))) > 0 then (if (wrap64 (Int.tdiv (wrap64 (a2_0 * a1_1)) (wrap64 (a2_1 * a1_0)))) = 0 then (none) else (if (mx a0 (wrap64 (-a0))) > (wrap64 ((9223372036854775807 : Int) / (wrap64 (Int.tdiv (wrap64 (a2_0 * a1_1)) (wrap64 (a2_1 * a1_0)))))) then (cutroomref20_Frame.j1 kj3 a0 (mx a0 (wrap64 (-a0))) (wrap64 (Int.tdiv (wrap64 (a2_0 * a1_1)) (wrap64 (a2_1 * a1_0)))) bt191.1 bt191.2 true) else (cutroomref20_Frame.j1 kj3 a0 (mx a0 (wrap64 (-a0))) (wrap64 (Int.tdiv (wrap64 (a2_0 * a1_1)) (wrap64 (a2_1 * a1_0)))) bt191.1 bt191.2 (decide ((wrap64 ((mx a0 (wrap64 (-a0))) * (wrap64 (Int.tdiv (wrap64 (a2_0 * a1_1)) (wrap64 (a2_1 * a1_0)))))) > (wrap64 (9223372036854775807 - bt191.1))))))) else (cutroomref20_Frame.j1 kj3 a0 (mx a0 (wrap64 (-a0))) (wrap64 (Int.tdiv (wrap64 (a2_0 * a1_1)) (wrap64 (a2_1 * a1_0)))) bt191.1 bt191.2 (decide ((wrap64 ((mx a0 (wrap64 (-a0))) * (wrap64 (Int.tdiv (wrap64 (a2_0 * a1_1)) (wrap64 (a2_1 * a1_0)))))) > (wrap64 (9223372036854775807 - bt191.1)))))))) = some (r1, r2) := by rw [if_pos rfl] at H; exact H
          clear H
          have H := H1
          clear H1
          obtain ⟨ji21, hji21⟩ : ∃ j_ : Int, (mx a0 (wrap64 (-a0))) = j_ := ⟨_, rfl⟩
          replace H : (if (wrap64 (a2_1 * a1_0)) = 0 then (none) else ((cutroomref20_Split.f kj3 (ji21) (Int.tmod (wrap64 (a2_0 * a1_1)) (wrap64 (a2_1 * a1_0))) (wrap64 (a2_1 * a1_0))).bind fun bt191 => (if (wrap64 (Int.tdiv (wrap64 (a2_0 * a1_1)) (wrap64 (a2_1 * a1_0)))) > 0 then (if (wrap64 (Int.tdiv (wrap64 (a2_0 * a1_1)) (wrap64 (a2_1 * a1_0)))) = 0 then (none) else (if (ji21) > (wrap64 ((9223372036854775807 : Int) / (wrap64 (Int.tdiv (wrap64 (a2_0 * a1_1)) (wrap64 (a2_1 * a1_0)))))) then (cutroomref20_Frame.j1 kj3 a0 ji21 (wrap64 (Int.tdiv (wrap64 (a2_0 * a1_1)) (wrap64 (a2_1 * a1_0)))) bt191.1 bt191.2 true) else (cutroomref20_Frame.j1 kj3 a0 ji21 (wrap64 (Int.tdiv (wrap64 (a2_0 * a1_1)) (wrap64 (a2_1 * a1_0)))) bt191.1 bt191.2 (decide ((wrap64 ((ji21) * (wrap64 (Int.tdiv (wrap64 (a2_0 * a1_1)) (wrap64 (a2_1 * a1_0)))))) > (wrap64 (9223372036854775807 - bt191.1))))))) else (cutroomref20_Frame.j1 kj3 a0 ji21 (wrap64 (Int.tdiv (wrap64 (a2_0 * a1_1)) (wrap64 (a2_1 * a1_0)))) bt191.1 bt191.2 (decide ((wrap64 ((ji21) * (wrap64 (Int.tdiv (wrap64 (a2_0 * a1_1)) (wrap64 (a2_1 * a1_0)))))) > (wrap64 (9223372036854775807 - bt191.1)))))))) = some (r1, r2) := by first | (rw [hji21] at H; exact H) | (simp only [hji21] at H ⊢; exact H)
          (try rw [hji21] at A19)
          have hji21_ : (if a0 < (wrap64 (-a0)) then (wrap64 (-a0)) else a0) = ji21 := hji21
          by_cases c22 : (wrap64 (a2_1 * a1_0)) = 0
          · rw [if_pos c22] at H
            exact absurd H (by simp)
          · rw [if_neg c22] at H
            have c22b0 : ((wrap64 (a2_1 * a1_0)) == 0) = false := beq_eq_false_iff_ne.mpr c22
            have c22b1 : ((wrap64 (a2_1 * a1_0)) != 0) = true := bne_iff_ne.mpr c22
            replace H := Option.bind_eq_some_iff.mp H
            obtain ⟨⟨t191, t192⟩, A230, H⟩ := H
            replace H : (if (wrap64 (Int.tdiv (wrap64 (a2_0 * a1_1)) (wrap64 (a2_1 * a1_0)))) > 0 then (if (wrap64 (Int.tdiv (wrap64 (a2_0 * a1_1)) (wrap64 (a2_1 * a1_0)))) = 0 then (none) else (if (ji21) > (wrap64 ((9223372036854775807 : Int) / (wrap64 (Int.tdiv (wrap64 (a2_0 * a1_1)) (wrap64 (a2_1 * a1_0)))))) then (cutroomref20_Frame.j1 kj3 a0 ji21 (wrap64 (Int.tdiv (wrap64 (a2_0 * a1_1)) (wrap64 (a2_1 * a1_0)))) t191 t192 true) else (cutroomref20_Frame.j1 kj3 a0 ji21 (wrap64 (Int.tdiv (wrap64 (a2_0 * a1_1)) (wrap64 (a2_1 * a1_0)))) t191 t192 (decide ((wrap64 ((ji21) * (wrap64 (Int.tdiv (wrap64 (a2_0 * a1_1)) (wrap64 (a2_1 * a1_0)))))) > (wrap64 (9223372036854775807 - t191))))))) else (cutroomref20_Frame.j1 kj3 a0 ji21 (wrap64 (Int.tdiv (wrap64 (a2_0 * a1_1)) (wrap64 (a2_1 * a1_0)))) t191 t192 (decide ((wrap64 ((ji21) * (wrap64 (Int.tdiv (wrap64 (a2_0 * a1_1)) (wrap64 (a2_1 * a1_0)))))) > (wrap64 (9223372036854775807 - t191)))))) = some (r1, r2) := H
            have A23 := Aside0.mk A230
            clear A230
            have HC24 := Aside0.mk H
            clear H
            go_upto_region 8 with (first | (go_at_call 50; (with_reducible refine (cutroomref20_InRange.calls a0 true _ A19.out).mono ?_); rintro e w' ⟨rfl, ⟨nd, rfl⟩⟩; (try first | exact ⟨rfl, _, World.drewN_drewN _ _ _⟩ | exact ⟨rfl, _, Eq.trans (World.drewN_drewN _ _ _) (congrArg (World.drewN _) (Nat.add_assoc _ _ _))⟩); have hnb25 := NB187_186.out; have hnc25 := NB186_187.out; have hcz26_0 : wc.cell? ⟨gb187, 0, none⟩ = some (.int .i64 a2_0) := (blk_cell BK187.out 0).trans rfl; have hcz26_1 : wc.cell? ⟨gb187, 1, none⟩ = some (.int .i64 a2_1) := (blk_cell BK187.out 1).trans rfl; have hfz26_0 := blk_frozen BK187.out 0; have hfz26_1 := blk_frozen BK187.out 1; have hcz27_0 : wc.cell? ⟨gb186, 0, none⟩ = some (.int .i64 a1_0) := (blk_cell BK186.out 0).trans rfl; have hcz27_1 : wc.cell? ⟨gb186, 1, none⟩ = some (.int .i64 a1_1) := (blk_cell BK186.out 1).trans rfl; have hfz27_0 := blk_frozen BK186.out 0; have hfz27_1 := blk_frozen BK186.out 1) | (go_at_call 51; (with_reducible refine (cutroomref20_Split.calls kj3 ji21 (Int.tmod (wrap64 (a2_0 * a1_1)) (wrap64 (a2_1 * a1_0))) (wrap64 (a2_1 * a1_0)) t191 t192 _ A23.out).mono ?_); rintro e w' ⟨rfl, ⟨nd, rfl⟩⟩; (try first | exact ⟨rfl, _, World.drewN_drewN _ _ _⟩ | exact ⟨rfl, _, Eq.trans (World.drewN_drewN _ _ _) (congrArg (World.drewN _) (Nat.add_assoc _ _ _))⟩)))
            repeat (go_quiet (first | (go_at_call 50; (with_reducible refine (cutroomref20_InRange.calls a0 true _ A19.out).mono ?_); rintro e w' ⟨rfl, ⟨nd, rfl⟩⟩; (try first | exact ⟨rfl, _, World.drewN_drewN _ _ _⟩ | exact ⟨rfl, _, Eq.trans (World.drewN_drewN _ _ _) (congrArg (World.drewN _) (Nat.add_assoc _ _ _))⟩); have hnb25 := NB187_186.out; have hnc25 := NB186_187.out; have hcz26_0 : wc.cell? ⟨gb187, 0, none⟩ = some (.int .i64 a2_0) := (blk_cell BK187.out 0).trans rfl; have hcz26_1 : wc.cell? ⟨gb187, 1, none⟩ = some (.int .i64 a2_1) := (blk_cell BK187.out 1).trans rfl; have hfz26_0 := blk_frozen BK187.out 0; have hfz26_1 := blk_frozen BK187.out 1; have hcz27_0 : wc.cell? ⟨gb186, 0, none⟩ = some (.int .i64 a1_0) := (blk_cell BK186.out 0).trans rfl; have hcz27_1 : wc.cell? ⟨gb186, 1, none⟩ = some (.int .i64 a1_1) := (blk_cell BK186.out 1).trans rfl; have hfz27_0 := blk_frozen BK186.out 0; have hfz27_1 := blk_frozen BK186.out 1) | (go_at_call 51; (with_reducible refine (cutroomref20_Split.calls kj3 ji21 (Int.tmod (wrap64 (a2_0 * a1_1)) (wrap64 (a2_1 * a1_0))) (wrap64 (a2_1 * a1_0)) t191 t192 _ A23.out).mono ?_); rintro e w' ⟨rfl, ⟨nd, rfl⟩⟩; (try first | exact ⟨rfl, _, World.drewN_drewN _ _ _⟩ | exact ⟨rfl, _, Eq.trans (World.drewN_drewN _ _ _) (congrArg (World.drewN _) (Nat.add_assoc _ _ _))⟩))); go_upto_region 8 with (first | (go_at_call 50; (with_reducible refine (cutroomref20_InRange.calls a0 true _ A19.out).mono ?_); rintro e w' ⟨rfl, ⟨nd, rfl⟩⟩; (try first | exact ⟨rfl, _, World.drewN_drewN _ _ _⟩ | exact ⟨rfl, _, Eq.trans (World.drewN_drewN _ _ _) (congrArg (World.drewN _) (Nat.add_assoc _ _ _))⟩); have hnb25 := NB187_186.out; have hnc25 := NB186_187.out; have hcz26_0 : wc.cell? ⟨gb187, 0, none⟩ = some (.int .i64 a2_0) := (blk_cell BK187.out 0).trans rfl; have hcz26_1 : wc.cell? ⟨gb187, 1, none⟩ = some (.int .i64 a2_1) := (blk_cell BK187.out 1).trans rfl; have hfz26_0 := blk_frozen BK187.out 0; have hfz26_1 := blk_frozen BK187.out 1; have hcz27_0 : wc.cell? ⟨gb186, 0, none⟩ = some (.int .i64 a1_0) := (blk_cell BK186.out 0).trans rfl; have hcz27_1 : wc.cell? ⟨gb186, 1, none⟩ = some (.int .i64 a1_1) := (blk_cell BK186.out 1).trans rfl; have hfz27_0 := blk_frozen BK186.out 0; have hfz27_1 := blk_frozen BK186.out 1) | (go_at_call 51; (with_reducible refine (cutroomref20_Split.calls kj3 ji21 (Int.tmod (wrap64 (a2_0 * a1_1)) (wrap64 (a2_1 * a1_0))) (wrap64 (a2_1 * a1_0)) t191 t192 _ A23.out).mono ?_); rintro e w' ⟨rfl, ⟨nd, rfl⟩⟩; (try first | exact ⟨rfl, _, World.drewN_drewN _ _ _⟩ | exact ⟨rfl, _, Eq.trans (World.drewN_drewN _ _ _) (congrArg (World.drewN _) (Nat.add_assoc _ _ _))⟩))))
            (try simp only [Act.put, List.setIfInBounds_toArray, List.set_cons_zero, List.set_cons_succ])
            go_cut [66] (fun v66 wc => ∃ (kq : Nat) (x66_23 : Bool), v66 = .bool x66_23 ∧ Aside0 (cutroomref20_Frame.j1 kq a0 ji21 (wrap64 (Int.tdiv (wrap64 (a2_0 * a1_1)) (wrap64 (a2_1 * a1_0)))) t191 t192 x66_23 = some (r1, r2)) ∧ Aside0 (kq ≤ kj3) ∧ Aside0 (wc.heap[gb186]? = some (.cells #[.int .i64 a1_0, .int .i64 a1_1] 23 (0, 0))) ∧ Aside0 (wc.heap[gb187]? = some (.cells #[.int .i64 a2_0, .int .i64 a2_1] 23 (0, 0))) ∧ Aside0 (Below w.heap.size w wc))
            case first =>
              have H := HC24.out
              clear HC24
              by_cases c28 : (wrap64 (Int.tdiv (wrap64 (a2_0 * a1_1)) (wrap64 (a2_1 * a1_0)))) > 0
              · rw [if_pos c28] at H
                have c28b0 : decide (0 < (wrap64 (Int.tdiv (wrap64 (a2_0 * a1_1)) (wrap64 (a2_1 * a1_0))))) = true := decide_eq_true c28
                clear c28
                (first | rw [c28b0] | (simp only [i64_w, i32_w]; rw [c28b0]) | skip)
                by_cases c29 : (wrap64 (Int.tdiv (wrap64 (a2_0 * a1_1)) (wrap64 (a2_1 * a1_0)))) = 0
                · rw [if_pos c29] at H
                  exact absurd H (by simp)
                · rw [if_neg c29] at H
                  have c29b0 : ((wrap64 (Int.tdiv (wrap64 (a2_0 * a1_1)) (wrap64 (a2_1 * a1_0)))) == 0) = false := beq_eq_false_iff_ne.mpr c29
                  have c29b1 : ((wrap64 (Int.tdiv (wrap64 (a2_0 * a1_1)) (wrap64 (a2_1 * a1_0)))) != 0) = true := bne_iff_ne.mpr c29
                  by_cases c30 : (ji21) > (wrap64 ((9223372036854775807 : Int) / (wrap64 (Int.tdiv (wrap64 (a2_0 * a1_1)) (wrap64 (a2_1 * a1_0))))))
                  · rw [if_pos c30] at H
                    have c30b0 : decide ((wrap64 ((9223372036854775807 : Int) / (wrap64 (Int.tdiv (wrap64 (a2_0 * a1_1)) (wrap64 (a2_1 * a1_0)))))) < (ji21)) = true := decide_eq_true c30
                    clear c30
                    rw [← Int.tdiv_eq_ediv_of_nonneg (a := 9223372036854775807) (by decide)] at c30b0
                    have H' := Aside0.mk H
                    clear H
                    go_wp2
                    repeat (go_quiet (fail); try go_wp2)
                    go_meet
                    case rel => exact ⟨_, (true), (by first | rfl | (simp; done) | (simp [*]; done)), H', ⟨by have := HJ3.out; first | omega | exact Nat.le_refl _⟩, ⟨by (with_reducible repeat (first | refine blk_drewN ?_ _ | refine blk_drew ?_ | refine blk_alloc ?_ _)); exact BK186.out⟩, ⟨by (with_reducible repeat (first | refine blk_drewN ?_ _ | refine blk_drew ?_ | refine blk_alloc ?_ _)); exact BK187.out⟩, ⟨by repeat (first | (with_reducible first | exact HB.out | apply below_alloc | apply pw_below_drewN | apply below_drew1 | refine below_set ?_ GE186.out | refine below_set ?_ GE187.out) | exact HB.out)⟩⟩
                  · rw [if_neg c30] at H
                    have c30b0 : decide ((wrap64 ((9223372036854775807 : Int) / (wrap64 (Int.tdiv (wrap64 (a2_0 * a1_1)) (wrap64 (a2_1 * a1_0)))))) < (ji21)) = false := decide_eq_false c30
                    clear c30
                    rw [← Int.tdiv_eq_ediv_of_nonneg (a := 9223372036854775807) (by decide)] at c30b0
                    have H' := Aside0.mk H
                    clear H
                    go_wp2
                    repeat (go_quiet (fail); try go_wp2)
                    go_meet
                    case rel => exact ⟨_, (decide ((wrap64 ((ji21) * (wrap64 (Int.tdiv (wrap64 (a2_0 * a1_1)) (wrap64 (a2_1 * a1_0)))))) > (wrap64 (9223372036854775807 - t191)))), (by first | rfl | (simp; done) | (simp only [← hji21] <;> (first | rfl | simp)) | (simp [*]; done)), H', ⟨by have := HJ3.out; first | omega | exact Nat.le_refl _⟩, ⟨by (with_reducible repeat (first | refine blk_drewN ?_ _ | refine blk_drew ?_ | refine blk_alloc ?_ _)); exact BK186.out⟩, ⟨by (with_reducible repeat (first | refine blk_drewN ?_ _ | refine blk_drew ?_ | refine blk_alloc ?_ _)); exact BK187.out⟩, ⟨by repeat (first | (with_reducible first | exact HB.out | apply below_alloc | apply pw_below_drewN | apply below_drew1 | refine below_set ?_ GE186.out | refine below_set ?_ GE187.out) | exact HB.out)⟩⟩
              · rw [if_neg c28] at H
                have c28b0 : decide (0 < (wrap64 (Int.tdiv (wrap64 (a2_0 * a1_1)) (wrap64 (a2_1 * a1_0))))) = false := decide_eq_false c28
                clear c28
                (first | rw [c28b0] | (simp only [i64_w, i32_w]; rw [c28b0]) | skip)
                have H' := Aside0.mk H
                clear H
                go_wp2
                repeat (go_quiet (fail); try go_wp2)
                go_meet
                case rel => exact ⟨_, (decide ((wrap64 ((ji21) * (wrap64 (Int.tdiv (wrap64 (a2_0 * a1_1)) (wrap64 (a2_1 * a1_0)))))) > (wrap64 (9223372036854775807 - t191)))), (by first | rfl | (simp; done) | (simp only [← hji21] <;> (first | rfl | simp)) | (simp [*]; done)), H', ⟨by have := HJ3.out; first | omega | exact Nat.le_refl _⟩, ⟨by (with_reducible repeat (first | refine blk_drewN ?_ _ | refine blk_drew ?_ | refine blk_alloc ?_ _)); exact BK186.out⟩, ⟨by (with_reducible repeat (first | refine blk_drewN ?_ _ | refine blk_drew ?_ | refine blk_alloc ?_ _)); exact BK187.out⟩, ⟨by repeat (first | (with_reducible first | exact HB.out | apply below_alloc | apply pw_below_drewN | apply below_drew1 | refine below_set ?_ GE186.out | refine below_set ?_ GE187.out) | exact HB.out)⟩⟩
            case rest =>
              clear HC24
              try clear c1
              try clear c2
              try clear p2
              try clear c3
              try clear p6
              try clear c8
              try clear c10
              try clear c15
              try clear c18
              try clear c20
              try clear c22
              try clear c22b0
              try clear c22b1
              try clear c23
              try clear c25
              try clear c28
              try clear c28b0
              try clear c29
              try clear c29b0
              try clear c29b1
              try clear c30
              try clear c30b0
              try clear hcz11_0
              try clear hcz11_1
              try clear hcz13_0
              try clear hcz13_1
              try clear hcz16_0
              try clear hcz16_1
              try clear hcz26_0
              try clear hcz26_1
              try clear hcz27_0
              try clear hcz27_1
              try clear hfz11_0
              try clear hfz11_1
              try clear hfz13_0
              try clear hfz13_1
              try clear hfz16_0
              try clear hfz16_1
              try clear hfz26_0
              try clear hfz26_1
              try clear hfz27_0
              try clear hfz27_1
              try clear p2
              obtain ⟨kq, x66_23, rfl, HA, HJ23, BK186, BK187, HB⟩ := hcut
              cases kq with
              | zero => exact absurd HA.out (by simp [cutroomref20_Frame.j1])
              | succ kj23 =>
                have H := HA.out
                clear HA
                simp only [cutroomref20_Frame.j1] at H
                by_cases c31 : x66_23 = true
                · subst c31
                  have H1 : (some (0, 2)) = some (r1, r2) := by rw [if_pos rfl] at H; exact H
                  clear H
                  have H := H1
                  clear H1
                  simp only [Option.some.injEq, Prod.mk.injEq] at H
                  obtain ⟨rfl, rfl⟩ := H
                  go_wp2
                  repeat (go_quiet (fail); try go_wp2)
                  go_ret2
                  exact ⟨by first | rfl | (simp [errW_none, errW_some] <;> rfl) | (simp only [← hji21]; first | rfl | (simp [errW_none, errW_some] <;> rfl)) | (simp [*, errW_none, errW_some] <;> rfl), by repeat (first | (with_reducible first | exact HB.out | apply below_alloc | apply pw_below_drewN | apply below_drew1 | refine below_set ?_ GE186.out | refine below_set ?_ GE187.out) | exact HB.out)⟩
                · replace c31 := Bool.eq_false_iff.mpr c31
                  subst c31
                  have H1 : (if a0 < 0 then (cutroomref20_Frame.j2 kj23 a0 (wrap64 (t191 + (wrap64 (ji21 * (wrap64 (Int.tdiv (wrap64 (a2_0 * a1_1)) (wrap64 (a2_1 * a1_0)))))))) (decide (t192 > 0))) else (cutroomref20_Frame.j2 kj23 a0 (wrap64 (t191 + (wrap64 (ji21 * (wrap64 (Int.tdiv (wrap64 (a2_0 * a1_1)) (wrap64 (a2_1 * a1_0)))))))) false)) = some (r1, r2) := by rw [if_neg (show ¬ (false = true) by decide)] at H; exact H
                  clear H
                  have H := H1
                  clear H1
                  have HC32 := Aside0.mk H
                  clear H
                  go_upto_region 11 with (fail)
                  repeat (go_quiet (fail); go_upto_region 11 with (fail))
                  go_cut [77] (fun v77 wc => ∃ (kq : Nat) (x77_31 : Bool), v77 = .bool x77_31 ∧ Aside0 (cutroomref20_Frame.j2 kq a0 (wrap64 (t191 + (wrap64 (ji21 * (wrap64 (Int.tdiv (wrap64 (a2_0 * a1_1)) (wrap64 (a2_1 * a1_0)))))))) x77_31 = some (r1, r2)) ∧ Aside0 (kq ≤ kj23) ∧ Aside0 (wc.heap[gb186]? = some (.cells #[.int .i64 a1_0, .int .i64 a1_1] 23 (0, 0))) ∧ Aside0 (wc.heap[gb187]? = some (.cells #[.int .i64 a2_0, .int .i64 a2_1] 23 (0, 0))) ∧ Aside0 (Below w.heap.size w wc))
                  case first =>
                    have H := HC32.out
                    clear HC32
                    by_cases c33 : a0 < 0
                    · rw [if_pos c33] at H
                      have c33b0 : decide (a0 < 0) = true := decide_eq_true c33
                      clear c33
                      (first | rw [c33b0] | (simp only [i64_w, i32_w]; rw [c33b0]) | skip)
                      have H' := Aside0.mk H
                      clear H
                      go_wp2
                      repeat (go_quiet (fail); try go_wp2)
                      go_meet
                      case rel => exact ⟨_, (decide (t192 > 0)), (by first | rfl | (simp; done) | (simp [*]; done)), H', ⟨by have := HJ3.out; have := HJ23.out; first | omega | exact Nat.le_refl _⟩, ⟨by (with_reducible repeat (first | refine blk_drewN ?_ _ | refine blk_drew ?_ | refine blk_alloc ?_ _)); exact BK186.out⟩, ⟨by (with_reducible repeat (first | refine blk_drewN ?_ _ | refine blk_drew ?_ | refine blk_alloc ?_ _)); exact BK187.out⟩, ⟨by repeat (first | (with_reducible first | exact HB.out | apply below_alloc | apply pw_below_drewN | apply below_drew1 | refine below_set ?_ GE186.out | refine below_set ?_ GE187.out) | exact HB.out)⟩⟩
                    · rw [if_neg c33] at H
                      have c33b0 : decide (a0 < 0) = false := decide_eq_false c33
                      clear c33
                      (first | rw [c33b0] | (simp only [i64_w, i32_w]; rw [c33b0]) | skip)
                      have H' := Aside0.mk H
                      clear H
                      go_wp2
                      repeat (go_quiet (fail); try go_wp2)
                      go_meet
                      case rel => exact ⟨_, (false), (by first | rfl | (simp; done) | (simp [*]; done)), H', ⟨by have := HJ3.out; have := HJ23.out; first | omega | exact Nat.le_refl _⟩, ⟨by (with_reducible repeat (first | refine blk_drewN ?_ _ | refine blk_drew ?_ | refine blk_alloc ?_ _)); exact BK186.out⟩, ⟨by (with_reducible repeat (first | refine blk_drewN ?_ _ | refine blk_drew ?_ | refine blk_alloc ?_ _)); exact BK187.out⟩, ⟨by repeat (first | (with_reducible first | exact HB.out | apply below_alloc | apply pw_below_drewN | apply below_drew1 | refine below_set ?_ GE186.out | refine below_set ?_ GE187.out) | exact HB.out)⟩⟩
                  case rest =>
                    clear HC32
                    try clear c1
                    try clear c2
                    try clear p2
                    try clear c3
                    try clear p6
                    try clear c8
                    try clear c10
                    try clear c15
                    try clear c18
                    try clear c20
                    try clear c22
                    try clear c22b0
                    try clear c22b1
                    try clear c23
                    try clear c25
                    try clear c28
                    try clear c28b0
                    try clear c29
                    try clear c29b0
                    try clear c29b1
                    try clear c30
                    try clear c30b0
                    try clear c31
                    try clear c33
                    try clear c33b0
                    try clear hcz11_0
                    try clear hcz11_1
                    try clear hcz13_0
                    try clear hcz13_1
                    try clear hcz16_0
                    try clear hcz16_1
                    try clear hcz26_0
                    try clear hcz26_1
                    try clear hcz27_0
                    try clear hcz27_1
                    try clear hfz11_0
                    try clear hfz11_1
                    try clear hfz13_0
                    try clear hfz13_1
                    try clear hfz16_0
                    try clear hfz16_1
                    try clear hfz26_0
                    try clear hfz26_1
                    try clear hfz27_0
                    try clear hfz27_1
                    try clear p2
                    try clear p6
                    obtain ⟨kq, x77_31, rfl, HA, HJ31, BK186, BK187, HB⟩ := hcut
                    cases kq with
                    | zero => exact absurd HA.out (by simp [cutroomref20_Frame.j2])
                    | succ kj31 =>
                      have H := HA.out
                      clear HA
                      simp only [cutroomref20_Frame.j2] at H
                      by_cases c34 : x77_31 = true
                      · subst c34
                        have H1 : (if (wrap64 (t191 + (wrap64 (ji21 * (wrap64 (Int.tdiv (wrap64 (a2_0 * a1_1)) (wrap64 (a2_1 * a1_0)))))))) = 9223372036854775807 then (some (0, 2)) else (if a0 < 0 then (some (wrap64 (-(wrap64 ((wrap64 (t191 + (wrap64 (ji21 * (wrap64 (Int.tdiv (wrap64 (a2_0 * a1_1)) (wrap64 (a2_1 * a1_0)))))))) + 1))), 0)) else (some (wrap64 ((wrap64 (t191 + (wrap64 (ji21 * (wrap64 (Int.tdiv (wrap64 (a2_0 * a1_1)) (wrap64 (a2_1 * a1_0)))))))) + 1), 0)))) = some (r1, r2) := by rw [if_pos rfl] at H; exact H
                        clear H
                        have H := H1
                        clear H1
                        by_cases c35 : (wrap64 (t191 + (wrap64 (ji21 * (wrap64 (Int.tdiv (wrap64 (a2_0 * a1_1)) (wrap64 (a2_1 * a1_0)))))))) = 9223372036854775807
                        · rw [if_pos c35] at H
                          have c35b0 : ((wrap64 (t191 + (wrap64 (ji21 * (wrap64 (Int.tdiv (wrap64 (a2_0 * a1_1)) (wrap64 (a2_1 * a1_0)))))))) == 9223372036854775807) = true := beq_iff_eq.mpr c35
                          have c35b1 : ((wrap64 (t191 + (wrap64 (ji21 * (wrap64 (Int.tdiv (wrap64 (a2_0 * a1_1)) (wrap64 (a2_1 * a1_0)))))))) != 9223372036854775807) = false := bne_eq_false_iff_eq.mpr c35
                          clear c35
                          simp only [Option.some.injEq, Prod.mk.injEq] at H
                          obtain ⟨rfl, rfl⟩ := H
                          go_wp2
                          repeat (go_quiet (fail); try go_wp2)
                          go_ret2
                          exact ⟨by first | rfl | (simp [errW_none, errW_some] <;> rfl) | (simp only [← hji21]; first | rfl | (simp [errW_none, errW_some] <;> rfl)) | (simp [*, errW_none, errW_some] <;> rfl), by repeat (first | (with_reducible first | exact HB.out | apply below_alloc | apply pw_below_drewN | apply below_drew1 | refine below_set ?_ GE186.out | refine below_set ?_ GE187.out) | exact HB.out)⟩
                        · rw [if_neg c35] at H
                          have c35b0 : ((wrap64 (t191 + (wrap64 (ji21 * (wrap64 (Int.tdiv (wrap64 (a2_0 * a1_1)) (wrap64 (a2_1 * a1_0)))))))) == 9223372036854775807) = false := beq_eq_false_iff_ne.mpr c35
                          have c35b1 : ((wrap64 (t191 + (wrap64 (ji21 * (wrap64 (Int.tdiv (wrap64 (a2_0 * a1_1)) (wrap64 (a2_1 * a1_0)))))))) != 9223372036854775807) = true := bne_iff_ne.mpr c35
                          by_cases c36 : a0 < 0
                          · rw [if_pos c36] at H
                            have c36b0 : decide (a0 < 0) = true := decide_eq_true c36
                            clear c36
                            simp only [Option.some.injEq, Prod.mk.injEq] at H
                            obtain ⟨rfl, rfl⟩ := H
                            go_wp2
                            repeat (go_quiet (fail); try go_wp2)
                            go_ret2
                            exact ⟨by first | rfl | (simp [errW_none, errW_some] <;> rfl) | (simp only [← hji21]; first | rfl | (simp [errW_none, errW_some] <;> rfl)) | (simp [*, errW_none, errW_some] <;> rfl), by repeat (first | (with_reducible first | exact HB.out | apply below_alloc | apply pw_below_drewN | apply below_drew1 | refine below_set ?_ GE186.out | refine below_set ?_ GE187.out) | exact HB.out)⟩
                          · rw [if_neg c36] at H
                            have c36b0 : decide (a0 < 0) = false := decide_eq_false c36
                            clear c36
                            simp only [Option.some.injEq, Prod.mk.injEq] at H
                            obtain ⟨rfl, rfl⟩ := H
                            go_wp2
                            repeat (go_quiet (fail); try go_wp2)
                            go_ret2
                            exact ⟨by first | rfl | (simp [errW_none, errW_some] <;> rfl) | (simp only [← hji21]; first | rfl | (simp [errW_none, errW_some] <;> rfl)) | (simp [*, errW_none, errW_some] <;> rfl), by repeat (first | (with_reducible first | exact HB.out | apply below_alloc | apply pw_below_drewN | apply below_drew1 | refine below_set ?_ GE186.out | refine below_set ?_ GE187.out) | exact HB.out)⟩
                      · replace c34 := Bool.eq_false_iff.mpr c34
                        subst c34
                        have H1 : (if a0 < 0 then (some (wrap64 (-(wrap64 (t191 + (wrap64 (ji21 * (wrap64 (Int.tdiv (wrap64 (a2_0 * a1_1)) (wrap64 (a2_1 * a1_0))))))))), 0)) else (some ((wrap64 (t191 + (wrap64 (ji21 * (wrap64 (Int.tdiv (wrap64 (a2_0 * a1_1)) (wrap64 (a2_1 * a1_0)))))))), 0))) = some (r1, r2) := by rw [if_neg (show ¬ (false = true) by decide)] at H; exact H
                        clear H
                        have H := H1
                        clear H1
                        by_cases c37 : a0 < 0
                        · rw [if_pos c37] at H
                          have c37b0 : decide (a0 < 0) = true := decide_eq_true c37
                          clear c37
                          simp only [Option.some.injEq, Prod.mk.injEq] at H
                          obtain ⟨rfl, rfl⟩ := H
                          go_wp2
                          repeat (go_quiet (fail); try go_wp2)
                          go_ret2
                          exact ⟨by first | rfl | (simp [errW_none, errW_some] <;> rfl) | (simp only [← hji21]; first | rfl | (simp [errW_none, errW_some] <;> rfl)) | (simp [*, errW_none, errW_some] <;> rfl), by repeat (first | (with_reducible first | exact HB.out | apply below_alloc | apply pw_below_drewN | apply below_drew1 | refine below_set ?_ GE186.out | refine below_set ?_ GE187.out) | exact HB.out)⟩
                        · rw [if_neg c37] at H
                          have c37b0 : decide (a0 < 0) = false := decide_eq_false c37
                          clear c37
                          simp only [Option.some.injEq, Prod.mk.injEq] at H
                          obtain ⟨rfl, rfl⟩ := H
                          go_wp2
                          repeat (go_quiet (fail); try go_wp2)
                          go_ret2
                          exact ⟨by first | rfl | (simp [errW_none, errW_some] <;> rfl) | (simp only [← hji21]; first | rfl | (simp [errW_none, errW_some] <;> rfl)) | (simp [*, errW_none, errW_some] <;> rfl), by repeat (first | (with_reducible first | exact HB.out | apply below_alloc | apply pw_below_drewN | apply below_drew1 | refine below_set ?_ GE186.out | refine below_set ?_ GE187.out) | exact HB.out)⟩
        · replace c20 := Bool.eq_false_iff.mpr c20
          subst c20
          have H1 : (some (0, 2)) = some (r1, r2) := by rw [if_neg (show ¬ (false = true) by decide)] at H; exact H
          clear H
          have H := H1
          clear H1
          simp only [Option.some.injEq, Prod.mk.injEq] at H
          obtain ⟨rfl, rfl⟩ := H
          go_wp2_with (first | (go_at_call 50; (with_reducible refine (cutroomref20_InRange.calls a0 false _ A19.out).mono ?_); rintro e w' ⟨rfl, ⟨nd, rfl⟩⟩; (try first | exact ⟨rfl, _, World.drewN_drewN _ _ _⟩ | exact ⟨rfl, _, Eq.trans (World.drewN_drewN _ _ _) (congrArg (World.drewN _) (Nat.add_assoc _ _ _))⟩)))
          repeat (go_quiet (first | (go_at_call 50; (with_reducible refine (cutroomref20_InRange.calls a0 false _ A19.out).mono ?_); rintro e w' ⟨rfl, ⟨nd, rfl⟩⟩; (try first | exact ⟨rfl, _, World.drewN_drewN _ _ _⟩ | exact ⟨rfl, _, Eq.trans (World.drewN_drewN _ _ _) (congrArg (World.drewN _) (Nat.add_assoc _ _ _))⟩))); try go_wp2_with (first | (go_at_call 50; (with_reducible refine (cutroomref20_InRange.calls a0 false _ A19.out).mono ?_); rintro e w' ⟨rfl, ⟨nd, rfl⟩⟩; (try first | exact ⟨rfl, _, World.drewN_drewN _ _ _⟩ | exact ⟨rfl, _, Eq.trans (World.drewN_drewN _ _ _) (congrArg (World.drewN _) (Nat.add_assoc _ _ _))⟩))))
          go_ret2
          exact ⟨by first | rfl | (simp [errW_none, errW_some] <;> rfl) | (simp [*, errW_none, errW_some] <;> rfl), by repeat (first | (with_reducible first | exact HB.out | apply below_alloc | apply pw_below_drewN | apply below_drew1 | refine below_set ?_ GE186.out | refine below_set ?_ GE187.out) | exact HB.out)⟩

end Go.Proofs.Ytcofjbbflcnaaaa.P
