-- Written by this session's own program (wip/tools/myprint.py), which runs the kit's print with turns of its own: not a text of the kit's print.sh.
import Derived.Test.YtbpmkcgpgdbbkaaPx0
import Derived.Test.YtbpmkcgpgdbbkaaPx21
import Derived.Test.YtbpmkcgpgdbbkaaPx35
namespace Go.Proofs.Ytbpmkcgpgdbbkaa.P
open Go.RowKit Go.Proofs.YtbpmkcgpgdbbkaaW.PrintWords Go.Proofs.YtbpmkcgpgdbbkaaW.PrintLast Go.Proofs.YtbpmkcgpgdbbkaaW.PrintMore
attribute [local go_sem] max2_int min2_int max_two min_two max_three min_three max_four min_four   -- for this text's walks alone
set_option linter.unusedVariables false
set_option linter.unusedSimpArgs false

/-! ### cutroomref18_Presented: function 19 -/
theorem cutroomref18_Presented.ne_ {w : World} {p : Addr} {v : Value} {g : Nat} (h : w.cell? p = some v) (hg : w.heap.size ≤ g) : p.block ≠ g := Nat.ne_of_lt (Nat.lt_of_lt_of_le (World.block_lt_of_cell? _ _ h) hg)
theorem cutroomref18_Presented.neA_ {w : World} {p : Addr} {i : Nat} {v : Value} {g : Nat} (h : w.cell? (p.add i) = some v) (hg : w.heap.size ≤ g) : p.block ≠ g := Nat.ne_of_lt (Nat.lt_of_lt_of_le (by have := World.block_lt_of_cell? _ _ h; rwa [add_block] at this) hg)
mutual
def cutroomref18_Presented.j0 : Nat → Int → Bool → Int → List (S48) → Option (List Int × Int)
 | 0, _, _, _, _ => none
 | k + 1, x1, x21, x256000, x256001 => if x21 = true then (some (([] : List Int), 7)) else (if 0 ≤ x1 then (if x1 < (x256001.length : Int) then (cutroomref18_Presented.l0 k ([] : List Int) 0 0 x256000 x256001 ((rd_T48 x256001 x1).f0) ((rd_T48 x256001 x1).f1) ((rd_T48 x256001 x1).f2) ((rd_T48 x256001 x1).f3) ((rd_T48 x256001 x1).f4)) else (none)) else (none))
def cutroomref18_Presented.l0 : Nat → List Int → Int → Int → Int → List (S48) → ByteArray → Int → List Int → List (S74) → List (S61) → Option (List Int × Int)
 | 0, _, _, _, _, _, _, _, _, _, _ => none
 | k + 1, x6, x7, x9, x256000, x256001, x259000, x259001, x259002, x259003, x259004 => if x9 < (x259003.length : Int) then (if 0 ≤ x9 then ((cutroomref18_shown.f k x256000 x256001 x259000 x259001 x259002 x259003 x259004 (wrap64 (x7 + ((rd_T74 x259003 x9).f2)))).bind fun t260 => (if x6.length < 17592186044416 then (cutroomref18_Presented.l0 k (x6 ++ [t260]) (wrap64 (x7 + ((rd_T74 x259003 x9).f1))) (wrap64 (x9 + 1)) x256000 x256001 x259000 x259001 x259002 x259003 x259004) else (none))) else (none)) else (some (x6, 0))
end
def cutroomref18_Presented.f (k : Nat) (a0_0 : Int) (l0_1 : List (S48)) (a1 : Int) : Option (List Int × Int) := (cutroomref18_Valid.f k a0_0 l0_1).bind fun t256 => (if t256 = true then (if a1 < 0 then (cutroomref18_Presented.j0 k a1 true a0_0 l0_1) else (cutroomref18_Presented.j0 k a1 (decide (a1 ≥ (l0_1.length : Int))) a0_0 l0_1)) else (some (([] : List Int), 1)))
theorem cutroomref18_Presented.mono_l : ∀ k, (∀ y0 y1 y2 y3, LeO (cutroomref18_Presented.j0 k y0 y1 y2 y3) (cutroomref18_Presented.j0 (k + 1) y0 y1 y2 y3)) ∧ (∀ y0 y1 y2 y3 y4 y5 y6 y7 y8 y9, LeO (cutroomref18_Presented.l0 k y0 y1 y2 y3 y4 y5 y6 y7 y8 y9) (cutroomref18_Presented.l0 (k + 1) y0 y1 y2 y3 y4 y5 y6 y7 y8 y9))
 | 0 => ⟨fun _ _ _ _ r h => by simp [cutroomref18_Presented.j0] at h, fun _ _ _ _ _ _ _ _ _ _ r h => by simp [cutroomref18_Presented.l0] at h⟩
 | k + 1 => by
  obtain ⟨ih0, ih1⟩ := cutroomref18_Presented.mono_l k
  refine ⟨?_, ?_⟩
  ·intro y0 y1 y2 y3
   unfold cutroomref18_Presented.j0
   repeat' first
   | (with_reducible exact ih0 _ _ _ _)
   | (with_reducible exact ih1 _ _ _ _ _ _ _ _ _ _)
   | (with_reducible exact cutroomref18_Valid.mono _ _ _)
   | (with_reducible exact cutroomref18_shown.mono _ _ _ _ _ _ _ _ _)
   | (with_reducible exact LeO.refl _)
   | (with_reducible exact LeO.none _)
   | (with_reducible refine LeO.ite ?_ ?_)
   | (with_reducible refine LeO.bind ?_ (fun _ => ?_))
   | exact ih0 _ _ _ _
   | exact ih1 _ _ _ _ _ _ _ _ _ _
   | exact cutroomref18_Valid.mono _ _ _
   | exact cutroomref18_shown.mono _ _ _ _ _ _ _ _ _
   | exact LeO.none _
   | refine LeO.ite ?_ ?_
   | refine LeO.bind ?_ (fun _ => ?_)
  ·intro y0 y1 y2 y3 y4 y5 y6 y7 y8 y9
   unfold cutroomref18_Presented.l0
   repeat' first
   | (with_reducible exact ih0 _ _ _ _)
   | (with_reducible exact ih1 _ _ _ _ _ _ _ _ _ _)
   | (with_reducible exact cutroomref18_Valid.mono _ _ _)
   | (with_reducible exact cutroomref18_shown.mono _ _ _ _ _ _ _ _ _)
   | (with_reducible exact LeO.refl _)
   | (with_reducible exact LeO.none _)
   | (with_reducible refine LeO.ite ?_ ?_)
   | (with_reducible refine LeO.bind ?_ (fun _ => ?_))
   | exact ih0 _ _ _ _
   | exact ih1 _ _ _ _ _ _ _ _ _ _
   | exact cutroomref18_Valid.mono _ _ _
   | exact cutroomref18_shown.mono _ _ _ _ _ _ _ _ _
   | exact LeO.none _
   | refine LeO.ite ?_ ?_
   | refine LeO.bind ?_ (fun _ => ?_)
theorem cutroomref18_Presented.mono : ∀ a0 a1 a2 k, LeO (cutroomref18_Presented.f k a0 a1 a2) (cutroomref18_Presented.f (k + 1) a0 a1 a2) := by
 intro a0 a1 a2 k
 obtain ⟨ih0, ih1⟩ := cutroomref18_Presented.mono_l k
 unfold cutroomref18_Presented.f
 repeat' first
   | (with_reducible exact ih0 _ _ _ _)
   | (with_reducible exact ih1 _ _ _ _ _ _ _ _ _ _)
   | (with_reducible exact cutroomref18_Valid.mono _ _ _)
   | (with_reducible exact cutroomref18_shown.mono _ _ _ _ _ _ _ _ _)
   | (with_reducible exact LeO.refl _)
   | (with_reducible exact LeO.none _)
   | (with_reducible refine LeO.ite ?_ ?_)
   | (with_reducible refine LeO.bind ?_ (fun _ => ?_))
   | exact ih0 _ _ _ _
   | exact ih1 _ _ _ _ _ _ _ _ _ _
   | exact cutroomref18_Valid.mono _ _ _
   | exact cutroomref18_shown.mono _ _ _ _ _ _ _ _ _
   | exact LeO.none _
   | refine LeO.ite ?_ ?_
   | refine LeO.bind ?_ (fun _ => ?_)
def cutroomref18_Presented.T6 : Bool × List (List Nat × List Nat) := (true, [([], []), ([0], [0]), ([], []), ([1, 2], [1, 2]), ([3], [3]), ([], []), ([5], []), ([5, 4, 6, 0, 1, 2, 3, 4, 5, 6], [4, 5])])
def cutroomref18_Presented.B6 : List Nat := [0, 1, 0, 7, 15, 0, 32, 127]
theorem cutroomref18_Presented.tab6 : rtab .any (opsOf Try.f19 6) = cutroomref18_Presented.T6 := by kernel_rfl
theorem cutroomref18_Presented.bits6 : waitsOk cutroomref18_Presented.T6.2 cutroomref18_Presented.B6 = true := by kernel_rfl
def cutroomref18_Presented.T10 : Bool × List (List Nat × List Nat) := (true, [([], []), ([], []), ([], []), ([], []), ([], []), ([4], [4]), ([], []), ([5, 6], [5, 6]), ([7], [7]), ([8], [8]), ([3, 9], [3, 9]), ([1, 2, 10], [1, 2, 10]), ([11], [11]), ([0, 12, 11], [0, 12]), ([13, 13, 0, 1, 2, 3, 4, 5, 6, 7, 8, 9, 10, 11, 12, 13], [0, 13])])
def cutroomref18_Presented.B10 : List Nat := [0, 0, 0, 0, 0, 16, 0, 112, 240, 496, 1016, 2046, 4094, 8191, 16383]
theorem cutroomref18_Presented.tab10 : rtab .any (opsOf Try.f19 10) = cutroomref18_Presented.T10 := by kernel_rfl
theorem cutroomref18_Presented.bits10 : waitsOk cutroomref18_Presented.T10.2 cutroomref18_Presented.B10 = true := by kernel_rfl
set_option maxHeartbeats 8000000 in
set_option maxRecDepth 100000 in
theorem cutroomref18_Presented.calls (k : Nat) (a0_0 : Int) (A0_1 : Option Addr) (c0_1 : Nat) (l0_1 : List (S48)) (a1 : Int) (r1 : List Int) (r2 : Int) (w : World) (hr0_1 : Kd.C k48 w A0_1 l0_1.length l0_1) (hc0_1 : l0_1.length ≤ c0_1) (h : cutroomref18_Presented.f k a0_0 l0_1 a1 = some (r1, r2)) :
  Calls Try.prog 19 #[.agg #[.int .i64 a0_0, .slice A0_1 l0_1.length c0_1], .int .i64 a1] w fun e w' => ∃ v0_ : Value, e = .returned (.tuple #[v0_, .int .i64 r2]) ∧ Kd.R (Kd.int .i64) 2 w' w.heap.size (fun _ => True) v0_ r1 ∧ Below w.heap.size w w' := by
 have hu37 := Try.underlying37
 have hu48 := Try.underlying48
 have HR0_1 := Aside0.mk hr0_1
 have HC0_1 := Aside0.mk hc0_1
 clear hr0_1 hc0_1
 have HB := Aside0.mk (Below.refl w.heap.size w)
 have H : ((cutroomref18_Valid.f k a0_0 l0_1).bind fun t256 => (if t256 = true then (if a1 < 0 then (cutroomref18_Presented.j0 k a1 true a0_0 l0_1) else (cutroomref18_Presented.j0 k a1 (decide (a1 ≥ (l0_1.length : Int))) a0_0 l0_1)) else (some (([] : List Int), 1)))) = some (r1, r2) := h
 clear h
 replace H := Option.bind_eq_some_iff.mp H
 obtain ⟨t256, A30, H⟩ := H
 replace H : (if t256 = true then (if a1 < 0 then (cutroomref18_Presented.j0 k a1 true a0_0 l0_1) else (cutroomref18_Presented.j0 k a1 (decide (a1 ≥ (l0_1.length : Int))) a0_0 l0_1)) else (some (([] : List Int), 1))) = some (r1, r2) := H
 have A3 := Aside0.mk A30
 clear A30
 by_cases c4 : t256 = true
 ·subst c4
  have H1 : (if a1 < 0 then (cutroomref18_Presented.j0 k a1 true a0_0 l0_1) else (cutroomref18_Presented.j0 k a1 (decide (a1 ≥ (l0_1.length : Int))) a0_0 l0_1)) = some (r1, r2) := by rw [if_pos rfl] at H; exact H
  clear H
  have H := H1
  clear H1
  have HC5 := Aside0.mk H
  clear H
  go_enter Try.func19, Try.ntmps19
  go_upto_region 3 with (first | ((with_reducible refine gate_dst (N := 2) rfl ?_); (try (refine gate_guard (by rfl) ?_; dsimp only)); refine box_event ?hg (N := 2) ?hd (cs := #[.int .i64 a0_0, .slice A0_1 l0_1.length c0_1]) (t := 37) ?hr ?_; (case hd => rfl); (case hg => rfl); (case hr => first | (go_simp; done) | (go_simp; rfl)); intro gb255 hg w6 hbox hb; have n0_ := Aside0.mk (below_step (by repeat (first | (with_reducible first | exact HB.out | apply below_alloc | apply pw_below_drewN | apply below_drew1) | exact HB.out)) hb); have n1_ := Aside0.mk (hbox); have n2_ := Aside0.mk ((by rw [hg]; exact (below_size (by repeat (first | (with_reducible first | exact HB.out | apply below_alloc | apply pw_below_drewN | apply below_drew1) | exact HB.out))) : w.heap.size ≤ gb255)); have n3_ := Aside0.mk ((by rw [hg]; exact (below_size (by repeat (first | (with_reducible first | exact HB.out | apply below_alloc | apply pw_below_drewN | apply below_drew1) | exact HB.out))) : w.heap.size ≤ gb255)); clear HB; have HB := n0_; have BK255 := n1_; have GW255 := n2_; have GE255 := n3_; clear n0_ n1_ n2_ n3_; clear hb hbox hg; have hcz7_0 : w6.cell? ⟨gb255, 0, none⟩ = some (.int .i64 a0_0) := (blk_cell BK255.out 0).trans rfl; have hcz7_1 : w6.cell? ⟨gb255, 1, none⟩ = some (.slice A0_1 l0_1.length c0_1) := (blk_cell BK255.out 1).trans rfl; have hfz7_0 := blk_frozen BK255.out 0; have hfz7_1 := blk_frozen BK255.out 1) | ((with_reducible refine gate_callee (f := 20) rfl ?_); refine goesL_ (some 11) rfl rfl Try.func20 (by kernel_rfl) rfl #[.agg #[.int .i64 a0_0, .slice A0_1 l0_1.length c0_1]] rfl (by (try simp only [List.map_toArray, List.map_cons, List.map_nil]); first | done | rfl | (simp only [List.length_drop, List.length_take]; rfl)) ?_; (with_reducible refine (cutroomref18_Valid.calls k a0_0 _ _ l0_1 true _ ?side1 ?side2 A3.out).mono ?_); (case side1 => repeat (first | exact (Kd.C_below HR0_1.out HB.out) | (with_reducible refine Kd.C_alloc ?_ _) | (with_reducible refine Kd.C_drewN ?_ _) | (with_reducible refine Kd.C_drew ?_))); (case side2 => exact HC0_1.out); rintro e w8 ⟨rfl, hb⟩; refine ⟨_, rfl, ?_⟩; have n0_ := Aside0.mk (blk_below (g := gb255) (o := .cells #[.int .i64 a0_0, .slice A0_1 l0_1.length c0_1] 37 (0, 0)) (by (with_reducible repeat (first | refine blk_drewN ?_ _ | refine blk_drew ?_ | refine blk_alloc ?_ _)); exact BK255.out) hb); have n1_ := Aside0.mk (below_step (by repeat (first | (with_reducible first | exact HB.out | apply below_alloc | apply pw_below_drewN | apply below_drew1 | refine below_set ?_ GE255.out) | exact HB.out)) hb); clear BK255; clear HB; have BK255 := n0_; have HB := n1_; clear n0_ n1_; (try clear hb); (try clear hb2); (try clear hk); (try clear hi)))
  (try simp only [Act.put, List.setIfInBounds_toArray, List.set_cons_zero, List.set_cons_succ])
  go_cut [21] (fun v21 wc => ∃ (kq : Nat) (x21_4 : Bool), v21 = .bool x21_4 ∧ Aside0 (cutroomref18_Presented.j0 kq a1 x21_4 a0_0 l0_1 = some (r1, r2)) ∧ Aside0 (kq ≤ k) ∧ Aside0 (wc.heap[gb255]? = some (.cells #[.int .i64 a0_0, (.slice A0_1 l0_1.length c0_1)] 37 (0, 0))) ∧ Aside0 (Below w.heap.size w wc))
  case first =>
   have H := HC5.out
   clear HC5
   by_cases c9 : a1 < 0
   ·rw [if_pos c9] at H
    have c9b0 : decide (a1 < 0) = true := decide_eq_true c9
    clear c9
    (first | rw [c9b0] | (simp only [i64_w, i32_w]; rw [c9b0]) | skip)
    have H' := Aside0.mk H
    clear H
    go_wp2
    go_meet
    case rel => exact ⟨_, (true), (by first | rfl | (simp; done) | (simp [*]; done)), H', ⟨by first | omega | exact Nat.le_refl _⟩, ⟨by (with_reducible repeat (first | refine blk_drewN ?_ _ | refine blk_drew ?_ | refine blk_alloc ?_ _)); exact BK255.out⟩, ⟨by repeat (first | (with_reducible first | exact HB.out | apply below_alloc | apply pw_below_drewN | apply below_drew1 | refine below_set ?_ GE255.out) | exact HB.out)⟩⟩
   ·rw [if_neg c9] at H
    have c9b0 : decide (a1 < 0) = false := decide_eq_false c9
    clear c9
    (first | rw [c9b0] | (simp only [i64_w, i32_w]; rw [c9b0]) | skip)
    have H' := Aside0.mk H
    clear H
    have hcz10_0 : w8.cell? ⟨gb255, 0, none⟩ = some (.int .i64 a0_0) := (blk_cell BK255.out 0).trans rfl
    have hcz10_1 : w8.cell? ⟨gb255, 1, none⟩ = some (.slice A0_1 l0_1.length c0_1) := (blk_cell BK255.out 1).trans rfl
    have hfz10_0 := blk_frozen BK255.out 0
    have hfz10_1 := blk_frozen BK255.out 1
    go_wp2
    go_meet
    case rel => exact ⟨_, (decide (a1 ≥ (l0_1.length : Int))), (by first | rfl | (simp; done) | (simp [*]; done)), H', ⟨by first | omega | exact Nat.le_refl _⟩, ⟨by (with_reducible repeat (first | refine blk_drewN ?_ _ | refine blk_drew ?_ | refine blk_alloc ?_ _)); exact BK255.out⟩, ⟨by repeat (first | (with_reducible first | exact HB.out | apply below_alloc | apply pw_below_drewN | apply below_drew1 | refine below_set ?_ GE255.out) | exact HB.out)⟩⟩
  case rest =>
   clear HC5
   (try clear c1);(try clear c2);(try clear p2);(try clear c4);(try clear c9);(try clear c9b0);(try clear hcz10_0);(try clear hcz10_1);(try clear hcz7_0);(try clear hcz7_1);(try clear hfz10_0);(try clear hfz10_1);(try clear hfz7_0);(try clear hfz7_1)
   obtain ⟨kq, x21_4, rfl, HA, HJ4, BK255, HB⟩ := hcut
   cases kq with
   | zero => exact absurd HA.out (by simp [cutroomref18_Presented.j0])
   | succ kj4 =>
    have H := HA.out
    clear HA
    simp only [cutroomref18_Presented.j0] at H
    by_cases c11 : x21_4 = true
    ·subst c11
     have H1 : (some (([] : List Int), 7)) = some (r1, r2) := by rw [if_pos rfl] at H; exact H
     clear H
     have H := H1
     clear H1
     simp only [Option.some.injEq, Prod.mk.injEq] at H
     obtain ⟨rfl, rfl⟩ := H
     go_wp2
     go_ret2
     exact ⟨_, by first | rfl | (simp [errW_none, errW_some] <;> rfl) | (simp [*, errW_none, errW_some] <;> rfl), by first | exact Kd.R_nil _ _ _ _ _ | exact Kd.N_nil _ _ _ _ _ | exact Kd.V_nil _ _ _ _ _ | exact Kd.Q_nil _ _ _ _ _ | exact Kd.S_nil _ _ _ _ _, by repeat (first | (with_reducible first | exact HB.out | apply below_alloc | apply pw_below_drewN | apply below_drew1 | refine below_set ?_ GE255.out) | exact HB.out)⟩
    ·replace c11 := Bool.eq_false_iff.mpr c11
     subst c11
     have H1 : (if 0 ≤ a1 then (if a1 < (l0_1.length : Int) then (cutroomref18_Presented.l0 kj4 ([] : List Int) 0 0 a0_0 l0_1 ((rd_T48 l0_1 a1).f0) ((rd_T48 l0_1 a1).f1) ((rd_T48 l0_1 a1).f2) ((rd_T48 l0_1 a1).f3) ((rd_T48 l0_1 a1).f4)) else (none)) else (none)) = some (r1, r2) := by rw [if_neg (show ¬ (false = true) by decide)] at H; exact H
     clear H
     have H := H1
     clear H1
     by_cases c12 : 0 ≤ a1
     ·rw [if_pos c12] at H
      have c12b0 : decide (0 ≤ a1) = true := decide_eq_true c12
      clear c12
      by_cases c13 : a1 < (l0_1.length : Int)
      ·rw [if_pos c13] at H
       have c13b0 : decide (a1 < (l0_1.length : Int)) = true := decide_eq_true c13
       clear c13
       have H' := Aside0.mk H
       clear H
       try go_wp2
       have n0_ := Aside0.mk (blk_drew BK255.out)
       have n1_ := Aside0.mk (below_drew1 HB.out)
       clear BK255
       clear HB
       have BK255 := n0_
       have HB := n1_
       clear n0_ n1_
       have p257 : 0 ≤ (a1 : Int) := of_decide_eq_true (by first | (with_reducible assumption) | assumption)
       have q257 : a1 < (l0_1.length : Int) := of_decide_eq_true (by first | (with_reducible assumption) | assumption)
       obtain ⟨ad257, A257_2, c257_2, A257_3, c257_3, A257_4, c257_4, e257, hx257_0, hx257_1, hx257_2, hx257_3, hx257_4, hl257_2, hi257_2, hl257_3, hi257_3, hl257_4, hi257_4⟩ := at_T48 HR0_1.out a1 p257 q257
       have hw257_4 := hx257_4
       have hw257_3 := hx257_3
       have hw257_2 := hx257_2
       have hw257_1 := hx257_1
       have hw257_0 := hx257_0
       cases e257
       replace hx257_0 := (HB.out.cell (World.block_lt_of_cell? w _ hx257_0)).trans hx257_0
       replace hx257_1 := (HB.out.cell (World.block_lt_of_cell? w _ hx257_1)).trans hx257_1
       replace hx257_2 := (HB.out.cell (World.block_lt_of_cell? w _ hx257_2)).trans hx257_2
       replace hx257_3 := (HB.out.cell (World.block_lt_of_cell? w _ hx257_3)).trans hx257_3
       replace hx257_4 := (HB.out.cell (World.block_lt_of_cell? w _ hx257_4)).trans hx257_4
       have HR257_2 := Aside0.mk hi257_2
       have HC257_2 := Aside0.mk hl257_2
       clear hi257_2 hl257_2
       have HR257_3 := Aside0.mk hi257_3
       have HC257_3 := Aside0.mk hl257_3
       clear hi257_3 hl257_3
       have HR257_4 := Aside0.mk hi257_4
       have HC257_4 := Aside0.mk hl257_4
       clear hi257_4 hl257_4
       replace p257 := eq_true p257
       replace q257 := eq_true q257
       refine start_ (n := 8) (S := fun w' => w'.cell? ⟨gb255, 0, none⟩ = some (.int .i64 a0_0) ∧ w'.cell? ⟨gb255, 1, none⟩ = some (.slice (some ad257) l0_1.length c0_1) ∧ w'.cell? (ad257.add ((a1).toNat * 5)) = some (.string ((rd_T48 l0_1 a1).f0)) ∧ w'.cell? ⟨(ad257.add ((a1).toNat * 5)).block, (ad257.add ((a1).toNat * 5)).off + 1, none⟩ = some (.int .i64 ((rd_T48 l0_1 a1).f1)) ∧ w'.cell? ⟨(ad257.add ((a1).toNat * 5)).block, (ad257.add ((a1).toNat * 5)).off + 2, none⟩ = some (.slice A257_2 ((rd_T48 l0_1 a1).f2).length c257_2) ∧ w'.cell? ⟨(ad257.add ((a1).toNat * 5)).block, (ad257.add ((a1).toNat * 5)).off + 3, none⟩ = some (.slice A257_3 ((rd_T48 l0_1 a1).f3).length c257_3) ∧ w'.cell? ⟨(ad257.add ((a1).toNat * 5)).block, (ad257.add ((a1).toNat * 5)).off + 4, none⟩ = some (.slice A257_4 ((rd_T48 l0_1 a1).f4).length c257_4)) (ds := []) #[false, false, false, false, false, false, false, false] (by kernel_rfl) rfl rfl ⟨(blk_cell BK255.out 0).trans rfl, (blk_cell BK255.out 1).trans rfl, ((HB.out.cell (World.block_lt_of_cell? w _ hw257_0)).trans hw257_0), ((HB.out.cell (World.block_lt_of_cell? w _ hw257_1)).trans hw257_1), ((HB.out.cell (World.block_lt_of_cell? w _ hw257_2)).trans hw257_2), ((HB.out.cell (World.block_lt_of_cell? w _ hw257_3)).trans hw257_3), ((HB.out.cell (World.block_lt_of_cell? w _ hw257_4)).trans hw257_4)⟩ (fun hHeld => ?_); refine with_tabW cutroomref18_Presented.tab6 cutroomref18_Presented.bits6 (fun HT_ HW_ => ?_)
       generalize wc.drew = w14 at BK255 HB HR257_2 HR257_3 HR257_4 hx257_0 hx257_1 hx257_2 hx257_3 hx257_4 hHeld ⊢
       refine pure_ (i := 0) (N := some 22) (v := ?_) (a' := ?_) #[true, false, false, false, false, false, false, false] rfl rfl (any_of HT_.out (by kernel_rfl)) (fun _ _ _ h => h) (Or.inl ⟨by rfl, ?_⟩) ?_ ?_
       rotate_left
       ·intro w'
        go_simp
        with_reducible rfl
       rotate_left
       ·simp only [Act.put, List.setIfInBounds_toArray, List.set_cons_zero, List.set_cons_succ, i64_w, i32_w]
        rfl
       refine pure_ (i := 2) (N := some 24) (v := ?_) (a' := ?_) #[true, false, true, false, false, false, false, false] rfl rfl (any_of HT_.out (by kernel_rfl)) (fun _ _ _ h => h) (Or.inl ⟨by rfl, ?_⟩) ?_ ?_
       rotate_left
       ·intro w'
        go_simp
        with_reducible rfl
       rotate_left
       ·simp only [Act.put, List.setIfInBounds_toArray, List.set_cons_zero, List.set_cons_succ, i64_w, i32_w]
        rfl
       refine take_ (i := 1) (N := some 23) (v := ?_) (a' := ?_) #[true, true, true, false, false, false, false, false] rfl rfl (take_ofW HT_.out HW_.out (by kernel_rfl)) (fun _ _ _ h => h) (Or.inl ⟨by rfl, ?_⟩) hHeld ?_ ?_
       rotate_left
       ·rintro w' ⟨s0, s1, s2, s3, s4, s5, s6⟩
        go_simp
        with_reducible rfl
       rotate_left
       ·simp only [Act.put, List.setIfInBounds_toArray, List.set_cons_zero, List.set_cons_succ, i64_w, i32_w]
        rfl
       refine pure_ (i := 3) (N := some 25) (v := ?_) (a' := ?_) #[true, true, true, true, false, false, false, false] rfl rfl (any_of HT_.out (by kernel_rfl)) (fun _ _ _ h => h) (Or.inl ⟨by rfl, ?_⟩) ?_ ?_
       rotate_left
       ·intro w'
        go_simp
        with_reducible rfl
       rotate_left
       ·simp only [Act.put, List.setIfInBounds_toArray, List.set_cons_zero, List.set_cons_succ, i64_w, i32_w]
        rfl
       refine take_ (i := 4) (N := some 26) (v := ?_) (a' := ?_) #[true, true, true, true, true, false, false, false] rfl rfl (take_ofW HT_.out HW_.out (by kernel_rfl)) (fun _ _ _ h => h) (Or.inl ⟨by rfl, ?_⟩) hHeld ?_ ?_
       rotate_left
       ·rintro w' ⟨s0, s1, s2, s3, s4, s5, s6⟩
        go_simp
        with_reducible rfl
       rotate_left
       ·simp only [Act.put, List.setIfInBounds_toArray, List.set_cons_zero, List.set_cons_succ, i64_w, i32_w]
        rfl
       refine one_ (i := 5) (N := some 8) #[true, true, true, true, true, true, false, false] rfl rfl (one_of HT_.out (by kernel_rfl)) (by decide) (fun K hK => ?_)
       refine box_step ?hg (N := 8) ?hd (cs := #[.string (⟨#[]⟩ : ByteArray), .int .i64 0, .slice none 0 0, .slice none 0 0, .slice none 0 0]) (t := 48) ?hr ?_; (case hd => rfl); (case hg => rfl); (case hr => first | (go_simp; done) | (go_simp; rfl))
       intro gb258 hg w15 hbox hb
       have n0_ := Aside0.mk (blk_below (g := gb255) (o := .cells #[.int .i64 a0_0, .slice (some ad257) l0_1.length c0_1] 37 (0, 0)) (by (with_reducible repeat (first | refine blk_drewN ?_ _ | refine blk_drew ?_ | refine blk_alloc ?_ _)); exact BK255.out) hb)
       have n1_ := Aside0.mk (below_step (by repeat (first | (with_reducible first | exact HB.out | apply below_alloc | apply pw_below_drewN | apply below_drew1 | refine below_set ?_ GE255.out) | exact HB.out)) hb)
       have n2_ := Aside0.mk (hbox)
       have n3_ := Aside0.mk ((by rw [hg]; exact (below_size (by repeat (first | (with_reducible first | exact HB.out | apply below_alloc | apply pw_below_drewN | apply below_drew1 | refine below_set ?_ GE255.out) | exact HB.out))) : w.heap.size ≤ gb258))
       have n4_ := Aside0.mk ((by rw [hg]; exact (below_size (by repeat (first | (with_reducible first | exact HB.out | apply below_alloc | apply pw_below_drewN | apply below_drew1 | refine below_set ?_ GE255.out) | exact HB.out))) : w.heap.size ≤ gb258))
       have n5_ := Aside0.mk ((by rw [hg]; exact Nat.ne_of_lt (blk_lt (g := gb255) (o := .cells #[.int .i64 a0_0, .slice (some ad257) l0_1.length c0_1] 37 (0, 0)) (by (with_reducible repeat (first | refine blk_drewN ?_ _ | refine blk_drew ?_ | refine blk_alloc ?_ _)); exact BK255.out)) : gb255 ≠ gb258))
       have n6_ := Aside0.mk ((by rw [hg]; exact Nat.ne_of_gt (blk_lt (g := gb255) (o := .cells #[.int .i64 a0_0, .slice (some ad257) l0_1.length c0_1] 37 (0, 0)) (by (with_reducible repeat (first | refine blk_drewN ?_ _ | refine blk_drew ?_ | refine blk_alloc ?_ _)); exact BK255.out)) : gb258 ≠ gb255))
       clear BK255
       clear HB
       have BK255 := n0_
       have HB := n1_
       have BK258 := n2_
       have GW258 := n3_
       have GE258 := n4_
       have NB255_258 := n5_
       have NB258_255 := n6_
       clear n0_ n1_ n2_ n3_ n4_ n5_ n6_
       clear hb hbox hg
       refine hK.out _ _ ⟨(blk_cell BK255.out 0).trans rfl, (blk_cell BK255.out 1).trans rfl, ((HB.out.cell (World.block_lt_of_cell? w _ hw257_0)).trans hw257_0), ((HB.out.cell (World.block_lt_of_cell? w _ hw257_1)).trans hw257_1), ((HB.out.cell (World.block_lt_of_cell? w _ hw257_2)).trans hw257_2), ((HB.out.cell (World.block_lt_of_cell? w _ hw257_3)).trans hw257_3), ((HB.out.cell (World.block_lt_of_cell? w _ hw257_4)).trans hw257_4)⟩ (fun hHeld => ?_)
       clear hK K
       refine norm_ (a' := ?_) ?_ ?_
       rotate_left
       ·show Act.put _ (some 8) _ = _
        simp only [Act.put, List.setIfInBounds_toArray, List.set_cons_zero, List.set_cons_succ, i64_w, i32_w]
        rfl
       refine pure_ (i := 6) (N := some 7) (v := ?_) (a' := ?_) #[true, true, true, true, true, true, true, false] rfl rfl (any_of HT_.out (by kernel_rfl)) (fun _ _ _ h => h) (Or.inl ⟨by rfl, ?_⟩) ?_ ?_
       rotate_left
       ·intro w'
        go_simp
        with_reducible rfl
       rotate_left
       ·simp only [Act.put, List.setIfInBounds_toArray, List.set_cons_zero, List.set_cons_succ, i64_w, i32_w]
        rfl
       refine one_ (i := 7) (N := none) #[true, true, true, true, true, true, true, true] rfl rfl (one_of HT_.out (by kernel_rfl)) (by decide) (fun K hK => ?_)
       have hs16 : w15.cell? ⟨gb258, 0, none⟩ = some (.string (⟨#[]⟩ : ByteArray)) := (blk_cell BK258.out 0).trans rfl
       have hfs16 := blk_frozen BK258.out 0
       have hns16_0 := NB255_258.out
       have hms16_0 := NB258_255.out
       have hs17 : w15.cell? ⟨gb258, 1, none⟩ = some (.int .i64 0) := (blk_cell BK258.out 1).trans rfl
       have hfs17 := blk_frozen BK258.out 1
       have hns17_0 := NB255_258.out
       have hms17_0 := NB258_255.out
       have hs18 : w15.cell? ⟨gb258, 2, none⟩ = some (.slice none 0 0) := (blk_cell BK258.out 2).trans rfl
       have hfs18 := blk_frozen BK258.out 2
       have hns18_0 := NB255_258.out
       have hms18_0 := NB258_255.out
       have hs19 : w15.cell? ⟨gb258, 3, none⟩ = some (.slice none 0 0) := (blk_cell BK258.out 3).trans rfl
       have hfs19 := blk_frozen BK258.out 3
       have hns19_0 := NB255_258.out
       have hms19_0 := NB258_255.out
       have hs20 : w15.cell? ⟨gb258, 4, none⟩ = some (.slice none 0 0) := (blk_cell BK258.out 4).trans rfl
       have hfs20 := blk_frozen BK258.out 4
       have hns20_0 := NB255_258.out
       have hms20_0 := NB258_255.out
       refine skip_ (w1 := ?_) (by rfl) rfl ?_ ?_
       rotate_left
       ·go_simp
        rfl
       refine hK.out _ _ ⟨((cell_far (p := ⟨gb258, _, none⟩) NB255_258.out _).trans (((cell_far (p := ⟨gb258, _, none⟩) NB255_258.out _).trans (((cell_far (p := ⟨gb258, _, none⟩) NB255_258.out _).trans (((cell_far (p := ⟨gb258, _, none⟩) NB255_258.out _).trans (((cell_far (p := ⟨gb258, _, none⟩) NB255_258.out _).trans (hHeld.1)))))))))), ((cell_far (p := ⟨gb258, _, none⟩) NB255_258.out _).trans (((cell_far (p := ⟨gb258, _, none⟩) NB255_258.out _).trans (((cell_far (p := ⟨gb258, _, none⟩) NB255_258.out _).trans (((cell_far (p := ⟨gb258, _, none⟩) NB255_258.out _).trans (((cell_far (p := ⟨gb258, _, none⟩) NB255_258.out _).trans (hHeld.2.1)))))))))), ((cell_far (p := ⟨gb258, _, none⟩) (by first | exact cutroomref18_Presented.ne_ hw257_0 GW258.out | exact cutroomref18_Presented.neA_ hw257_0 GW258.out | (rw [add_block]; exact cutroomref18_Presented.ne_ hw257_0 GW258.out) | (rw [add_block]; exact cutroomref18_Presented.neA_ hw257_0 GW258.out)) _).trans (((cell_far (p := ⟨gb258, _, none⟩) (by first | exact cutroomref18_Presented.ne_ hw257_0 GW258.out | exact cutroomref18_Presented.neA_ hw257_0 GW258.out | (rw [add_block]; exact cutroomref18_Presented.ne_ hw257_0 GW258.out) | (rw [add_block]; exact cutroomref18_Presented.neA_ hw257_0 GW258.out)) _).trans (((cell_far (p := ⟨gb258, _, none⟩) (by first | exact cutroomref18_Presented.ne_ hw257_0 GW258.out | exact cutroomref18_Presented.neA_ hw257_0 GW258.out | (rw [add_block]; exact cutroomref18_Presented.ne_ hw257_0 GW258.out) | (rw [add_block]; exact cutroomref18_Presented.neA_ hw257_0 GW258.out)) _).trans (((cell_far (p := ⟨gb258, _, none⟩) (by first | exact cutroomref18_Presented.ne_ hw257_0 GW258.out | exact cutroomref18_Presented.neA_ hw257_0 GW258.out | (rw [add_block]; exact cutroomref18_Presented.ne_ hw257_0 GW258.out) | (rw [add_block]; exact cutroomref18_Presented.neA_ hw257_0 GW258.out)) _).trans (((cell_far (p := ⟨gb258, _, none⟩) (by first | exact cutroomref18_Presented.ne_ hw257_0 GW258.out | exact cutroomref18_Presented.neA_ hw257_0 GW258.out | (rw [add_block]; exact cutroomref18_Presented.ne_ hw257_0 GW258.out) | (rw [add_block]; exact cutroomref18_Presented.neA_ hw257_0 GW258.out)) _).trans (hHeld.2.2.1)))))))))), ((cell_far (p := ⟨gb258, _, none⟩) (by first | exact cutroomref18_Presented.ne_ hw257_1 GW258.out | exact cutroomref18_Presented.neA_ hw257_1 GW258.out | (rw [add_block]; exact cutroomref18_Presented.ne_ hw257_1 GW258.out) | (rw [add_block]; exact cutroomref18_Presented.neA_ hw257_1 GW258.out)) _).trans (((cell_far (p := ⟨gb258, _, none⟩) (by first | exact cutroomref18_Presented.ne_ hw257_1 GW258.out | exact cutroomref18_Presented.neA_ hw257_1 GW258.out | (rw [add_block]; exact cutroomref18_Presented.ne_ hw257_1 GW258.out) | (rw [add_block]; exact cutroomref18_Presented.neA_ hw257_1 GW258.out)) _).trans (((cell_far (p := ⟨gb258, _, none⟩) (by first | exact cutroomref18_Presented.ne_ hw257_1 GW258.out | exact cutroomref18_Presented.neA_ hw257_1 GW258.out | (rw [add_block]; exact cutroomref18_Presented.ne_ hw257_1 GW258.out) | (rw [add_block]; exact cutroomref18_Presented.neA_ hw257_1 GW258.out)) _).trans (((cell_far (p := ⟨gb258, _, none⟩) (by first | exact cutroomref18_Presented.ne_ hw257_1 GW258.out | exact cutroomref18_Presented.neA_ hw257_1 GW258.out | (rw [add_block]; exact cutroomref18_Presented.ne_ hw257_1 GW258.out) | (rw [add_block]; exact cutroomref18_Presented.neA_ hw257_1 GW258.out)) _).trans (((cell_far (p := ⟨gb258, _, none⟩) (by first | exact cutroomref18_Presented.ne_ hw257_1 GW258.out | exact cutroomref18_Presented.neA_ hw257_1 GW258.out | (rw [add_block]; exact cutroomref18_Presented.ne_ hw257_1 GW258.out) | (rw [add_block]; exact cutroomref18_Presented.neA_ hw257_1 GW258.out)) _).trans (hHeld.2.2.2.1)))))))))), ((cell_far (p := ⟨gb258, _, none⟩) (by first | exact cutroomref18_Presented.ne_ hw257_2 GW258.out | exact cutroomref18_Presented.neA_ hw257_2 GW258.out | (rw [add_block]; exact cutroomref18_Presented.ne_ hw257_2 GW258.out) | (rw [add_block]; exact cutroomref18_Presented.neA_ hw257_2 GW258.out)) _).trans (((cell_far (p := ⟨gb258, _, none⟩) (by first | exact cutroomref18_Presented.ne_ hw257_2 GW258.out | exact cutroomref18_Presented.neA_ hw257_2 GW258.out | (rw [add_block]; exact cutroomref18_Presented.ne_ hw257_2 GW258.out) | (rw [add_block]; exact cutroomref18_Presented.neA_ hw257_2 GW258.out)) _).trans (((cell_far (p := ⟨gb258, _, none⟩) (by first | exact cutroomref18_Presented.ne_ hw257_2 GW258.out | exact cutroomref18_Presented.neA_ hw257_2 GW258.out | (rw [add_block]; exact cutroomref18_Presented.ne_ hw257_2 GW258.out) | (rw [add_block]; exact cutroomref18_Presented.neA_ hw257_2 GW258.out)) _).trans (((cell_far (p := ⟨gb258, _, none⟩) (by first | exact cutroomref18_Presented.ne_ hw257_2 GW258.out | exact cutroomref18_Presented.neA_ hw257_2 GW258.out | (rw [add_block]; exact cutroomref18_Presented.ne_ hw257_2 GW258.out) | (rw [add_block]; exact cutroomref18_Presented.neA_ hw257_2 GW258.out)) _).trans (((cell_far (p := ⟨gb258, _, none⟩) (by first | exact cutroomref18_Presented.ne_ hw257_2 GW258.out | exact cutroomref18_Presented.neA_ hw257_2 GW258.out | (rw [add_block]; exact cutroomref18_Presented.ne_ hw257_2 GW258.out) | (rw [add_block]; exact cutroomref18_Presented.neA_ hw257_2 GW258.out)) _).trans (hHeld.2.2.2.2.1)))))))))), ((cell_far (p := ⟨gb258, _, none⟩) (by first | exact cutroomref18_Presented.ne_ hw257_3 GW258.out | exact cutroomref18_Presented.neA_ hw257_3 GW258.out | (rw [add_block]; exact cutroomref18_Presented.ne_ hw257_3 GW258.out) | (rw [add_block]; exact cutroomref18_Presented.neA_ hw257_3 GW258.out)) _).trans (((cell_far (p := ⟨gb258, _, none⟩) (by first | exact cutroomref18_Presented.ne_ hw257_3 GW258.out | exact cutroomref18_Presented.neA_ hw257_3 GW258.out | (rw [add_block]; exact cutroomref18_Presented.ne_ hw257_3 GW258.out) | (rw [add_block]; exact cutroomref18_Presented.neA_ hw257_3 GW258.out)) _).trans (((cell_far (p := ⟨gb258, _, none⟩) (by first | exact cutroomref18_Presented.ne_ hw257_3 GW258.out | exact cutroomref18_Presented.neA_ hw257_3 GW258.out | (rw [add_block]; exact cutroomref18_Presented.ne_ hw257_3 GW258.out) | (rw [add_block]; exact cutroomref18_Presented.neA_ hw257_3 GW258.out)) _).trans (((cell_far (p := ⟨gb258, _, none⟩) (by first | exact cutroomref18_Presented.ne_ hw257_3 GW258.out | exact cutroomref18_Presented.neA_ hw257_3 GW258.out | (rw [add_block]; exact cutroomref18_Presented.ne_ hw257_3 GW258.out) | (rw [add_block]; exact cutroomref18_Presented.neA_ hw257_3 GW258.out)) _).trans (((cell_far (p := ⟨gb258, _, none⟩) (by first | exact cutroomref18_Presented.ne_ hw257_3 GW258.out | exact cutroomref18_Presented.neA_ hw257_3 GW258.out | (rw [add_block]; exact cutroomref18_Presented.ne_ hw257_3 GW258.out) | (rw [add_block]; exact cutroomref18_Presented.neA_ hw257_3 GW258.out)) _).trans (hHeld.2.2.2.2.2.1)))))))))), ((cell_far (p := ⟨gb258, _, none⟩) (by first | exact cutroomref18_Presented.ne_ hw257_4 GW258.out | exact cutroomref18_Presented.neA_ hw257_4 GW258.out | (rw [add_block]; exact cutroomref18_Presented.ne_ hw257_4 GW258.out) | (rw [add_block]; exact cutroomref18_Presented.neA_ hw257_4 GW258.out)) _).trans (((cell_far (p := ⟨gb258, _, none⟩) (by first | exact cutroomref18_Presented.ne_ hw257_4 GW258.out | exact cutroomref18_Presented.neA_ hw257_4 GW258.out | (rw [add_block]; exact cutroomref18_Presented.ne_ hw257_4 GW258.out) | (rw [add_block]; exact cutroomref18_Presented.neA_ hw257_4 GW258.out)) _).trans (((cell_far (p := ⟨gb258, _, none⟩) (by first | exact cutroomref18_Presented.ne_ hw257_4 GW258.out | exact cutroomref18_Presented.neA_ hw257_4 GW258.out | (rw [add_block]; exact cutroomref18_Presented.ne_ hw257_4 GW258.out) | (rw [add_block]; exact cutroomref18_Presented.neA_ hw257_4 GW258.out)) _).trans (((cell_far (p := ⟨gb258, _, none⟩) (by first | exact cutroomref18_Presented.ne_ hw257_4 GW258.out | exact cutroomref18_Presented.neA_ hw257_4 GW258.out | (rw [add_block]; exact cutroomref18_Presented.ne_ hw257_4 GW258.out) | (rw [add_block]; exact cutroomref18_Presented.neA_ hw257_4 GW258.out)) _).trans (((cell_far (p := ⟨gb258, _, none⟩) (by first | exact cutroomref18_Presented.ne_ hw257_4 GW258.out | exact cutroomref18_Presented.neA_ hw257_4 GW258.out | (rw [add_block]; exact cutroomref18_Presented.ne_ hw257_4 GW258.out) | (rw [add_block]; exact cutroomref18_Presented.neA_ hw257_4 GW258.out)) _).trans (hHeld.2.2.2.2.2.2))))))))))⟩ (fun hHeld => ?_)
       clear hK K
       refine done_ (done_of HT_.out (by kernel_rfl)) ?_
       try go_wp2
       go_loopg [6, 7, 9] kj4 (fun kq v6 v7 v9 w' => ∃ (x6_2 : List Int) (x7_2 : Int) (x9_2 : Int), v7 = .int .i64 x7_2 ∧ v9 = .int .i64 x9_2 ∧ Aside0 (cutroomref18_Presented.l0 kq x6_2 x7_2 x9_2 a0_0 l0_1 ((rd_T48 l0_1 a1).f0) ((rd_T48 l0_1 a1).f1) ((rd_T48 l0_1 a1).f2) ((rd_T48 l0_1 a1).f3) ((rd_T48 l0_1 a1).f4) = some (r1, r2)) ∧ Aside0 (kq ≤ kj4) ∧ Aside0 (Kd.R (Kd.int .i64) 2 w' w.heap.size (fun _ => True) v6 x6_2) ∧ Aside0 (w'.heap[gb255]? = some (.cells #[.int .i64 a0_0, (.slice (some ad257) l0_1.length c0_1)] 37 (0, 0))) ∧ Aside0 (w'.heap[gb258]? = some (.cells #[.string ((rd_T48 l0_1 a1).f0), .int .i64 ((rd_T48 l0_1 a1).f1), (.slice A257_2 ((rd_T48 l0_1 a1).f2).length c257_2), (.slice A257_3 ((rd_T48 l0_1 a1).f3).length c257_3), (.slice A257_4 ((rd_T48 l0_1 a1).f4).length c257_4)] 48 (0, 0))) ∧ Aside0 (Below w.heap.size w w'))
       case atStart => exact ⟨(([] : List Int)), (0), (0), (by first | rfl | (simp; done) | (simp [*]; done)), (by first | rfl | (simp; done) | (simp [*]; done)), H', ⟨Nat.le_refl _⟩, ⟨by first | exact Kd.R_nil _ _ _ _ _ | exact Kd.N_nil _ _ _ _ _ | exact Kd.V_nil _ _ _ _ _ | exact Kd.Q_nil _ _ _ _ _ | exact Kd.S_nil _ _ _ _ _⟩, ⟨by (with_reducible repeat (first | refine blk_drewN ?_ _ | refine blk_drew ?_ | refine blk_alloc ?_ _)); refine blk_far ?_ NB255_258.out _; (with_reducible repeat (first | refine blk_drewN ?_ _ | refine blk_drew ?_ | refine blk_alloc ?_ _)); refine blk_far ?_ NB255_258.out _; (with_reducible repeat (first | refine blk_drewN ?_ _ | refine blk_drew ?_ | refine blk_alloc ?_ _)); refine blk_far ?_ NB255_258.out _; (with_reducible repeat (first | refine blk_drewN ?_ _ | refine blk_drew ?_ | refine blk_alloc ?_ _)); refine blk_far ?_ NB255_258.out _; (with_reducible repeat (first | refine blk_drewN ?_ _ | refine blk_drew ?_ | refine blk_alloc ?_ _)); refine blk_far ?_ NB255_258.out _; (with_reducible repeat (first | refine blk_drewN ?_ _ | refine blk_drew ?_ | refine blk_alloc ?_ _)); exact BK255.out⟩, ⟨by (with_reducible repeat (first | refine blk_drewN ?_ _ | refine blk_drew ?_ | refine blk_alloc ?_ _)); refine blk_put (cs := #[.string ((rd_T48 l0_1 a1).f0), .int .i64 ((rd_T48 l0_1 a1).f1), .slice A257_2 ((rd_T48 l0_1 a1).f2).length c257_2, .slice A257_3 ((rd_T48 l0_1 a1).f3).length c257_3, .slice none 0 0]) ?_ 4 _ rfl; (with_reducible repeat (first | refine blk_drewN ?_ _ | refine blk_drew ?_ | refine blk_alloc ?_ _)); refine blk_put (cs := #[.string ((rd_T48 l0_1 a1).f0), .int .i64 ((rd_T48 l0_1 a1).f1), .slice A257_2 ((rd_T48 l0_1 a1).f2).length c257_2, .slice none 0 0, .slice none 0 0]) ?_ 3 _ rfl; (with_reducible repeat (first | refine blk_drewN ?_ _ | refine blk_drew ?_ | refine blk_alloc ?_ _)); refine blk_put (cs := #[.string ((rd_T48 l0_1 a1).f0), .int .i64 ((rd_T48 l0_1 a1).f1), .slice none 0 0, .slice none 0 0, .slice none 0 0]) ?_ 2 _ rfl; (with_reducible repeat (first | refine blk_drewN ?_ _ | refine blk_drew ?_ | refine blk_alloc ?_ _)); refine blk_put (cs := #[.string ((rd_T48 l0_1 a1).f0), .int .i64 0, .slice none 0 0, .slice none 0 0, .slice none 0 0]) ?_ 1 _ rfl; (with_reducible repeat (first | refine blk_drewN ?_ _ | refine blk_drew ?_ | refine blk_alloc ?_ _)); refine blk_put (cs := #[.string (⟨#[]⟩ : ByteArray), .int .i64 0, .slice none 0 0, .slice none 0 0, .slice none 0 0]) ?_ 0 _ rfl; (with_reducible repeat (first | refine blk_drewN ?_ _ | refine blk_drew ?_ | refine blk_alloc ?_ _)); exact BK258.out⟩, ⟨by repeat (first | (with_reducible first | exact HB.out | apply below_alloc | apply pw_below_drewN | apply below_drew1 | refine below_set ?_ GE255.out | refine below_set ?_ GE258.out) | exact HB.out)⟩⟩
       case round =>
        clear H'
        (try clear c1);(try clear c2);(try clear p2);(try clear q2);(try clear hx2);(try clear c4);(try clear c9);(try clear c9b0);(try clear c11);(try clear c12);(try clear c12b0);(try clear c13);(try clear c13b0);(try clear c19);(try clear c20);(try clear hcz10_0);(try clear hcz10_1);(try clear hcz7_0);(try clear hcz7_1);(try clear hfz10_0);(try clear hfz10_1);(try clear hfz7_0);(try clear hfz7_1);(try clear hx257_0);(try clear hx257_1);(try clear hx257_2);(try clear hx257_3);(try clear hx257_4);(try clear p2);(try clear p257);(try clear q257)
        obtain ⟨x6_2, x7_2, x9_2, rfl, rfl, HA, HK2, HO_6, BK255, BK258, HB⟩ := hrel
        cases gk with
        | zero => exact absurd HA.out (by simp [cutroomref18_Presented.l0])
        | succ k2 =>
         have H := HA.out
         clear HA
         simp only [cutroomref18_Presented.l0] at H
         by_cases c21 : x9_2 < (((rd_T48 l0_1 a1).f3).length : Int)
         ·rw [if_pos c21] at H
          have c21b0 : decide (x9_2 < (((rd_T48 l0_1 a1).f3).length : Int)) = true := decide_eq_true c21
          clear c21
          by_cases c22 : 0 ≤ x9_2
          ·rw [if_pos c22] at H
           have c22b0 : decide (0 ≤ x9_2) = true := decide_eq_true c22
           clear c22
           replace H := Option.bind_eq_some_iff.mp H
           obtain ⟨t260, A230, H⟩ := H
           replace H : (if x6_2.length < 17592186044416 then (cutroomref18_Presented.l0 k2 (x6_2 ++ [t260]) (wrap64 (x7_2 + ((rd_T74 ((rd_T48 l0_1 a1).f3) x9_2).f1))) (wrap64 (x9_2 + 1)) a0_0 l0_1 ((rd_T48 l0_1 a1).f0) ((rd_T48 l0_1 a1).f1) ((rd_T48 l0_1 a1).f2) ((rd_T48 l0_1 a1).f3) ((rd_T48 l0_1 a1).f4)) else (none)) = some (r1, r2) := H
           have A23 := Aside0.mk A230
           clear A230
           by_cases c24 : x6_2.length < 17592186044416
           ·rw [if_pos c24] at H
            have LMc24 := Aside0.mk c24
            clear c24
            obtain ⟨y261, hy261⟩ : ∃ y_ : List Int, y_ = (x6_2 ++ [t260]) := ⟨_, rfl⟩
            replace H : (cutroomref18_Presented.l0 k2 y261 (wrap64 (x7_2 + ((rd_T74 ((rd_T48 l0_1 a1).f3) x9_2).f1))) (wrap64 (x9_2 + 1)) a0_0 l0_1 ((rd_T48 l0_1 a1).f0) ((rd_T48 l0_1 a1).f1) ((rd_T48 l0_1 a1).f2) ((rd_T48 l0_1 a1).f3) ((rd_T48 l0_1 a1).f4)) = some (r1, r2) := by first | (rw [hy261]; with_reducible exact H) | (have H2_ := (Option.bind_some _ _).symm.trans H; rw [hy261]; with_reducible exact H2_) | (have H2_ := (Option.bind_some _ _).symm.trans H; with_reducible exact H2_) | with_reducible exact H | (rw [hy261]; exact H) | exact H
            have Ny261 := Aside0.mk hy261
            clear hy261
            have H' := Aside0.mk H
            clear H
            have hnb25 := NB258_255.out
            have hnc25 := NB255_258.out
            have hcz26_0 : wr.cell? ⟨gb258, 0, none⟩ = some (.string ((rd_T48 l0_1 a1).f0)) := (blk_cell BK258.out 0).trans rfl
            have hcz26_1 : wr.cell? ⟨gb258, 1, none⟩ = some (.int .i64 ((rd_T48 l0_1 a1).f1)) := (blk_cell BK258.out 1).trans rfl
            have hcz26_2 : wr.cell? ⟨gb258, 2, none⟩ = some (.slice A257_2 ((rd_T48 l0_1 a1).f2).length c257_2) := (blk_cell BK258.out 2).trans rfl
            have hcz26_3 : wr.cell? ⟨gb258, 3, none⟩ = some (.slice A257_3 ((rd_T48 l0_1 a1).f3).length c257_3) := (blk_cell BK258.out 3).trans rfl
            have hcz26_4 : wr.cell? ⟨gb258, 4, none⟩ = some (.slice A257_4 ((rd_T48 l0_1 a1).f4).length c257_4) := (blk_cell BK258.out 4).trans rfl
            have hfz26_0 := blk_frozen BK258.out 0
            have hfz26_1 := blk_frozen BK258.out 1
            have hfz26_2 := blk_frozen BK258.out 2
            have hfz26_3 := blk_frozen BK258.out 3
            have hfz26_4 := blk_frozen BK258.out 4
            try go_wp2
            have n0_ := Aside0.mk (Kd.R_drew HO_6.out)
            have n1_ := Aside0.mk (blk_drew BK255.out)
            have n2_ := Aside0.mk (blk_drew BK258.out)
            have n3_ := Aside0.mk (below_drew1 HB.out)
            clear HO_6
            clear BK255
            clear BK258
            clear HB
            have HO_6 := n0_
            have BK255 := n1_
            have BK258 := n2_
            have HB := n3_
            clear n0_ n1_ n2_ n3_
            have p259 : 0 ≤ (x9_2 : Int) := of_decide_eq_true (by first | (with_reducible assumption) | assumption)
            have q259 : x9_2 < (((rd_T48 l0_1 a1).f3).length : Int) := of_decide_eq_true (by first | (with_reducible assumption) | assumption)
            obtain ⟨ad259, A259_0, c259_0, e259, hx259_0, hx259_1, hx259_2, hx259_3, hl259_0, hi259_0⟩ := at_T74 HR257_3.out x9_2 p259 q259
            have hw259_3 := hx259_3
            have hw259_2 := hx259_2
            have hw259_1 := hx259_1
            have hw259_0 := hx259_0
            cases e259
            replace hx259_0 := (HB.out.cell (World.block_lt_of_cell? w _ hx259_0)).trans hx259_0
            replace hx259_1 := (HB.out.cell (World.block_lt_of_cell? w _ hx259_1)).trans hx259_1
            replace hx259_2 := (HB.out.cell (World.block_lt_of_cell? w _ hx259_2)).trans hx259_2
            replace hx259_3 := (HB.out.cell (World.block_lt_of_cell? w _ hx259_3)).trans hx259_3
            have HR259_0 := Aside0.mk hi259_0
            have HC259_0 := Aside0.mk hl259_0
            clear hi259_0 hl259_0
            replace p259 := eq_true p259
            replace q259 := eq_true q259
            refine start_ (n := 15) (S := fun w' => w'.cell? ⟨gb255, 0, none⟩ = some (.int .i64 a0_0) ∧ w'.cell? ⟨gb255, 1, none⟩ = some (.slice (some ad257) l0_1.length c0_1) ∧ w'.cell? ⟨gb258, 0, none⟩ = some (.string ((rd_T48 l0_1 a1).f0)) ∧ w'.cell? ⟨gb258, 1, none⟩ = some (.int .i64 ((rd_T48 l0_1 a1).f1)) ∧ w'.cell? ⟨gb258, 2, none⟩ = some (.slice A257_2 ((rd_T48 l0_1 a1).f2).length c257_2) ∧ w'.cell? ⟨gb258, 3, none⟩ = some (.slice (some ad259) ((rd_T48 l0_1 a1).f3).length c257_3) ∧ w'.cell? ⟨gb258, 4, none⟩ = some (.slice A257_4 ((rd_T48 l0_1 a1).f4).length c257_4) ∧ w'.cell? (ad259.add ((x9_2).toNat * 4)) = some (.slice A259_0 ((rd_T74 ((rd_T48 l0_1 a1).f3) x9_2).f0).length c259_0) ∧ w'.cell? ⟨(ad259.add ((x9_2).toNat * 4)).block, (ad259.add ((x9_2).toNat * 4)).off + 1, none⟩ = some (.int .i64 ((rd_T74 ((rd_T48 l0_1 a1).f3) x9_2).f1)) ∧ w'.cell? ⟨(ad259.add ((x9_2).toNat * 4)).block, (ad259.add ((x9_2).toNat * 4)).off + 2, none⟩ = some (.int .i64 ((rd_T74 ((rd_T48 l0_1 a1).f3) x9_2).f2)) ∧ w'.cell? ⟨(ad259.add ((x9_2).toNat * 4)).block, (ad259.add ((x9_2).toNat * 4)).off + 3, none⟩ = some (.bool ((rd_T74 ((rd_T48 l0_1 a1).f3) x9_2).f3))) (ds := []) #[false, false, false, false, false, false, false, false, false, false, false, false, false, false, false] (by kernel_rfl) rfl rfl ⟨(blk_cell BK255.out 0).trans rfl, (blk_cell BK255.out 1).trans rfl, (blk_cell BK258.out 0).trans rfl, (blk_cell BK258.out 1).trans rfl, (blk_cell BK258.out 2).trans rfl, (blk_cell BK258.out 3).trans rfl, (blk_cell BK258.out 4).trans rfl, ((HB.out.cell (World.block_lt_of_cell? w _ hw259_0)).trans hw259_0), ((HB.out.cell (World.block_lt_of_cell? w _ hw259_1)).trans hw259_1), ((HB.out.cell (World.block_lt_of_cell? w _ hw259_2)).trans hw259_2), ((HB.out.cell (World.block_lt_of_cell? w _ hw259_3)).trans hw259_3)⟩ (fun hHeld => ?_); refine with_tabW cutroomref18_Presented.tab10 cutroomref18_Presented.bits10 (fun HT_ HW_ => ?_)
            generalize wr.drew = w27 at HO_6 BK255 BK258 HB HR259_0 hx259_0 hx259_1 hx259_2 hx259_3 hHeld ⊢
            refine pure_ (i := 0) (N := some 34) (v := ?_) (a' := ?_) #[true, false, false, false, false, false, false, false, false, false, false, false, false, false, false] rfl rfl (any_of HT_.out (by kernel_rfl)) (fun _ _ _ h => h) (Or.inl ⟨by rfl, ?_⟩) ?_ ?_
            rotate_left
            ·intro w'
             go_simp
             with_reducible rfl
            rotate_left
            ·simp only [Act.put, List.setIfInBounds_toArray, List.set_cons_zero, List.set_cons_succ, i64_w, i32_w]
             rfl
            refine pure_ (i := 3) (N := some 37) (v := ?_) (a' := ?_) #[true, false, false, true, false, false, false, false, false, false, false, false, false, false, false] rfl rfl (any_of HT_.out (by kernel_rfl)) (fun _ _ _ h => h) (Or.inl ⟨by rfl, ?_⟩) ?_ ?_
            rotate_left
            ·intro w'
             go_simp
             with_reducible rfl
            rotate_left
            ·simp only [Act.put, List.setIfInBounds_toArray, List.set_cons_zero, List.set_cons_succ, i64_w, i32_w]
             rfl
            refine pure_ (i := 4) (N := some 38) (v := ?_) (a' := ?_) #[true, false, false, true, true, false, false, false, false, false, false, false, false, false, false] rfl rfl (any_of HT_.out (by kernel_rfl)) (fun _ _ _ h => h) (Or.inl ⟨by rfl, ?_⟩) ?_ ?_
            rotate_left
            ·intro w'
             go_simp
             with_reducible rfl
            rotate_left
            ·simp only [Act.put, List.setIfInBounds_toArray, List.set_cons_zero, List.set_cons_succ, i64_w, i32_w]
             rfl
            refine pure_ (i := 6) (N := some 40) (v := ?_) (a' := ?_) #[true, false, false, true, true, false, true, false, false, false, false, false, false, false, false] rfl rfl (any_of HT_.out (by kernel_rfl)) (fun _ _ _ h => h) (Or.inl ⟨by rfl, ?_⟩) ?_ ?_
            rotate_left
            ·intro w'
             go_simp
             with_reducible rfl
            rotate_left
            ·simp only [Act.put, List.setIfInBounds_toArray, List.set_cons_zero, List.set_cons_succ, i64_w, i32_w]
             rfl
            refine take_ (i := 1) (N := some 35) (v := ?_) (a' := ?_) #[true, true, false, true, true, false, true, false, false, false, false, false, false, false, false] rfl rfl (take_ofW HT_.out HW_.out (by kernel_rfl)) (fun _ _ _ h => h) (Or.inl ⟨by rfl, ?_⟩) hHeld ?_ ?_
            rotate_left
            ·rintro w' ⟨s0, s1, s2, s3, s4, s5, s6, s7, s8, s9, s10⟩
             go_simp
             with_reducible rfl
            rotate_left
            ·simp only [Act.put, List.setIfInBounds_toArray, List.set_cons_zero, List.set_cons_succ, i64_w, i32_w]
             rfl
            refine take_ (i := 2) (N := some 36) (v := ?_) (a' := ?_) #[true, true, true, true, true, false, true, false, false, false, false, false, false, false, false] rfl rfl (take_ofW HT_.out HW_.out (by kernel_rfl)) (fun _ _ _ h => h) (Or.inl ⟨by rfl, ?_⟩) hHeld ?_ ?_
            rotate_left
            ·rintro w' ⟨s0, s1, s2, s3, s4, s5, s6, s7, s8, s9, s10⟩
             go_simp
             with_reducible rfl
            rotate_left
            ·simp only [Act.put, List.setIfInBounds_toArray, List.set_cons_zero, List.set_cons_succ, i64_w, i32_w]
             rfl
            refine take_ (i := 5) (N := some 39) (v := ?_) (a' := ?_) #[true, true, true, true, true, true, true, false, false, false, false, false, false, false, false] rfl rfl (take_ofW HT_.out HW_.out (by kernel_rfl)) (fun _ _ _ h => h) (Or.inl ⟨by rfl, ?_⟩) hHeld ?_ ?_
            rotate_left
            ·rintro w' ⟨s0, s1, s2, s3, s4, s5, s6, s7, s8, s9, s10⟩
             go_simp
             with_reducible rfl
            rotate_left
            ·simp only [Act.put, List.setIfInBounds_toArray, List.set_cons_zero, List.set_cons_succ, i64_w, i32_w]
             rfl
            refine pure_ (i := 7) (N := some 41) (v := ?_) (a' := ?_) #[true, true, true, true, true, true, true, true, false, false, false, false, false, false, false] rfl rfl (any_of HT_.out (by kernel_rfl)) (fun _ _ _ h => h) (Or.inl ⟨by rfl, ?_⟩) ?_ ?_
            rotate_left
            ·intro w'
             go_simp
             with_reducible rfl
            rotate_left
            ·simp only [Act.put, List.setIfInBounds_toArray, List.set_cons_zero, List.set_cons_succ, i64_w, i32_w]
             rfl
            refine pure_ (i := 8) (N := some 42) (v := ?_) (a' := ?_) #[true, true, true, true, true, true, true, true, true, false, false, false, false, false, false] rfl rfl (any_of HT_.out (by kernel_rfl)) (fun _ _ _ h => h) (Or.inl ⟨by rfl, ?_⟩) ?_ ?_
            rotate_left
            ·intro w'
             go_simp
             with_reducible rfl
            rotate_left
            ·simp only [Act.put, List.setIfInBounds_toArray, List.set_cons_zero, List.set_cons_succ, i64_w, i32_w]
             rfl
            refine take_ (i := 9) (N := some 43) (v := ?_) (a' := ?_) #[true, true, true, true, true, true, true, true, true, true, false, false, false, false, false] rfl rfl (take_ofW HT_.out HW_.out (by kernel_rfl)) (fun _ _ _ h => h) (Or.inl ⟨by rfl, ?_⟩) hHeld ?_ ?_
            rotate_left
            ·rintro w' ⟨s0, s1, s2, s3, s4, s5, s6, s7, s8, s9, s10⟩
             go_simp
             with_reducible rfl
            rotate_left
            ·simp only [Act.put, List.setIfInBounds_toArray, List.set_cons_zero, List.set_cons_succ, i64_w, i32_w]
             rfl
            refine pure_ (i := 10) (N := some 44) (v := ?_) (a' := ?_) #[true, true, true, true, true, true, true, true, true, true, true, false, false, false, false] rfl rfl (any_of HT_.out (by kernel_rfl)) (fun _ _ _ h => h) (Or.inl ⟨by rfl, ?_⟩) ?_ ?_
            rotate_left
            ·intro w'
             go_simp
             with_reducible rfl
            rotate_left
            ·simp only [Act.put, List.setIfInBounds_toArray, List.set_cons_zero, List.set_cons_succ, i64_w, i32_w]
             rfl
            refine one_ (i := 11) (N := some 45) #[true, true, true, true, true, true, true, true, true, true, true, true, false, false, false] rfl rfl (one_of HT_.out (by kernel_rfl)) (by decide) (fun K hK => ?_)
            refine goes_ Try.func34 (by kernel_rfl) rfl #[.agg #[.int .i64 a0_0, .slice (some ad257) l0_1.length c0_1], .agg #[.string ((rd_T48 l0_1 a1).f0), .int .i64 ((rd_T48 l0_1 a1).f1), .slice A257_2 ((rd_T48 l0_1 a1).f2).length c257_2, .slice (some ad259) ((rd_T48 l0_1 a1).f3).length c257_3, .slice A257_4 ((rd_T48 l0_1 a1).f4).length c257_4], .int .i64 (wrap64 (x7_2 + ((rd_T74 ((rd_T48 l0_1 a1).f3) x9_2).f2)))] (by rfl) rfl rfl (by (try simp only [List.map_toArray, List.map_cons, List.map_nil]); first | done | rfl | (simp only [List.length_drop, List.length_take]; rfl)) ?_
            with_reducible refine (cutroomref18_shown.calls k2 a0_0 _ _ l0_1 ((rd_T48 l0_1 a1).f0) ((rd_T48 l0_1 a1).f1) _ _ ((rd_T48 l0_1 a1).f2) _ _ ((rd_T48 l0_1 a1).f3) _ _ ((rd_T48 l0_1 a1).f4) (wrap64 (x7_2 + ((rd_T74 ((rd_T48 l0_1 a1).f3) x9_2).f2))) t260 _ ?side1 ?side2 ?side3 ?side4 ?side5 ?side6 ?side7 ?side8 A23.out).mono ?_
            (case side1 => repeat (first | exact (Kd.C_below HR0_1.out HB.out) | (with_reducible refine Kd.C_alloc ?_ _) | (with_reducible refine Kd.C_drewN ?_ _) | (with_reducible refine Kd.C_drew ?_)))
            (case side2 => exact HC0_1.out)
            (case side3 => repeat (first | exact (Kd.C_below HR257_2.out HB.out) | (with_reducible refine Kd.C_alloc ?_ _) | (with_reducible refine Kd.C_drewN ?_ _) | (with_reducible refine Kd.C_drew ?_)))
            (case side4 => exact HC257_2.out)
            (case side5 => repeat (first | exact (Kd.C_below HR257_3.out HB.out) | (with_reducible refine Kd.C_alloc ?_ _) | (with_reducible refine Kd.C_drewN ?_ _) | (with_reducible refine Kd.C_drew ?_)))
            (case side6 => exact HC257_3.out)
            (case side7 => repeat (first | exact (Kd.C_below HR257_4.out HB.out) | (with_reducible refine Kd.C_alloc ?_ _) | (with_reducible refine Kd.C_drewN ?_ _) | (with_reducible refine Kd.C_drew ?_)))
            (case side8 => exact HC257_4.out)
            rintro e w28 ⟨rfl, hb⟩
            refine ⟨_, rfl, ?_⟩
            have n0_ := Aside0.mk (Kd.R_below (by (with_reducible repeat (first | apply Kd.R_alloc | apply Kd.R_drewN | apply Kd.R_drew)); exact HO_6.out) hb)
            have n1_ := Aside0.mk (blk_below (g := gb255) (o := .cells #[.int .i64 a0_0, .slice (some ad257) l0_1.length c0_1] 37 (0, 0)) (by (with_reducible repeat (first | refine blk_drewN ?_ _ | refine blk_drew ?_ | refine blk_alloc ?_ _)); exact BK255.out) hb)
            have n2_ := Aside0.mk (blk_below (g := gb258) (o := .cells #[.string ((rd_T48 l0_1 a1).f0), .int .i64 ((rd_T48 l0_1 a1).f1), .slice A257_2 ((rd_T48 l0_1 a1).f2).length c257_2, .slice (some ad259) ((rd_T48 l0_1 a1).f3).length c257_3, .slice A257_4 ((rd_T48 l0_1 a1).f4).length c257_4] 48 (0, 0)) (by (with_reducible repeat (first | refine blk_drewN ?_ _ | refine blk_drew ?_ | refine blk_alloc ?_ _)); exact BK258.out) hb)
            have n3_ := Aside0.mk (below_step (by repeat (first | (with_reducible first | exact HB.out | apply below_alloc | apply pw_below_drewN | apply below_drew1 | refine below_set ?_ GE255.out | refine below_set ?_ GE258.out) | exact HB.out)) hb)
            clear HO_6
            clear BK255
            clear BK258
            clear HB
            have HO_6 := n0_
            have BK255 := n1_
            have BK258 := n2_
            have HB := n3_
            clear n0_ n1_ n2_ n3_
            (try clear hb)
            (try clear hb2)
            (try clear hk)
            (try clear hi)
            refine hK.out _ _ ⟨(blk_cell BK255.out 0).trans rfl, (blk_cell BK255.out 1).trans rfl, (blk_cell BK258.out 0).trans rfl, (blk_cell BK258.out 1).trans rfl, (blk_cell BK258.out 2).trans rfl, (blk_cell BK258.out 3).trans rfl, (blk_cell BK258.out 4).trans rfl, ((HB.out.cell (World.block_lt_of_cell? w _ hw259_0)).trans hw259_0), ((HB.out.cell (World.block_lt_of_cell? w _ hw259_1)).trans hw259_1), ((HB.out.cell (World.block_lt_of_cell? w _ hw259_2)).trans hw259_2), ((HB.out.cell (World.block_lt_of_cell? w _ hw259_3)).trans hw259_3)⟩ (fun hHeld => ?_)
            clear hK K
            refine norm_ (a' := ?_) ?_ ?_
            rotate_left
            ·show Act.put _ (some 45) _ = _
             simp only [Act.put, List.setIfInBounds_toArray, List.set_cons_zero, List.set_cons_succ, i64_w, i32_w]
             rfl
            refine one_ (i := 12) (N := some 46) #[true, true, true, true, true, true, true, true, true, true, true, true, true, false, false] rfl rfl (one_of HT_.out (by kernel_rfl)) (by decide) (fun K hK => ?_)
            refine value_ (w1 := ?_) (v := ?_) (by rfl) rfl ?_ ?_
            rotate_left 2
            ·go_simp
             constructor
             ·rfl
             ·rfl
            refine hK.out _ _ ⟨(blk_cell (blk_alloc BK255.out _) 0).trans rfl, (blk_cell (blk_alloc BK255.out _) 1).trans rfl, (blk_cell (blk_alloc BK258.out _) 0).trans rfl, (blk_cell (blk_alloc BK258.out _) 1).trans rfl, (blk_cell (blk_alloc BK258.out _) 2).trans rfl, (blk_cell (blk_alloc BK258.out _) 3).trans rfl, (blk_cell (blk_alloc BK258.out _) 4).trans rfl, (World.cell?_alloc_lt _ _ _ (World.block_lt_of_cell? _ _ (((HB.out.cell (World.block_lt_of_cell? w _ hw259_0)).trans hw259_0)))).trans (((HB.out.cell (World.block_lt_of_cell? w _ hw259_0)).trans hw259_0)), (World.cell?_alloc_lt _ _ _ (World.block_lt_of_cell? _ _ (((HB.out.cell (World.block_lt_of_cell? w _ hw259_1)).trans hw259_1)))).trans (((HB.out.cell (World.block_lt_of_cell? w _ hw259_1)).trans hw259_1)), (World.cell?_alloc_lt _ _ _ (World.block_lt_of_cell? _ _ (((HB.out.cell (World.block_lt_of_cell? w _ hw259_2)).trans hw259_2)))).trans (((HB.out.cell (World.block_lt_of_cell? w _ hw259_2)).trans hw259_2)), (World.cell?_alloc_lt _ _ _ (World.block_lt_of_cell? _ _ (((HB.out.cell (World.block_lt_of_cell? w _ hw259_3)).trans hw259_3)))).trans (((HB.out.cell (World.block_lt_of_cell? w _ hw259_3)).trans hw259_3))⟩ (fun hHeld => ?_)
            clear hK K
            refine norm_ (a' := ?_) ?_ ?_
            rotate_left
            ·show Act.put _ (some 46) _ = _
             simp only [Act.put, List.setIfInBounds_toArray, List.set_cons_zero, List.set_cons_succ, i64_w, i32_w]
             rfl
            refine one_ (i := 13) (N := some 47) #[true, true, true, true, true, true, true, true, true, true, true, true, true, true, false] rfl rfl (one_of HT_.out (by kernel_rfl)) (by decide) (fun K hK => ?_)
            refine Kd.R_append_step (Kd.int .i64) (w0 := w) w.heap.size (by rfl) (.tmp 34) (.tmp 46) 51 2 (.int .i64 0) 8 rfl Try.underlying51 info2 rfl (by decide) (by omega) u6 x6_2 t260 [.int .i64 t260] (fun _ => True) (fun _ => False) rfl rfl ?aP (fun _ hk => hk.elim) ?aF ?aO ?aB ?aS ?aL ?_
            (case aP => exact rfl)
            (case aB => exact (by repeat (first | (with_reducible first | exact HB.out | apply below_alloc | apply pw_below_drewN | apply below_drew1 | refine below_set ?_ GE255.out | refine below_set ?_ GE258.out) | exact HB.out)))
            (case aF => exact (fun _ _ => trivial))
            (case aO => exact (by (with_reducible repeat (first | apply Kd.R_alloc | apply Kd.R_drewN | apply Kd.R_drew)); exact HO_6.out))
            (case aS => exact (below_size (by repeat (first | (with_reducible first | exact HB.out | apply below_alloc | apply pw_below_drewN | apply below_drew1 | refine below_set ?_ GE255.out | refine below_set ?_ GE258.out) | exact HB.out))))
            (case aL => have := LMc24.out; omega)
            intro v262 w29 ho hb hg hat
            rw [← Ny261.out] at ho
            have n0_ := Aside0.mk (blk_grown (g := gb255) (o := .cells #[.int .i64 a0_0, .slice (some ad257) l0_1.length c0_1] 37 (0, 0)) (by (with_reducible repeat (first | refine blk_drewN ?_ _ | refine blk_drew ?_ | refine blk_alloc ?_ _)); exact BK255.out) hg (Kd.R_ne HO_6.out BK255.out (by decide)))
            have n1_ := Aside0.mk (blk_grown (g := gb258) (o := .cells #[.string ((rd_T48 l0_1 a1).f0), .int .i64 ((rd_T48 l0_1 a1).f1), .slice A257_2 ((rd_T48 l0_1 a1).f2).length c257_2, .slice (some ad259) ((rd_T48 l0_1 a1).f3).length c257_3, .slice A257_4 ((rd_T48 l0_1 a1).f4).length c257_4] 48 (0, 0)) (by (with_reducible repeat (first | refine blk_drewN ?_ _ | refine blk_drew ?_ | refine blk_alloc ?_ _)); exact BK258.out) hg (Kd.R_ne HO_6.out BK258.out (by decide)))
            have n2_ := Aside0.mk (hb)
            have n3_ := Aside0.mk (ho)
            clear BK255
            clear BK258
            clear HB
            clear HO_6
            have BK255 := n0_
            have BK258 := n1_
            have HB := n2_
            have HO263 := n3_
            clear n0_ n1_ n2_ n3_
            clear ho hb hg hat
            refine hK.out _ _ ⟨(blk_cell BK255.out 0).trans rfl, (blk_cell BK255.out 1).trans rfl, (blk_cell BK258.out 0).trans rfl, (blk_cell BK258.out 1).trans rfl, (blk_cell BK258.out 2).trans rfl, (blk_cell BK258.out 3).trans rfl, (blk_cell BK258.out 4).trans rfl, ((HB.out.cell (World.block_lt_of_cell? w _ hw259_0)).trans hw259_0), ((HB.out.cell (World.block_lt_of_cell? w _ hw259_1)).trans hw259_1), ((HB.out.cell (World.block_lt_of_cell? w _ hw259_2)).trans hw259_2), ((HB.out.cell (World.block_lt_of_cell? w _ hw259_3)).trans hw259_3)⟩ (fun hHeld => ?_)
            clear hK K
            refine norm_ (a' := ?_) ?_ ?_
            rotate_left
            ·show Act.put _ (some 47) _ = _
             simp only [Act.put, List.setIfInBounds_toArray, List.set_cons_zero, List.set_cons_succ, i64_w, i32_w]
             rfl
            refine pure_ (i := 14) (N := some 6) (v := ?_) (a' := ?_) #[true, true, true, true, true, true, true, true, true, true, true, true, true, true, true] rfl rfl (any_of HT_.out (by kernel_rfl)) (fun _ _ _ h => h) (Or.inl ⟨by rfl, ?_⟩) ?_ ?_
            rotate_left
            ·intro w'
             go_simp
             with_reducible rfl
            rotate_left
            ·simp only [Act.put, List.setIfInBounds_toArray, List.set_cons_zero, List.set_cons_succ, i64_w, i32_w]
             rfl
            refine done_ (done_of HT_.out (by kernel_rfl)) ?_
            have hcz30_0 : w29.cell? ⟨gb258, 0, none⟩ = some (.string ((rd_T48 l0_1 a1).f0)) := (blk_cell BK258.out 0).trans rfl
            have hcz30_1 : w29.cell? ⟨gb258, 1, none⟩ = some (.int .i64 ((rd_T48 l0_1 a1).f1)) := (blk_cell BK258.out 1).trans rfl
            have hcz30_2 : w29.cell? ⟨gb258, 2, none⟩ = some (.slice A257_2 ((rd_T48 l0_1 a1).f2).length c257_2) := (blk_cell BK258.out 2).trans rfl
            have hcz30_3 : w29.cell? ⟨gb258, 3, none⟩ = some (.slice (some ad259) ((rd_T48 l0_1 a1).f3).length c257_3) := (blk_cell BK258.out 3).trans rfl
            have hcz30_4 : w29.cell? ⟨gb258, 4, none⟩ = some (.slice A257_4 ((rd_T48 l0_1 a1).f4).length c257_4) := (blk_cell BK258.out 4).trans rfl
            have hfz30_0 := blk_frozen BK258.out 0
            have hfz30_1 := blk_frozen BK258.out 1
            have hfz30_2 := blk_frozen BK258.out 2
            have hfz30_3 := blk_frozen BK258.out 3
            have hfz30_4 := blk_frozen BK258.out 4
            have p264 : 0 ≤ (x9_2 : Int) := of_decide_eq_true (by first | (with_reducible assumption) | assumption)
            have q264 : x9_2 < (((rd_T48 l0_1 a1).f3).length : Int) := of_decide_eq_true (by first | (with_reducible assumption) | assumption)
            obtain ⟨ad264, A264_0, c264_0, e264, hx264_0, hx264_1, hx264_2, hx264_3, hl264_0, hi264_0⟩ := at_T74 HR257_3.out x9_2 p264 q264
            obtain rfl : ad259 = ad264 := (by injection e264)
            replace hx264_0 := (HB.out.cell (World.block_lt_of_cell? w _ hx264_0)).trans hx264_0
            replace hx264_1 := (HB.out.cell (World.block_lt_of_cell? w _ hx264_1)).trans hx264_1
            replace hx264_2 := (HB.out.cell (World.block_lt_of_cell? w _ hx264_2)).trans hx264_2
            replace hx264_3 := (HB.out.cell (World.block_lt_of_cell? w _ hx264_3)).trans hx264_3
            have HR264_0 := Aside0.mk hi264_0
            have HC264_0 := Aside0.mk hl264_0
            clear hi264_0 hl264_0
            replace p264 := eq_true p264
            replace q264 := eq_true q264
            try go_wp2
            go_roundg k2
            case measure => have := HJ4.out; have := HK2.out; omega
            case rel => exact ⟨(y261), (wrap64 (x7_2 + ((rd_T74 ((rd_T48 l0_1 a1).f3) x9_2).f1))), (wrap64 (x9_2 + 1)), (by first | rfl | (simp; done) | (simp [*]; done)), (by first | rfl | (simp; done) | (simp [*]; done)), H', ⟨by have := HJ4.out; have := HK2.out; omega⟩, ⟨by (with_reducible repeat (first | apply Kd.R_alloc | apply Kd.R_drewN | apply Kd.R_drew)); exact HO263.out⟩, ⟨by (with_reducible repeat (first | refine blk_drewN ?_ _ | refine blk_drew ?_ | refine blk_alloc ?_ _)); exact BK255.out⟩, ⟨by (with_reducible repeat (first | refine blk_drewN ?_ _ | refine blk_drew ?_ | refine blk_alloc ?_ _)); exact BK258.out⟩, ⟨by repeat (first | (with_reducible first | exact HB.out | apply below_alloc | apply pw_below_drewN | apply below_drew1 | refine below_set ?_ GE255.out | refine below_set ?_ GE258.out) | exact HB.out)⟩⟩
           ·rw [if_neg c24] at H
            exact absurd H (by simp)
          ·rw [if_neg c22] at H
           exact absurd H (by simp)
         ·rw [if_neg c21] at H
          have c21b0 : decide (x9_2 < (((rd_T48 l0_1 a1).f3).length : Int)) = false := decide_eq_false c21
          clear c21
          simp only [Option.some.injEq, Prod.mk.injEq] at H
          obtain ⟨rfl, rfl⟩ := H
          have hnb31 := NB258_255.out
          have hnc31 := NB255_258.out
          have hcz32_0 : wr.cell? ⟨gb258, 0, none⟩ = some (.string ((rd_T48 l0_1 a1).f0)) := (blk_cell BK258.out 0).trans rfl
          have hcz32_1 : wr.cell? ⟨gb258, 1, none⟩ = some (.int .i64 ((rd_T48 l0_1 a1).f1)) := (blk_cell BK258.out 1).trans rfl
          have hcz32_2 : wr.cell? ⟨gb258, 2, none⟩ = some (.slice A257_2 ((rd_T48 l0_1 a1).f2).length c257_2) := (blk_cell BK258.out 2).trans rfl
          have hcz32_3 : wr.cell? ⟨gb258, 3, none⟩ = some (.slice A257_3 ((rd_T48 l0_1 a1).f3).length c257_3) := (blk_cell BK258.out 3).trans rfl
          have hcz32_4 : wr.cell? ⟨gb258, 4, none⟩ = some (.slice A257_4 ((rd_T48 l0_1 a1).f4).length c257_4) := (blk_cell BK258.out 4).trans rfl
          have hfz32_0 := blk_frozen BK258.out 0
          have hfz32_1 := blk_frozen BK258.out 1
          have hfz32_2 := blk_frozen BK258.out 2
          have hfz32_3 := blk_frozen BK258.out 3
          have hfz32_4 := blk_frozen BK258.out 4
          go_wp2
          go_ret2
          exact ⟨_, by first | rfl | (simp [errW_none, errW_some] <;> rfl) | (simp [*, errW_none, errW_some] <;> rfl), by (with_reducible repeat (first | apply Kd.R_alloc | apply Kd.R_drewN | apply Kd.R_drew)); exact HO_6.out, by repeat (first | (with_reducible first | exact HB.out | apply below_alloc | apply pw_below_drewN | apply below_drew1 | refine below_set ?_ GE255.out | refine below_set ?_ GE258.out) | exact HB.out)⟩
      ·rw [if_neg c13] at H
       exact absurd H (by simp)
     ·rw [if_neg c12] at H
      exact absurd H (by simp)
 ·replace c4 := Bool.eq_false_iff.mpr c4
  subst c4
  have H1 : (some (([] : List Int), 1)) = some (r1, r2) := by rw [if_neg (show ¬ (false = true) by decide)] at H; exact H
  clear H
  have H := H1
  clear H1
  simp only [Option.some.injEq, Prod.mk.injEq] at H
  obtain ⟨rfl, rfl⟩ := H
  go_enter Try.func19, Try.ntmps19
  go_wp2_with (first | ((with_reducible refine gate_dst (N := 2) rfl ?_); (try (refine gate_guard (by rfl) ?_; dsimp only)); refine box_event ?hg (N := 2) ?hd (cs := #[.int .i64 a0_0, .slice A0_1 l0_1.length c0_1]) (t := 37) ?hr ?_; (case hd => rfl); (case hg => rfl); (case hr => first | (go_simp; done) | (go_simp; rfl)); intro gb255 hg w33 hbox hb; have n0_ := Aside0.mk (below_step (by repeat (first | (with_reducible first | exact HB.out | apply below_alloc | apply pw_below_drewN | apply below_drew1) | exact HB.out)) hb); have n1_ := Aside0.mk (hbox); have n2_ := Aside0.mk ((by rw [hg]; exact (below_size (by repeat (first | (with_reducible first | exact HB.out | apply below_alloc | apply pw_below_drewN | apply below_drew1) | exact HB.out))) : w.heap.size ≤ gb255)); have n3_ := Aside0.mk ((by rw [hg]; exact (below_size (by repeat (first | (with_reducible first | exact HB.out | apply below_alloc | apply pw_below_drewN | apply below_drew1) | exact HB.out))) : w.heap.size ≤ gb255)); clear HB; have HB := n0_; have BK255 := n1_; have GW255 := n2_; have GE255 := n3_; clear n0_ n1_ n2_ n3_; clear hb hbox hg; have hcz34_0 : w33.cell? ⟨gb255, 0, none⟩ = some (.int .i64 a0_0) := (blk_cell BK255.out 0).trans rfl; have hcz34_1 : w33.cell? ⟨gb255, 1, none⟩ = some (.slice A0_1 l0_1.length c0_1) := (blk_cell BK255.out 1).trans rfl; have hfz34_0 := blk_frozen BK255.out 0; have hfz34_1 := blk_frozen BK255.out 1) | ((with_reducible refine gate_callee (f := 20) rfl ?_); refine goesL_ (some 11) rfl rfl Try.func20 (by kernel_rfl) rfl #[.agg #[.int .i64 a0_0, .slice A0_1 l0_1.length c0_1]] rfl (by (try simp only [List.map_toArray, List.map_cons, List.map_nil]); first | done | rfl | (simp only [List.length_drop, List.length_take]; rfl)) ?_; (with_reducible refine (cutroomref18_Valid.calls k a0_0 _ _ l0_1 false _ ?side1 ?side2 A3.out).mono ?_); (case side1 => repeat (first | exact (Kd.C_below HR0_1.out HB.out) | (with_reducible refine Kd.C_alloc ?_ _) | (with_reducible refine Kd.C_drewN ?_ _) | (with_reducible refine Kd.C_drew ?_))); (case side2 => exact HC0_1.out); rintro e w35 ⟨rfl, hb⟩; refine ⟨_, rfl, ?_⟩; have n0_ := Aside0.mk (blk_below (g := gb255) (o := .cells #[.int .i64 a0_0, .slice A0_1 l0_1.length c0_1] 37 (0, 0)) (by (with_reducible repeat (first | refine blk_drewN ?_ _ | refine blk_drew ?_ | refine blk_alloc ?_ _)); exact BK255.out) hb); have n1_ := Aside0.mk (below_step (by repeat (first | (with_reducible first | exact HB.out | apply below_alloc | apply pw_below_drewN | apply below_drew1 | refine below_set ?_ GE255.out) | exact HB.out)) hb); clear BK255; clear HB; have BK255 := n0_; have HB := n1_; clear n0_ n1_; (try clear hb); (try clear hb2); (try clear hk); (try clear hi)))
  go_ret2
  exact ⟨_, by first | rfl | (simp [errW_none, errW_some] <;> rfl) | (simp [*, errW_none, errW_some] <;> rfl), by first | exact Kd.R_nil _ _ _ _ _ | exact Kd.N_nil _ _ _ _ _ | exact Kd.V_nil _ _ _ _ _ | exact Kd.Q_nil _ _ _ _ _ | exact Kd.S_nil _ _ _ _ _, by repeat (first | (with_reducible first | exact HB.out | apply below_alloc | apply pw_below_drewN | apply below_drew1 | refine below_set ?_ GE255.out) | exact HB.out)⟩

end Go.Proofs.Ytbpmkcgpgdbbkaa.P
