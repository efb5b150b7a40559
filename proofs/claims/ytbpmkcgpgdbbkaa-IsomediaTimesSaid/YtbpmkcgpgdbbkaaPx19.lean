-- Written by this session's own program (wip/tools/myprint.py), which runs the kit's print with turns of its own: not a text of the kit's print.sh.
import Derived.Test.YtbpmkcgpgdbbkaaPx0
import Derived.Test.YtbpmkcgpgdbbkaaPx16
namespace Go.Proofs.Ytbpmkcgpgdbbkaa.P
open Go.RowKit Go.Proofs.YtbpmkcgpgdbbkaaW.PrintWords Go.Proofs.YtbpmkcgpgdbbkaaW.PrintLast Go.Proofs.YtbpmkcgpgdbbkaaW.PrintMore
attribute [local go_sem] max2_int min2_int max_two min_two max_three min_three max_four min_four   -- for this text's walks alone
set_option linter.unusedVariables false
set_option linter.unusedSimpArgs false

/-! ### cutroomlaw18_given: function 18 -/
def cutroomlaw18_given.l0 : Nat → Int → Int → List (S48) → Int → List (S43) → Option (Int × (List (S43)))
 | 0, _, _, _, _, _ => none
 | k + 1, x4, x230000, x230001, x232000, x232001 => if x4 < (x230001.length : Int) then (if 0 ≤ x4 then ((cutroomlaw18_track.f k ((rd_T48 x230001 x4).f0) ((rd_T48 x230001 x4).f1) ((rd_T48 x230001 x4).f2) ((rd_T48 x230001 x4).f3) ((rd_T48 x230001 x4).f4)).bind fun bt233 => (if x232001.length < 1466015503701 then (cutroomlaw18_given.l0 k (wrap64 (x4 + 1)) x230000 x230001 x232000 (x232001 ++ [(⟨bt233.1, bt233.2.1, bt233.2.2.1, bt233.2.2.2.1, bt233.2.2.2.2⟩ : S43)])) else (none))) else (none)) else (some (x232000, x232001))
def cutroomlaw18_given.f (k : Nat) (a0_0 : Int) (l0_1 : List (S48)) : Option (Int × (List (S43))) := cutroomlaw18_given.l0 k 0 a0_0 l0_1 a0_0 ([] : List (S43))
theorem cutroomlaw18_given.mono_l : ∀ k, (∀ y0 y1 y2 y3 y4, LeO (cutroomlaw18_given.l0 k y0 y1 y2 y3 y4) (cutroomlaw18_given.l0 (k + 1) y0 y1 y2 y3 y4))
 | 0 => fun _ _ _ _ _ r h => by simp [cutroomlaw18_given.l0] at h
 | k + 1 => by
  have ih0 := cutroomlaw18_given.mono_l k
  ·intro y0 y1 y2 y3 y4
   unfold cutroomlaw18_given.l0
   repeat' first
   | (with_reducible exact ih0 _ _ _ _ _)
   | (with_reducible exact cutroomlaw18_track.mono _ _ _ _ _ _)
   | (with_reducible exact LeO.refl _)
   | (with_reducible exact LeO.none _)
   | (with_reducible refine LeO.ite ?_ ?_)
   | (with_reducible refine LeO.bind ?_ (fun _ => ?_))
   | exact ih0 _ _ _ _ _
   | exact cutroomlaw18_track.mono _ _ _ _ _ _
   | exact LeO.none _
   | refine LeO.ite ?_ ?_
   | refine LeO.bind ?_ (fun _ => ?_)
theorem cutroomlaw18_given.mono : ∀ a0 a1 k, LeO (cutroomlaw18_given.f k a0 a1) (cutroomlaw18_given.f (k + 1) a0 a1) := by
 intro a0 a1 k
 have ih0 := cutroomlaw18_given.mono_l k
 unfold cutroomlaw18_given.f
 repeat' first
   | (with_reducible exact ih0 _ _ _ _ _)
   | (with_reducible exact cutroomlaw18_track.mono _ _ _ _ _ _)
   | (with_reducible exact LeO.refl _)
   | (with_reducible exact LeO.none _)
   | (with_reducible refine LeO.ite ?_ ?_)
   | (with_reducible refine LeO.bind ?_ (fun _ => ?_))
   | exact ih0 _ _ _ _ _
   | exact cutroomlaw18_track.mono _ _ _ _ _ _
   | exact LeO.none _
   | refine LeO.ite ?_ ?_
   | refine LeO.bind ?_ (fun _ => ?_)
def cutroomlaw18_given.T5 : Bool × List (List Nat × List Nat) := (true, [([], []), ([0], [0]), ([], []), ([2], [2]), ([], []), ([3, 4], [3, 4]), ([5], [5]), ([6], [6]), ([7], [7]), ([1, 8, 7], [1, 8]), ([0, 1, 2, 3, 4, 5, 6, 7, 8, 9], []), ([10, 9, 9, 0, 1, 2, 3, 4, 5, 6, 7, 8, 9], [9, 10])])
def cutroomlaw18_given.B5 : List Nat := [0, 1, 0, 4, 0, 28, 60, 124, 252, 511, 1023, 2047]
theorem cutroomlaw18_given.tab5 : rtab .any (opsOf Try.f18 5) = cutroomlaw18_given.T5 := by kernel_rfl
theorem cutroomlaw18_given.bits5 : waitsOk cutroomlaw18_given.T5.2 cutroomlaw18_given.B5 = true := by kernel_rfl
set_option maxHeartbeats 8000000 in
set_option maxRecDepth 100000 in
theorem cutroomlaw18_given.calls (k : Nat) (a0_0 : Int) (P0_1_ : Nat → Prop) (A0_1 : Option Addr) (c0_1 : Nat) (l0_1 : List (S48)) (r1 : Int) (r2 : List (S43)) (w : World) (hs0_1 : Kd.V k48 48 w w.heap.size (fun k_ => P0_1_ k_) (.slice A0_1 l0_1.length c0_1) l0_1) (h : cutroomlaw18_given.f k a0_0 l0_1 = some (r1, r2)) :
  Calls Try.prog 18 #[.agg #[.int .i64 a0_0, .slice A0_1 l0_1.length c0_1]] w fun e w' => ∃ v1_ : Value, e = .returned (.agg #[.int .i64 r1, v1_]) ∧ Kd.N k43 43 w' w.heap.size (fun k_ => (P0_1_ k_ ∨ w.heap.size ≤ k_)) v1_ r2 ∧ Below w.heap.size w w' := by
 have hu37 := Try.underlying37
 have hu56 := Try.underlying56
 have hu48 := Try.underlying48
 have HO0_1 := Aside0.mk (show Kd.V k48 48 w w.heap.size (fun k_ => (P0_1_ k_ ∨ w.heap.size ≤ k_)) (.slice A0_1 l0_1.length c0_1) l0_1 from Kd.V_mono hs0_1 (fun k_ hk => .inl hk))
 have HB := Aside0.mk (Below.refl w.heap.size w)
 have H : (cutroomlaw18_given.l0 k 0 a0_0 l0_1 a0_0 ([] : List (S43))) = some (r1, r2) := h
 clear h
 have H' := Aside0.mk H
 clear H
 go_enter Try.func18, Try.ntmps18
 go_wp2_with (first | ((with_reducible refine gate_dst (N := 1) rfl ?_); refine box_event ?hg (N := 1) ?hd (cs := #[.int .i64 a0_0, .slice A0_1 l0_1.length c0_1]) (t := 37) ?hr ?_; (case hd => rfl); (case hg => rfl); (case hr => first | (go_simp; done) | (go_simp; rfl)); intro gb229 hg w2 hbox hb; have n0_ := Aside0.mk (Kd.V_below (Kd.V_elderB (by (with_reducible repeat (first | apply Kd.V_alloc | apply Kd.V_drewN | apply Kd.V_drew)); exact HO0_1.out) gb229 (Nat.le_of_eq hg.symm)) hb); have n1_ := Aside0.mk (below_step (by repeat (first | (with_reducible first | exact HB.out | apply below_alloc | apply pw_below_drewN | apply below_drew1) | exact HB.out)) hb); have n2_ := Aside0.mk (hbox); have n3_ := Aside0.mk ((by rw [hg]; exact (below_size (by repeat (first | (with_reducible first | exact HB.out | apply below_alloc | apply pw_below_drewN | apply below_drew1) | exact HB.out))) : w.heap.size ≤ gb229)); have n4_ := Aside0.mk ((by rw [hg]; exact (below_size (by repeat (first | (with_reducible first | exact HB.out | apply below_alloc | apply pw_below_drewN | apply below_drew1) | exact HB.out))) : w.heap.size ≤ gb229)); clear HO0_1; clear HB; have HO0_1 := n0_; have HB := n1_; have BK229 := n2_; have GW229 := n3_; have GE229 := n4_; clear n0_ n1_ n2_ n3_ n4_; clear hb hbox hg) | ((with_reducible refine gate_dst (N := 2) rfl ?_); refine box_event ?hg (N := 2) ?hd (cs := #[.int .i64 0, .slice none 0 0]) (t := 56) ?hr ?_; (case hd => rfl); (case hg => rfl); (case hr => first | (go_simp; done) | (go_simp; rfl)); intro gb230 hg w3 hbox hb; have n0_ := Aside0.mk (Kd.V_below (Kd.V_elderB (by (with_reducible repeat (first | apply Kd.V_alloc | apply Kd.V_drewN | apply Kd.V_drew)); exact HO0_1.out) gb230 (Nat.le_of_eq hg.symm)) hb); have n1_ := Aside0.mk (blk_below (g := gb229) (o := .cells #[.int .i64 a0_0, .slice A0_1 l0_1.length c0_1] 37 (0, 0)) (by (with_reducible repeat (first | refine blk_drewN ?_ _ | refine blk_drew ?_ | refine blk_alloc ?_ _)); exact BK229.out) hb); have n2_ := Aside0.mk (below_step (by repeat (first | (with_reducible first | exact HB.out | apply below_alloc | apply pw_below_drewN | apply below_drew1 | refine below_set ?_ GE229.out) | exact HB.out)) hb); have n3_ := Aside0.mk (hbox); have n4_ := Aside0.mk ((by rw [hg]; exact (below_size (by repeat (first | (with_reducible first | exact HB.out | apply below_alloc | apply pw_below_drewN | apply below_drew1 | refine below_set ?_ GE229.out) | exact HB.out))) : w.heap.size ≤ gb230)); have n5_ := Aside0.mk ((by rw [hg]; exact (below_size (by repeat (first | (with_reducible first | exact HB.out | apply below_alloc | apply pw_below_drewN | apply below_drew1 | refine below_set ?_ GE229.out) | exact HB.out))) : w.heap.size ≤ gb230)); have n6_ := Aside0.mk ((by rw [hg]; exact Nat.ne_of_lt (blk_lt (g := gb229) (o := .cells #[.int .i64 a0_0, .slice A0_1 l0_1.length c0_1] 37 (0, 0)) (by (with_reducible repeat (first | refine blk_drewN ?_ _ | refine blk_drew ?_ | refine blk_alloc ?_ _)); exact BK229.out)) : gb229 ≠ gb230)); have n7_ := Aside0.mk ((by rw [hg]; exact Nat.ne_of_gt (blk_lt (g := gb229) (o := .cells #[.int .i64 a0_0, .slice A0_1 l0_1.length c0_1] 37 (0, 0)) (by (with_reducible repeat (first | refine blk_drewN ?_ _ | refine blk_drew ?_ | refine blk_alloc ?_ _)); exact BK229.out)) : gb230 ≠ gb229)); clear HO0_1; clear BK229; clear HB; have HO0_1 := n0_; have BK229 := n1_; have HB := n2_; have BK230 := n3_; have GW230 := n4_; have GE230 := n5_; have NB229_230 := n6_; have NB230_229 := n7_; clear n0_ n1_ n2_ n3_ n4_ n5_ n6_ n7_; clear hb hbox hg; have hnb4 := NB229_230.out; have hnc4 := NB230_229.out; have hcz5_0 : w3.cell? ⟨gb229, 0, none⟩ = some (.int .i64 a0_0) := (blk_cell BK229.out 0).trans rfl; have hcz5_1 : w3.cell? ⟨gb229, 1, none⟩ = some (.slice A0_1 l0_1.length c0_1) := (blk_cell BK229.out 1).trans rfl; have hfz5_0 := blk_frozen BK229.out 0; have hfz5_1 := blk_frozen BK229.out 1) | ((with_reducible refine gate_dst (N := 3) rfl ?_); refine box_event ?hg (N := 3) ?hd (cs := #[.int .i64 0, .slice none 0 0]) (t := 56) ?hr ?_; (case hd => rfl); (case hg => rfl); (case hr => first | (go_simp; done) | (go_simp; rfl)); intro gb231 hg w6 hbox hb; have n0_ := Aside0.mk (Kd.V_below (Kd.V_elderB (by (with_reducible repeat (first | apply Kd.V_alloc | apply Kd.V_drewN | apply Kd.V_drew)); exact HO0_1.out) gb231 (Nat.le_of_eq hg.symm)) hb); have n1_ := Aside0.mk (blk_below (g := gb229) (o := .cells #[.int .i64 a0_0, .slice A0_1 l0_1.length c0_1] 37 (0, 0)) (by (with_reducible repeat (first | refine blk_drewN ?_ _ | refine blk_drew ?_ | refine blk_alloc ?_ _)); exact BK229.out) hb); have n2_ := Aside0.mk (blk_below (g := gb230) (o := .cells #[.int .i64 0, .slice none 0 0] 56 (0, 0)) (by (with_reducible repeat (first | refine blk_drewN ?_ _ | refine blk_drew ?_ | refine blk_alloc ?_ _)); exact BK230.out) hb); have n3_ := Aside0.mk (below_step (by repeat (first | (with_reducible first | exact HB.out | apply below_alloc | apply pw_below_drewN | apply below_drew1 | refine below_set ?_ GE229.out | refine below_set ?_ GE230.out) | exact HB.out)) hb); have n4_ := Aside0.mk (hbox); have n5_ := Aside0.mk ((by rw [hg]; exact (below_size (by repeat (first | (with_reducible first | exact HB.out | apply below_alloc | apply pw_below_drewN | apply below_drew1 | refine below_set ?_ GE229.out | refine below_set ?_ GE230.out) | exact HB.out))) : w.heap.size ≤ gb231)); have n6_ := Aside0.mk ((by rw [hg]; exact (below_size (by repeat (first | (with_reducible first | exact HB.out | apply below_alloc | apply pw_below_drewN | apply below_drew1 | refine below_set ?_ GE229.out | refine below_set ?_ GE230.out) | exact HB.out))) : w.heap.size ≤ gb231)); have n7_ := Aside0.mk ((by rw [hg]; exact Nat.ne_of_lt (blk_lt (g := gb229) (o := .cells #[.int .i64 a0_0, .slice A0_1 l0_1.length c0_1] 37 (0, 0)) (by (with_reducible repeat (first | refine blk_drewN ?_ _ | refine blk_drew ?_ | refine blk_alloc ?_ _)); exact BK229.out)) : gb229 ≠ gb231)); have n8_ := Aside0.mk ((by rw [hg]; exact Nat.ne_of_gt (blk_lt (g := gb229) (o := .cells #[.int .i64 a0_0, .slice A0_1 l0_1.length c0_1] 37 (0, 0)) (by (with_reducible repeat (first | refine blk_drewN ?_ _ | refine blk_drew ?_ | refine blk_alloc ?_ _)); exact BK229.out)) : gb231 ≠ gb229)); have n9_ := Aside0.mk ((by rw [hg]; exact Nat.ne_of_lt (blk_lt (g := gb230) (o := .cells #[.int .i64 0, .slice none 0 0] 56 (0, 0)) (by (with_reducible repeat (first | refine blk_drewN ?_ _ | refine blk_drew ?_ | refine blk_alloc ?_ _)); exact BK230.out)) : gb230 ≠ gb231)); have n10_ := Aside0.mk ((by rw [hg]; exact Nat.ne_of_gt (blk_lt (g := gb230) (o := .cells #[.int .i64 0, .slice none 0 0] 56 (0, 0)) (by (with_reducible repeat (first | refine blk_drewN ?_ _ | refine blk_drew ?_ | refine blk_alloc ?_ _)); exact BK230.out)) : gb231 ≠ gb230)); clear HO0_1; clear BK229; clear BK230; clear HB; have HO0_1 := n0_; have BK229 := n1_; have BK230 := n2_; have HB := n3_; have BK231 := n4_; have GW231 := n5_; have GE231 := n6_; have NB229_231 := n7_; have NB231_229 := n8_; have NB230_231 := n9_; have NB231_230 := n10_; clear n0_ n1_ n2_ n3_ n4_ n5_ n6_ n7_ n8_ n9_ n10_; clear hb hbox hg; have hnb7 := NB231_229.out; have hnc7 := NB229_231.out; have hnb8 := NB231_230.out; have hnc8 := NB230_231.out; have hcz9_0 : w6.cell? ⟨gb231, 0, none⟩ = some (.int .i64 0) := (blk_cell BK231.out 0).trans rfl; have hcz9_1 : w6.cell? ⟨gb231, 1, none⟩ = some (.slice none 0 0) := (blk_cell BK231.out 1).trans rfl; have hfz9_0 := blk_frozen BK231.out 0; have hfz9_1 := blk_frozen BK231.out 1))
 go_loopg [4] k (fun kq v4 w' => ∃ (x4_1 : Int) (x232001_1 : List (S43)) (u232001 : Value), v4 = .int .i64 x4_1 ∧ Aside0 (cutroomlaw18_given.l0 kq x4_1 a0_0 l0_1 a0_0 x232001_1 = some (r1, r2)) ∧ Aside0 (kq ≤ k) ∧ Aside0 (Kd.V k48 48 w' w.heap.size (fun k_ => (P0_1_ k_ ∨ w.heap.size ≤ k_) ∧ some k_ ≠ (u232001 : Value).ownBlock ∧ k_ ≠ gb229 ∧ k_ ≠ gb230 ∧ k_ ≠ gb231) (.slice A0_1 l0_1.length c0_1) l0_1) ∧ Aside0 (Kd.N k43 43 w' w.heap.size (fun k_ => (P0_1_ k_ ∨ w.heap.size ≤ k_) ∧ k_ ≠ gb229 ∧ k_ ≠ gb230 ∧ k_ ≠ gb231) u232001 x232001_1) ∧ Aside0 (w'.heap[gb229]? = some (.cells #[.int .i64 a0_0, (.slice A0_1 l0_1.length c0_1)] 37 (0, 0))) ∧ Aside0 (w'.heap[gb230]? = some (.cells #[.int .i64 0, (.slice none 0 0)] 56 (0, 0))) ∧ Aside0 (w'.heap[gb231]? = some (.cells #[.int .i64 a0_0, u232001] 56 (0, 0))) ∧ Aside0 (Below w.heap.size w w'))
 case atStart => exact ⟨(0), (([] : List (S43))), (.slice none 0 0), (by first | rfl | (simp; done) | (simp [*]; done)), H', ⟨Nat.le_refl _⟩, ⟨by (with_reducible repeat (first | apply Kd.V_alloc | apply Kd.V_drewN | apply Kd.V_drew)); exact Kd.V_mono (Kd.V_far (p := ⟨gb231, 1, none⟩) (Kd.V_far (p := ⟨gb231, 0, none⟩) (Kd.V_mono HO0_1.out (fun k_ hk => (⟨hk, hk.2⟩ : _ ∧ k_ ≠ gb231))) (fun _ hk => hk.2) (.int .i64 a0_0)) (fun _ hk => hk.2) (.slice none 0 0)) (fun _ hk => ⟨hk.1.1.1.1, ⟨(by simp [Value.ownBlock]), ⟨hk.1.1.1.2, ⟨hk.1.1.2, hk.1.2⟩⟩⟩⟩)⟩, ⟨by first | exact Kd.R_nil _ _ _ _ _ | exact Kd.N_nil _ _ _ _ _ | exact Kd.V_nil _ _ _ _ _ | exact Kd.Q_nil _ _ _ _ _ | exact Kd.S_nil _ _ _ _ _⟩, ⟨by (with_reducible repeat (first | refine blk_drewN ?_ _ | refine blk_drew ?_ | refine blk_alloc ?_ _)); refine blk_far ?_ NB229_231.out _; (with_reducible repeat (first | refine blk_drewN ?_ _ | refine blk_drew ?_ | refine blk_alloc ?_ _)); refine blk_far ?_ NB229_231.out _; (with_reducible repeat (first | refine blk_drewN ?_ _ | refine blk_drew ?_ | refine blk_alloc ?_ _)); exact BK229.out⟩, ⟨by (with_reducible repeat (first | refine blk_drewN ?_ _ | refine blk_drew ?_ | refine blk_alloc ?_ _)); refine blk_far ?_ NB230_231.out _; (with_reducible repeat (first | refine blk_drewN ?_ _ | refine blk_drew ?_ | refine blk_alloc ?_ _)); refine blk_far ?_ NB230_231.out _; (with_reducible repeat (first | refine blk_drewN ?_ _ | refine blk_drew ?_ | refine blk_alloc ?_ _)); exact BK230.out⟩, ⟨by (with_reducible repeat (first | refine blk_drewN ?_ _ | refine blk_drew ?_ | refine blk_alloc ?_ _)); refine blk_put (cs := #[.int .i64 a0_0, .slice none 0 0]) ?_ 1 _ rfl; (with_reducible repeat (first | refine blk_drewN ?_ _ | refine blk_drew ?_ | refine blk_alloc ?_ _)); refine blk_put (cs := #[.int .i64 0, .slice none 0 0]) ?_ 0 _ rfl; (with_reducible repeat (first | refine blk_drewN ?_ _ | refine blk_drew ?_ | refine blk_alloc ?_ _)); exact BK231.out⟩, ⟨by repeat (first | (with_reducible first | exact HB.out | apply below_alloc | apply pw_below_drewN | apply below_drew1 | refine below_set ?_ GE229.out | refine below_set ?_ GE230.out | refine below_set ?_ GE231.out) | exact HB.out)⟩⟩
 case round =>
  clear H'
  (try clear c1);(try clear p2);(try clear c4);(try clear c7);(try clear c8);(try clear hcz5_0);(try clear hcz5_1);(try clear hcz9_0);(try clear hcz9_1);(try clear hfz5_0);(try clear hfz5_1);(try clear hfz9_0);(try clear hfz9_1)
  obtain ⟨x4_1, x232001_1, u232001, rfl, HA, HK1, HO_230001, HO_232001, BK229, BK230, BK231, HB⟩ := hrel
  cases gk with
  | zero => exact absurd HA.out (by simp [cutroomlaw18_given.l0])
  | succ k1 =>
   have H := HA.out
   clear HA
   simp only [cutroomlaw18_given.l0] at H
   by_cases c10 : x4_1 < (l0_1.length : Int)
   ·rw [if_pos c10] at H
    have c10b0 : decide (x4_1 < (l0_1.length : Int)) = true := decide_eq_true c10
    clear c10
    by_cases c11 : 0 ≤ x4_1
    ·rw [if_pos c11] at H
     have c11b0 : decide (0 ≤ x4_1) = true := decide_eq_true c11
     clear c11
     replace H := Option.bind_eq_some_iff.mp H
     obtain ⟨⟨t233, t234, t235, t238, t241⟩, A120, H⟩ := H
     replace H : (if x232001_1.length < 1466015503701 then (cutroomlaw18_given.l0 k1 (wrap64 (x4_1 + 1)) a0_0 l0_1 a0_0 (x232001_1 ++ [(⟨t233, t234, t235, t238, t241⟩ : S43)])) else (none)) = some (r1, r2) := H
     have A12 := Aside0.mk A120
     clear A120
     by_cases c13 : x232001_1.length < 1466015503701
     ·rw [if_pos c13] at H
      have LMc13 := Aside0.mk c13
      clear c13
      obtain ⟨y244, hy244⟩ : ∃ y_ : List (S43), y_ = (x232001_1 ++ [(⟨t233, t234, t235, t238, t241⟩ : S43)]) := ⟨_, rfl⟩
      replace H : (cutroomlaw18_given.l0 k1 (wrap64 (x4_1 + 1)) a0_0 l0_1 a0_0 y244) = some (r1, r2) := by first | (rw [hy244]; with_reducible exact H) | (have H2_ := (Option.bind_some _ _).symm.trans H; rw [hy244]; with_reducible exact H2_) | (have H2_ := (Option.bind_some _ _).symm.trans H; with_reducible exact H2_) | with_reducible exact H | (rw [hy244]; exact H) | exact H
      have Ny244 := Aside0.mk hy244
      clear hy244
      have H' := Aside0.mk H
      clear H
      have hnb14 := NB229_230.out
      have hnc14 := NB230_229.out
      have hnb15 := NB229_231.out
      have hnc15 := NB231_229.out
      have hcz16_0 : wr.cell? ⟨gb229, 0, none⟩ = some (.int .i64 a0_0) := (blk_cell BK229.out 0).trans rfl
      have hcz16_1 : wr.cell? ⟨gb229, 1, none⟩ = some (.slice A0_1 l0_1.length c0_1) := (blk_cell BK229.out 1).trans rfl
      have hfz16_0 := blk_frozen BK229.out 0
      have hfz16_1 := blk_frozen BK229.out 1
      try go_wp2
      have n0_ := Aside0.mk (Kd.V_drew HO_230001.out)
      have n1_ := Aside0.mk (Kd.N_drew HO_232001.out)
      have n2_ := Aside0.mk (blk_drew BK229.out)
      have n3_ := Aside0.mk (blk_drew BK230.out)
      have n4_ := Aside0.mk (blk_drew BK231.out)
      have n5_ := Aside0.mk (below_drew1 HB.out)
      clear HO_230001
      clear HO_232001
      clear BK229
      clear BK230
      clear BK231
      clear HB
      have HO_230001 := n0_
      have HO_232001 := n1_
      have BK229 := n2_
      have BK230 := n3_
      have BK231 := n4_
      have HB := n5_
      clear n0_ n1_ n2_ n3_ n4_ n5_
      have p232 : 0 ≤ (x4_1 : Int) := of_decide_eq_true (by first | (with_reducible assumption) | assumption)
      have q232 : x4_1 < (l0_1.length : Int) := of_decide_eq_true (by first | (with_reducible assumption) | assumption)
      obtain ⟨ad232, A232_2, c232_2, A232_3, c232_3, A232_4, c232_4, e232, hx232_0, hx232_1, hx232_2, hx232_3, hx232_4, hl232_2, hi232_2, hl232_3, hi232_3, hl232_4, hi232_4⟩ := at_T48 (Kd.V_reads' HO_230001.out).2.2 x4_1 p232 q232
      cases e232
      obtain ⟨ce232, hce232, hMe232, hcc232⟩ := Kd.V_get HO_230001.out z48 x4_1 p232 (by first | exact q232 | exact of_decide_eq_true (by first | (with_reducible assumption) | assumption) | (have e_ := (Kd.V_reads' HO_230001.out).1; omega))
      obtain ⟨ua232_2, uc232_2, ua232_3, uc232_3, ua232_4, uc232_4, rfl, ul232_2, ge232_2, ul232_3, ge232_3, ul232_4, ge232_4⟩ := k48_openF hMe232
      have hv232_2 := hcc232 2 _ rfl
      rw [add_field _ _ 2 (by omega)] at hv232_2
      replace hv232_2 := Option.some.inj (hv232_2.symm.trans hx232_2)
      injection hv232_2 with hva_ hvn_ hvc_
      rw [hva_] at ge232_2
      rw [hvc_] at ul232_2
      have HL232_2 := Aside0.mk (show Kd.V (Kd.int .u8) 5 _ w.heap.size _ _ ((rd_T48 l0_1 x4_1).f2) from Kd.V_mk ul232_2 ge232_2)
      clear hva_ hvn_ hvc_ ge232_2 ul232_2
      have hv232_3 := hcc232 3 _ rfl
      rw [add_field _ _ 3 (by omega)] at hv232_3
      replace hv232_3 := Option.some.inj (hv232_3.symm.trans hx232_3)
      injection hv232_3 with hva_ hvn_ hvc_
      rw [hva_] at ge232_3
      rw [hvc_] at ul232_3
      have HL232_3 := Aside0.mk (show Kd.V k74 74 _ w.heap.size _ _ ((rd_T48 l0_1 x4_1).f3) from Kd.V_mk ul232_3 ge232_3)
      clear hva_ hvn_ hvc_ ge232_3 ul232_3
      have hv232_4 := hcc232 4 _ rfl
      rw [add_field _ _ 4 (by omega)] at hv232_4
      replace hv232_4 := Option.some.inj (hv232_4.symm.trans hx232_4)
      injection hv232_4 with hva_ hvn_ hvc_
      rw [hva_] at ge232_4
      rw [hvc_] at ul232_4
      have HL232_4 := Aside0.mk (show Kd.V k61 61 _ w.heap.size _ _ ((rd_T48 l0_1 x4_1).f4) from Kd.V_mk ul232_4 ge232_4)
      clear hva_ hvn_ hvc_ ge232_4 ul232_4
      clear hcc232 hce232
      have HR232_2 := Aside0.mk hi232_2
      have HC232_2 := Aside0.mk hl232_2
      clear hi232_2 hl232_2
      have HR232_3 := Aside0.mk hi232_3
      have HC232_3 := Aside0.mk hl232_3
      clear hi232_3 hl232_3
      have HR232_4 := Aside0.mk hi232_4
      have HC232_4 := Aside0.mk hl232_4
      clear hi232_4 hl232_4
      replace p232 := eq_true p232
      replace q232 := eq_true q232
      refine start_ (n := 12) (S := fun w' => w'.cell? ⟨gb231, 0, none⟩ = some (.int .i64 a0_0) ∧ w'.cell? ⟨gb231, 1, none⟩ = some (u232001) ∧ w'.cell? ⟨gb229, 0, none⟩ = some (.int .i64 a0_0) ∧ w'.cell? ⟨gb229, 1, none⟩ = some (.slice (some ad232) l0_1.length c0_1) ∧ w'.cell? (ad232.add ((x4_1).toNat * 5)) = some (.string ((rd_T48 l0_1 x4_1).f0)) ∧ w'.cell? ⟨(ad232.add ((x4_1).toNat * 5)).block, (ad232.add ((x4_1).toNat * 5)).off + 1, none⟩ = some (.int .i64 ((rd_T48 l0_1 x4_1).f1)) ∧ w'.cell? ⟨(ad232.add ((x4_1).toNat * 5)).block, (ad232.add ((x4_1).toNat * 5)).off + 2, none⟩ = some (.slice A232_2 ((rd_T48 l0_1 x4_1).f2).length c232_2) ∧ w'.cell? ⟨(ad232.add ((x4_1).toNat * 5)).block, (ad232.add ((x4_1).toNat * 5)).off + 3, none⟩ = some (.slice A232_3 ((rd_T48 l0_1 x4_1).f3).length c232_3) ∧ w'.cell? ⟨(ad232.add ((x4_1).toNat * 5)).block, (ad232.add ((x4_1).toNat * 5)).off + 4, none⟩ = some (.slice A232_4 ((rd_T48 l0_1 x4_1).f4).length c232_4)) (ds := [9, 11]) #[false, false, false, false, false, false, false, false, false, false, false, false] (by kernel_rfl) rfl rfl ⟨(blk_cell BK231.out 0).trans rfl, (blk_cell BK231.out 1).trans rfl, (blk_cell BK229.out 0).trans rfl, (blk_cell BK229.out 1).trans rfl, hx232_0, hx232_1, hx232_2, hx232_3, hx232_4⟩ (fun hHeld => ?_); refine with_tabW cutroomlaw18_given.tab5 cutroomlaw18_given.bits5 (fun HT_ HW_ => ?_)
      generalize wr.drew = w17 at HO_230001 HO_232001 BK229 BK230 BK231 HB HL232_2 HL232_3 HL232_4 HR232_2 HR232_3 HR232_4 hx232_0 hx232_1 hx232_2 hx232_3 hx232_4 hHeld ⊢
      refine pure_ (i := 0) (N := some 15) (v := ?_) (a' := ?_) #[true, false, false, false, false, false, false, false, false, false, false, false] rfl rfl (any_of HT_.out (by kernel_rfl)) (fun _ _ _ h => h) (Or.inl ⟨by rfl, ?_⟩) ?_ ?_
      rotate_left
      ·intro w'
       go_simp
       with_reducible rfl
      rotate_left
      ·simp only [Act.put, List.setIfInBounds_toArray, List.set_cons_zero, List.set_cons_succ, i64_w, i32_w]
       rfl
      refine pure_ (i := 2) (N := some 17) (v := ?_) (a' := ?_) #[true, false, true, false, false, false, false, false, false, false, false, false] rfl rfl (any_of HT_.out (by kernel_rfl)) (fun _ _ _ h => h) (Or.inl ⟨by rfl, ?_⟩) ?_ ?_
      rotate_left
      ·intro w'
       go_simp
       with_reducible rfl
      rotate_left
      ·simp only [Act.put, List.setIfInBounds_toArray, List.set_cons_zero, List.set_cons_succ, i64_w, i32_w]
       rfl
      refine pure_ (i := 4) (N := some 19) (v := ?_) (a' := ?_) #[true, false, true, false, true, false, false, false, false, false, false, false] rfl rfl (any_of HT_.out (by kernel_rfl)) (fun _ _ _ h => h) (Or.inl ⟨by rfl, ?_⟩) ?_ ?_
      rotate_left
      ·intro w'
       go_simp
       with_reducible rfl
      rotate_left
      ·simp only [Act.put, List.setIfInBounds_toArray, List.set_cons_zero, List.set_cons_succ, i64_w, i32_w]
       rfl
      refine take_ (i := 1) (N := some 16) (v := ?_) (a' := ?_) #[true, true, true, false, true, false, false, false, false, false, false, false] rfl rfl (take_ofW HT_.out HW_.out (by kernel_rfl)) (fun _ _ _ h => h) (Or.inl ⟨by rfl, ?_⟩) hHeld ?_ ?_
      rotate_left
      ·rintro w' ⟨s0, s1, s2, s3, s4, s5, s6, s7, s8⟩
       go_simp
       with_reducible rfl
      rotate_left
      ·simp only [Act.put, List.setIfInBounds_toArray, List.set_cons_zero, List.set_cons_succ, i64_w, i32_w]
       rfl
      refine take_ (i := 3) (N := some 18) (v := ?_) (a' := ?_) #[true, true, true, true, true, false, false, false, false, false, false, false] rfl rfl (take_ofW HT_.out HW_.out (by kernel_rfl)) (fun _ _ _ h => h) (Or.inl ⟨by rfl, ?_⟩) hHeld ?_ ?_
      rotate_left
      ·rintro w' ⟨s0, s1, s2, s3, s4, s5, s6, s7, s8⟩
       go_simp
       with_reducible rfl
      rotate_left
      ·simp only [Act.put, List.setIfInBounds_toArray, List.set_cons_zero, List.set_cons_succ, i64_w, i32_w]
       rfl
      refine pure_ (i := 5) (N := some 20) (v := ?_) (a' := ?_) #[true, true, true, true, true, true, false, false, false, false, false, false] rfl rfl (any_of HT_.out (by kernel_rfl)) (fun _ _ _ h => h) (Or.inl ⟨by rfl, ?_⟩) ?_ ?_
      rotate_left
      ·intro w'
       go_simp
       with_reducible rfl
      rotate_left
      ·simp only [Act.put, List.setIfInBounds_toArray, List.set_cons_zero, List.set_cons_succ, i64_w, i32_w]
       rfl
      refine take_ (i := 6) (N := some 21) (v := ?_) (a' := ?_) #[true, true, true, true, true, true, true, false, false, false, false, false] rfl rfl (take_ofW HT_.out HW_.out (by kernel_rfl)) (fun _ _ _ h => h) (Or.inl ⟨by rfl, ?_⟩) hHeld ?_ ?_
      rotate_left
      ·rintro w' ⟨s0, s1, s2, s3, s4, s5, s6, s7, s8⟩
       go_simp
       with_reducible rfl
      rotate_left
      ·simp only [Act.put, List.setIfInBounds_toArray, List.set_cons_zero, List.set_cons_succ, i64_w, i32_w]
       rfl
      refine one_ (i := 7) (N := some 22) #[true, true, true, true, true, true, true, true, false, false, false, false] rfl rfl (one_of HT_.out (by kernel_rfl)) (by decide) (fun K hK => ?_)
      refine goes_ Try.func15 (by kernel_rfl) rfl #[.agg #[.string ((rd_T48 l0_1 x4_1).f0), .int .i64 ((rd_T48 l0_1 x4_1).f1), .slice A232_2 ((rd_T48 l0_1 x4_1).f2).length c232_2, .slice A232_3 ((rd_T48 l0_1 x4_1).f3).length c232_3, .slice A232_4 ((rd_T48 l0_1 x4_1).f4).length c232_4]] (by rfl) rfl rfl (by (try simp only [List.map_toArray, List.map_cons, List.map_nil]); first | done | rfl | (simp only [List.length_drop, List.length_take]; rfl)) ?_
      with_reducible refine (cutroomlaw18_track.calls k1 ((rd_T48 l0_1 x4_1).f0) ((rd_T48 l0_1 x4_1).f1) (fun k_ => ((P0_1_ k_ ∨ w.heap.size ≤ k_) ∧ (some k_ ≠ (u232001 : Value).ownBlock ∧ (k_ ≠ gb229 ∧ (k_ ≠ gb230 ∧ k_ ≠ gb231))))) _ _ ((rd_T48 l0_1 x4_1).f2) (fun k_ => ((P0_1_ k_ ∨ w.heap.size ≤ k_) ∧ (some k_ ≠ (u232001 : Value).ownBlock ∧ (k_ ≠ gb229 ∧ (k_ ≠ gb230 ∧ k_ ≠ gb231))))) _ _ ((rd_T48 l0_1 x4_1).f3) _ _ ((rd_T48 l0_1 x4_1).f4) t233 t234 t235 t238 t241 _ ?side1 ?side2 ?side3 ?side4 A12.out).mono ?_
      (case side1 => exact HL232_2.out)
      (case side2 => exact HL232_3.out)
      (case side3 => repeat (first | exact (by repeat (first | (with_reducible exact HR232_4.out) | (with_reducible refine Kd.C_alloc ?_ _) | (with_reducible refine Kd.C_drewN ?_ _) | (with_reducible refine Kd.C_drew ?_) | exact HR232_4.out)) | (with_reducible refine Kd.C_alloc ?_ _) | (with_reducible refine Kd.C_drewN ?_ _) | (with_reducible refine Kd.C_drew ?_)))
      (case side4 => exact HC232_4.out)
      rintro e w18 ⟨v236, v239, v242, rfl, ho0, ho1, ho2, hb⟩
      have HS4_ := (hb.cell (World.block_lt_of_cell? _ _ (hHeld.2.2.2.2.1))).trans (hHeld.2.2.2.2.1)
      have HS5_ := (hb.cell (World.block_lt_of_cell? _ _ (hHeld.2.2.2.2.2.1))).trans (hHeld.2.2.2.2.2.1)
      have HS6_ := (hb.cell (World.block_lt_of_cell? _ _ (hHeld.2.2.2.2.2.2.1))).trans (hHeld.2.2.2.2.2.2.1)
      have HS7_ := (hb.cell (World.block_lt_of_cell? _ _ (hHeld.2.2.2.2.2.2.2.1))).trans (hHeld.2.2.2.2.2.2.2.1)
      have HS8_ := (hb.cell (World.block_lt_of_cell? _ _ (hHeld.2.2.2.2.2.2.2.2))).trans (hHeld.2.2.2.2.2.2.2.2)
      refine ⟨_, rfl, ?_⟩
      have n0_ := Aside0.mk (Kd.V_mono (Kd.V_told (Kd.V_told (Kd.V_old (by (with_reducible repeat (first | apply Kd.V_alloc | apply Kd.V_drewN | apply Kd.V_drew)); exact HO_230001.out) hb) (Kd.N_base ho1)) (Kd.R_base ho2)) (fun _ h_ => h_.1))
      have n1_ := Aside0.mk (Kd.N_mono (Kd.N_told (Kd.N_told (Kd.N_old (by (with_reducible repeat (first | apply Kd.N_alloc | apply Kd.N_drewN | apply Kd.N_drew)); exact HO_232001.out) hb) (Kd.N_base ho1)) (Kd.R_base ho2)) (fun _ h_ => h_.1))
      have n2_ := Aside0.mk (Kd.V_mono (Kd.V_told (Kd.V_told (Kd.V_old (by (with_reducible repeat (first | apply Kd.V_alloc | apply Kd.V_drewN | apply Kd.V_drew)); exact HL232_2.out) hb) (Kd.N_base ho1)) (Kd.R_base ho2)) (fun _ h_ => h_.1))
      have n3_ := Aside0.mk (Kd.V_mono (Kd.V_told (Kd.V_told (Kd.V_old (by (with_reducible repeat (first | apply Kd.V_alloc | apply Kd.V_drewN | apply Kd.V_drew)); exact HL232_3.out) hb) (Kd.N_base ho1)) (Kd.R_base ho2)) (fun _ h_ => h_.1))
      have n4_ := Aside0.mk (Kd.V_mono (Kd.V_told (Kd.V_told (Kd.V_old (by (with_reducible repeat (first | apply Kd.V_alloc | apply Kd.V_drewN | apply Kd.V_drew)); exact HL232_4.out) hb) (Kd.N_base ho1)) (Kd.R_base ho2)) (fun _ h_ => h_.1))
      have n5_ := Aside0.mk (Kd.V_lower (Kd.V_mono (ok' := fun k_ => (P0_1_ k_ ∨ w.heap.size ≤ k_) ∧ some k_ ≠ (v239 : Value).ownBlock ∧ some k_ ≠ (v242 : Value).ownBlock ∧ some k_ ≠ (u232001 : Value).ownBlock ∧ k_ ≠ gb229 ∧ k_ ≠ gb230 ∧ k_ ≠ gb231) ho0 (fun k_ hk_ => ⟨Or.elim hk_.1 (fun hs_ => Or.elim hs_ (fun hs_ => hs_.1) (fun hs_ => hs_.1)) (fun hn_ => (.inr (Nat.le_trans (below_size (by repeat (first | (with_reducible first | exact HB.out | apply below_alloc | apply pw_below_drewN | apply below_drew1 | refine below_set ?_ GE229.out | refine below_set ?_ GE230.out | refine below_set ?_ GE231.out) | exact HB.out))) hn_))), hk_.2.1, hk_.2.2, Or.elim hk_.1 (fun hs_ => Or.elim hs_ (fun hs_ => hs_.2.1) (fun hs_ => hs_.2.1)) (fun hn_ => (Kd.fresh' (Kd.N_lt (by (with_reducible repeat (first | apply Kd.N_alloc | apply Kd.N_drewN | apply Kd.N_drew)); exact HO_232001.out)) k_ hn_)), Or.elim hk_.1 (fun hs_ => Or.elim hs_ (fun hs_ => hs_.2.2.1) (fun hs_ => hs_.2.2.1)) (fun hn_ => (Kd.freshB (g := gb229) (o := .cells #[.int .i64 a0_0, .slice (some ad232) l0_1.length c0_1] 37 (0, 0)) (by (with_reducible repeat (first | refine blk_drewN ?_ _ | refine blk_drew ?_ | refine blk_alloc ?_ _)); exact BK229.out) k_ hn_)), Or.elim hk_.1 (fun hs_ => Or.elim hs_ (fun hs_ => hs_.2.2.2.1) (fun hs_ => hs_.2.2.2.1)) (fun hn_ => (Kd.freshB (g := gb230) (o := .cells #[.int .i64 0, .slice none 0 0] 56 (0, 0)) (by (with_reducible repeat (first | refine blk_drewN ?_ _ | refine blk_drew ?_ | refine blk_alloc ?_ _)); exact BK230.out) k_ hn_)), Or.elim hk_.1 (fun hs_ => Or.elim hs_ (fun hs_ => hs_.2.2.2.2) (fun hs_ => hs_.2.2.2.2)) (fun hn_ => (Kd.freshB (g := gb231) (o := .cells #[.int .i64 a0_0, u232001] 56 (0, 0)) (by (with_reducible repeat (first | refine blk_drewN ?_ _ | refine blk_drew ?_ | refine blk_alloc ?_ _)); exact BK231.out) k_ hn_))⟩)) (below_size (by repeat (first | (with_reducible first | exact HB.out | apply below_alloc | apply pw_below_drewN | apply below_drew1 | refine below_set ?_ GE229.out | refine below_set ?_ GE230.out | refine below_set ?_ GE231.out) | exact HB.out))))
      have n6_ := Aside0.mk (Kd.N_lower (Kd.N_mono (ok' := fun k_ => (P0_1_ k_ ∨ w.heap.size ≤ k_) ∧ some k_ ≠ (v242 : Value).ownBlock ∧ some k_ ≠ (u232001 : Value).ownBlock ∧ k_ ≠ gb229 ∧ k_ ≠ gb230 ∧ k_ ≠ gb231) ho1 (fun k_ hk_ => ⟨Or.elim hk_.1 (fun hs_ => Or.elim hs_ (fun hs_ => hs_.1) (fun hs_ => hs_.1)) (fun hn_ => (.inr (Nat.le_trans (below_size (by repeat (first | (with_reducible first | exact HB.out | apply below_alloc | apply pw_below_drewN | apply below_drew1 | refine below_set ?_ GE229.out | refine below_set ?_ GE230.out | refine below_set ?_ GE231.out) | exact HB.out))) hn_))), hk_.2, Or.elim hk_.1 (fun hs_ => Or.elim hs_ (fun hs_ => hs_.2.1) (fun hs_ => hs_.2.1)) (fun hn_ => (Kd.fresh' (Kd.N_lt (by (with_reducible repeat (first | apply Kd.N_alloc | apply Kd.N_drewN | apply Kd.N_drew)); exact HO_232001.out)) k_ hn_)), Or.elim hk_.1 (fun hs_ => Or.elim hs_ (fun hs_ => hs_.2.2.1) (fun hs_ => hs_.2.2.1)) (fun hn_ => (Kd.freshB (g := gb229) (o := .cells #[.int .i64 a0_0, .slice (some ad232) l0_1.length c0_1] 37 (0, 0)) (by (with_reducible repeat (first | refine blk_drewN ?_ _ | refine blk_drew ?_ | refine blk_alloc ?_ _)); exact BK229.out) k_ hn_)), Or.elim hk_.1 (fun hs_ => Or.elim hs_ (fun hs_ => hs_.2.2.2.1) (fun hs_ => hs_.2.2.2.1)) (fun hn_ => (Kd.freshB (g := gb230) (o := .cells #[.int .i64 0, .slice none 0 0] 56 (0, 0)) (by (with_reducible repeat (first | refine blk_drewN ?_ _ | refine blk_drew ?_ | refine blk_alloc ?_ _)); exact BK230.out) k_ hn_)), Or.elim hk_.1 (fun hs_ => Or.elim hs_ (fun hs_ => hs_.2.2.2.2) (fun hs_ => hs_.2.2.2.2)) (fun hn_ => (Kd.freshB (g := gb231) (o := .cells #[.int .i64 a0_0, u232001] 56 (0, 0)) (by (with_reducible repeat (first | refine blk_drewN ?_ _ | refine blk_drew ?_ | refine blk_alloc ?_ _)); exact BK231.out) k_ hn_))⟩)) (below_size (by repeat (first | (with_reducible first | exact HB.out | apply below_alloc | apply pw_below_drewN | apply below_drew1 | refine below_set ?_ GE229.out | refine below_set ?_ GE230.out | refine below_set ?_ GE231.out) | exact HB.out))))
      have n7_ := Aside0.mk (Kd.R_lower (Kd.R_newM (M := fun k_ => (w.heap.size ≤ k_)) (Kd.R_mono (ok' := fun k_ => True) ho2 (fun _ hk_ => trivial)) (below_size (by repeat (first | (with_reducible first | exact HB.out | apply below_alloc | apply pw_below_drewN | apply below_drew1 | refine below_set ?_ GE229.out | refine below_set ?_ GE230.out | refine below_set ?_ GE231.out) | exact HB.out))) (fun k_ h_ => h_)) (below_size (by repeat (first | (with_reducible first | exact HB.out | apply below_alloc | apply pw_below_drewN | apply below_drew1 | refine below_set ?_ GE229.out | refine below_set ?_ GE230.out | refine below_set ?_ GE231.out) | exact HB.out))))
      have n8_ := Aside0.mk (blk_below (g := gb229) (o := .cells #[.int .i64 a0_0, .slice (some ad232) l0_1.length c0_1] 37 (0, 0)) (by (with_reducible repeat (first | refine blk_drewN ?_ _ | refine blk_drew ?_ | refine blk_alloc ?_ _)); exact BK229.out) hb)
      have n9_ := Aside0.mk (blk_below (g := gb230) (o := .cells #[.int .i64 0, .slice none 0 0] 56 (0, 0)) (by (with_reducible repeat (first | refine blk_drewN ?_ _ | refine blk_drew ?_ | refine blk_alloc ?_ _)); exact BK230.out) hb)
      have n10_ := Aside0.mk (blk_below (g := gb231) (o := .cells #[.int .i64 a0_0, u232001] 56 (0, 0)) (by (with_reducible repeat (first | refine blk_drewN ?_ _ | refine blk_drew ?_ | refine blk_alloc ?_ _)); exact BK231.out) hb)
      have n11_ := Aside0.mk (Kd.C_below (by repeat (first | (with_reducible exact HR232_2.out) | (with_reducible refine Kd.C_alloc ?_ _) | (with_reducible refine Kd.C_drewN ?_ _) | (with_reducible refine Kd.C_drew ?_) | exact HR232_2.out)) hb)
      have n12_ := Aside0.mk (Kd.C_below (by repeat (first | (with_reducible exact HR232_3.out) | (with_reducible refine Kd.C_alloc ?_ _) | (with_reducible refine Kd.C_drewN ?_ _) | (with_reducible refine Kd.C_drew ?_) | exact HR232_3.out)) hb)
      have n13_ := Aside0.mk (Kd.C_below (by repeat (first | (with_reducible exact HR232_4.out) | (with_reducible refine Kd.C_alloc ?_ _) | (with_reducible refine Kd.C_drewN ?_ _) | (with_reducible refine Kd.C_drew ?_) | exact HR232_4.out)) hb)
      have n14_ := Aside0.mk (below_step (by repeat (first | (with_reducible first | exact HB.out | apply below_alloc | apply pw_below_drewN | apply below_drew1 | refine below_set ?_ GE229.out | refine below_set ?_ GE230.out | refine below_set ?_ GE231.out) | exact HB.out)) hb)
      clear HO_230001
      clear HO_232001
      clear HL232_2
      clear HL232_3
      clear HL232_4
      clear BK229
      clear BK230
      clear BK231
      clear HR232_2
      clear HR232_3
      clear HR232_4
      clear HB
      have HO_230001 := n0_
      have HO_232001 := n1_
      have HL232_2 := n2_
      have HL232_3 := n3_
      have HL232_4 := n4_
      have HO237 := n5_
      have HO240 := n6_
      have HO243 := n7_
      have BK229 := n8_
      have BK230 := n9_
      have BK231 := n10_
      have HR232_2 := n11_
      have HR232_3 := n12_
      have HR232_4 := n13_
      have HB := n14_
      clear n0_ n1_ n2_ n3_ n4_ n5_ n6_ n7_ n8_ n9_ n10_ n11_ n12_ n13_ n14_
      (try clear hb)
      (try clear hb2)
      (try clear hk)
      (try clear hi)
      (try clear ho0)
      (try clear ho1)
      (try clear ho2)
      obtain ⟨Ao20, co20, eo20⟩ := Kd.V_slice HO237.out
      (first | subst eo20 | (injection eo20 with f1_ f2_ f3_; have f4_ := f1_.symm; have f5_ := f3_.symm; clear f1_ f2_ f3_; subst f4_; subst f5_))
      obtain ⟨Ao21, co21, eo21⟩ := Kd.N_slice HO240.out
      (first | subst eo21 | (injection eo21 with f1_ f2_ f3_; have f4_ := f1_.symm; have f5_ := f3_.symm; clear f1_ f2_ f3_; subst f4_; subst f5_))
      obtain ⟨Ao22, co22, eo22⟩ := Kd.R_slice HO243.out
      (first | subst eo22 | (injection eo22 with f1_ f2_ f3_; have f4_ := f1_.symm; have f5_ := f3_.symm; clear f1_ f2_ f3_; subst f4_; subst f5_))
      refine hK.out _ _ ⟨(blk_cell BK231.out 0).trans rfl, (blk_cell BK231.out 1).trans rfl, (blk_cell BK229.out 0).trans rfl, (blk_cell BK229.out 1).trans rfl, HS4_, HS5_, HS6_, HS7_, HS8_⟩ (fun hHeld => ?_)
      clear hK K
      refine norm_ (a' := ?_) ?_ ?_
      rotate_left
      ·show Act.put _ (some 22) _ = _
       simp only [Act.put, List.setIfInBounds_toArray, List.set_cons_zero, List.set_cons_succ, i64_w, i32_w]
       rfl
      refine one_ (i := 8) (N := some 23) #[true, true, true, true, true, true, true, true, true, false, false, false] rfl rfl (one_of HT_.out (by kernel_rfl)) (by decide) (fun K hK => ?_)
      refine value_ (w1 := ?_) (v := ?_) (by rfl) rfl ?_ ?_
      rotate_left 2
      ·go_simp
       constructor
       ·rfl
       ·rfl
      refine hK.out _ _ ⟨(blk_cell (blk_alloc BK231.out _) 0).trans rfl, (blk_cell (blk_alloc BK231.out _) 1).trans rfl, (blk_cell (blk_alloc BK229.out _) 0).trans rfl, (blk_cell (blk_alloc BK229.out _) 1).trans rfl, (World.cell?_alloc_lt _ _ _ (World.block_lt_of_cell? _ _ (hHeld.2.2.2.2.1))).trans (hHeld.2.2.2.2.1), (World.cell?_alloc_lt _ _ _ (World.block_lt_of_cell? _ _ (hHeld.2.2.2.2.2.1))).trans (hHeld.2.2.2.2.2.1), (World.cell?_alloc_lt _ _ _ (World.block_lt_of_cell? _ _ (hHeld.2.2.2.2.2.2.1))).trans (hHeld.2.2.2.2.2.2.1), (World.cell?_alloc_lt _ _ _ (World.block_lt_of_cell? _ _ (hHeld.2.2.2.2.2.2.2.1))).trans (hHeld.2.2.2.2.2.2.2.1), (World.cell?_alloc_lt _ _ _ (World.block_lt_of_cell? _ _ (hHeld.2.2.2.2.2.2.2.2))).trans (hHeld.2.2.2.2.2.2.2.2)⟩ (fun hHeld => ?_)
      clear hK K
      refine norm_ (a' := ?_) ?_ ?_
      rotate_left
      ·show Act.put _ (some 23) _ = _
       simp only [Act.put, List.setIfInBounds_toArray, List.set_cons_zero, List.set_cons_succ, i64_w, i32_w]
       rfl
      refine last_ (i := 9) (N := some 24) #[true, true, true, true, true, true, true, true, true, true, false, false] rfl rfl (one_of HT_.out (by kernel_rfl)) (by decide) (fun K hK => ?_)
      refine Kd.N_append_step k43 (w0 := w) w.heap.size (by rfl) (.tmp 16) (.tmp 23) 54 43 (.agg #[(.string ⟨#[]⟩), (.int .i64 0), (.slice none 0 0), (.slice none 0 0), (.slice none 0 0)]) 96 rfl Try.underlying54 info43 rfl (by decide) (by omega) u232001 x232001_1 (⟨t233, t234, t235, t238, t241⟩ : S43) [.string t233, .int .i64 t234, .slice Ao20 t235.length co20, .slice Ao21 t238.length co21, .slice Ao22 t241.length co22] (fun k_ => (P0_1_ k_ ∨ w.heap.size ≤ k_) ∧ k_ ≠ gb229 ∧ k_ ≠ gb230 ∧ k_ ≠ gb231) (fun k_ => ((fun k_ => (P0_1_ k_ ∨ w.heap.size ≤ k_) ∧ k_ ≠ gb229 ∧ k_ ≠ gb230 ∧ k_ ≠ gb231)) k_ ∧ some k_ ≠ (u232001 : Value).ownBlock) rfl rfl ?aP (fun _ hk => hk) ?aF ?aO ?aB ?aS ?aL ?_
      (case aP => exact (k43_mkF _ _ (⟨t233, t234, t235, t238, t241⟩ : S43) (Kd.V_reads' (Kd.V_mono (ok' := (fun k_ => ((fun k_ => (P0_1_ k_ ∨ w.heap.size ≤ k_) ∧ k_ ≠ gb229 ∧ k_ ≠ gb230 ∧ k_ ≠ gb231)) k_ ∧ some k_ ≠ (u232001 : Value).ownBlock)) (HO237.out) (fun k_ hk => ⟨⟨hk.1, ⟨hk.2.2.2.2.1, ⟨hk.2.2.2.2.2.1, hk.2.2.2.2.2.2⟩⟩⟩, hk.2.2.2.1⟩))).2.1 (Kd.V_F (Kd.V_mono (ok' := (fun k_ => ((fun k_ => (P0_1_ k_ ∨ w.heap.size ≤ k_) ∧ k_ ≠ gb229 ∧ k_ ≠ gb230 ∧ k_ ≠ gb231)) k_ ∧ some k_ ≠ (u232001 : Value).ownBlock)) (HO237.out) (fun k_ hk => ⟨⟨hk.1, ⟨hk.2.2.2.2.1, ⟨hk.2.2.2.2.2.1, hk.2.2.2.2.2.2⟩⟩⟩, hk.2.2.2.1⟩))) (Kd.N_reads' (Kd.N_mono (ok' := (fun k_ => ((fun k_ => (P0_1_ k_ ∨ w.heap.size ≤ k_) ∧ k_ ≠ gb229 ∧ k_ ≠ gb230 ∧ k_ ≠ gb231)) k_ ∧ some k_ ≠ (u232001 : Value).ownBlock)) (HO240.out) (fun k_ hk => ⟨⟨hk.1, ⟨hk.2.2.2.1, ⟨hk.2.2.2.2.1, hk.2.2.2.2.2⟩⟩⟩, hk.2.2.1⟩))).2.1 (Kd.N_F (Kd.N_mono (ok' := (fun k_ => ((fun k_ => (P0_1_ k_ ∨ w.heap.size ≤ k_) ∧ k_ ≠ gb229 ∧ k_ ≠ gb230 ∧ k_ ≠ gb231)) k_ ∧ some k_ ≠ (u232001 : Value).ownBlock)) (HO240.out) (fun k_ hk => ⟨⟨hk.1, ⟨hk.2.2.2.1, ⟨hk.2.2.2.2.1, hk.2.2.2.2.2⟩⟩⟩, hk.2.2.1⟩))) (Kd.R_reads' (Kd.R_mono (ok' := (fun k_ => ((fun k_ => (P0_1_ k_ ∨ w.heap.size ≤ k_) ∧ k_ ≠ gb229 ∧ k_ ≠ gb230 ∧ k_ ≠ gb231)) k_ ∧ some k_ ≠ (u232001 : Value).ownBlock)) (Kd.R_types (Kd.R_types (Kd.R_types (Kd.R_apart' (HO243.out) (Kd.N_typed HO_232001.out) (by decide)) BK229.out (by decide)) BK230.out (by decide)) BK231.out (by decide)) (fun k_ hk => ⟨⟨(.inr (hk.1.1.1.1.1)), ⟨hk.1.1.2, ⟨hk.1.2, hk.2⟩⟩⟩, hk.1.1.1.2⟩))).2.1 (Kd.R_F (Kd.R_mono (ok' := (fun k_ => ((fun k_ => (P0_1_ k_ ∨ w.heap.size ≤ k_) ∧ k_ ≠ gb229 ∧ k_ ≠ gb230 ∧ k_ ≠ gb231)) k_ ∧ some k_ ≠ (u232001 : Value).ownBlock)) (Kd.R_types (Kd.R_types (Kd.R_types (Kd.R_apart' (HO243.out) (Kd.N_typed HO_232001.out) (by decide)) BK229.out (by decide)) BK230.out (by decide)) BK231.out (by decide)) (fun k_ hk => ⟨⟨(.inr (hk.1.1.1.1.1)), ⟨hk.1.1.2, ⟨hk.1.2, hk.2⟩⟩⟩, hk.1.1.1.2⟩)))))
      (case aB => exact (by repeat (first | (with_reducible first | exact HB.out | apply below_alloc | apply pw_below_drewN | apply below_drew1 | refine below_set ?_ GE229.out | refine below_set ?_ GE230.out | refine below_set ?_ GE231.out) | exact HB.out)))
      (case aF => exact (fun k_ hk => ⟨(.inr (Nat.le_trans (below_size (by repeat (first | (with_reducible first | exact HB.out | apply below_alloc | apply pw_below_drewN | apply below_drew1 | refine below_set ?_ GE229.out | refine below_set ?_ GE230.out | refine below_set ?_ GE231.out) | exact HB.out))) hk)), Kd.freshB (g := gb229) (o := .cells #[.int .i64 a0_0, .slice (some ad232) l0_1.length c0_1] 37 (0, 0)) (by (with_reducible repeat (first | refine blk_drewN ?_ _ | refine blk_drew ?_ | refine blk_alloc ?_ _)); exact BK229.out) k_ hk, Kd.freshB (g := gb230) (o := .cells #[.int .i64 0, .slice none 0 0] 56 (0, 0)) (by (with_reducible repeat (first | refine blk_drewN ?_ _ | refine blk_drew ?_ | refine blk_alloc ?_ _)); exact BK230.out) k_ hk, Kd.freshB (g := gb231) (o := .cells #[.int .i64 a0_0, u232001] 56 (0, 0)) (by (with_reducible repeat (first | refine blk_drewN ?_ _ | refine blk_drew ?_ | refine blk_alloc ?_ _)); exact BK231.out) k_ hk⟩))
      (case aO => exact (by (with_reducible repeat (first | apply Kd.N_alloc | apply Kd.N_drewN | apply Kd.N_drew)); exact Kd.N_mono HO_232001.out (fun _ hk => ⟨hk.1.1.1, ⟨hk.1.1.2.1, ⟨hk.1.1.2.2.1, hk.1.1.2.2.2⟩⟩⟩)))
      (case aS => exact (below_size (by repeat (first | (with_reducible first | exact HB.out | apply below_alloc | apply pw_below_drewN | apply below_drew1 | refine below_set ?_ GE229.out | refine below_set ?_ GE230.out | refine below_set ?_ GE231.out) | exact HB.out))))
      (case aL => have := LMc13.out; omega)
      intro v245 w19 ho hb hg hat
      rw [← Ny244.out] at ho
      have n0_ := Aside0.mk (Kd.V_afterv (ok := (fun k_ => (P0_1_ k_ ∨ w.heap.size ≤ k_) ∧ some k_ ≠ (.slice Ao21 t238.length co21 : Value).ownBlock ∧ some k_ ≠ (.slice Ao22 t241.length co22 : Value).ownBlock ∧ k_ ≠ gb229 ∧ k_ ≠ gb230 ∧ k_ ≠ gb231)) (by (with_reducible repeat (first | apply Kd.V_alloc | apply Kd.V_drewN | apply Kd.V_drew)); exact Kd.V_mono HO_230001.out (fun _ hk => ⟨⟨hk.1.1.1, ⟨hk.1.2, ⟨hk.2, ⟨hk.1.1.2.2.1, ⟨hk.1.1.2.2.2.1, hk.1.1.2.2.2.2⟩⟩⟩⟩⟩, hk.1.1.2.1⟩)) hg hat)
      have n1_ := Aside0.mk (blk_grown (g := gb229) (o := .cells #[.int .i64 a0_0, .slice (some ad232) l0_1.length c0_1] 37 (0, 0)) (by (with_reducible repeat (first | refine blk_drewN ?_ _ | refine blk_drew ?_ | refine blk_alloc ?_ _)); exact BK229.out) hg (Kd.N_ne HO_232001.out BK229.out (by decide)))
      have n2_ := Aside0.mk (blk_grown (g := gb230) (o := .cells #[.int .i64 0, .slice none 0 0] 56 (0, 0)) (by (with_reducible repeat (first | refine blk_drewN ?_ _ | refine blk_drew ?_ | refine blk_alloc ?_ _)); exact BK230.out) hg (Kd.N_ne HO_232001.out BK230.out (by decide)))
      have n3_ := Aside0.mk (blk_grown (g := gb231) (o := .cells #[.int .i64 a0_0, u232001] 56 (0, 0)) (by (with_reducible repeat (first | refine blk_drewN ?_ _ | refine blk_drew ?_ | refine blk_alloc ?_ _)); exact BK231.out) hg (Kd.N_ne HO_232001.out BK231.out (by decide)))
      have n4_ := Aside0.mk (Kd.V_afterv (ok := (fun k_ => (P0_1_ k_ ∨ w.heap.size ≤ k_) ∧ some k_ ≠ (.slice Ao21 t238.length co21 : Value).ownBlock ∧ some k_ ≠ (.slice Ao22 t241.length co22 : Value).ownBlock ∧ k_ ≠ gb229 ∧ k_ ≠ gb230 ∧ k_ ≠ gb231)) (by (with_reducible repeat (first | apply Kd.V_alloc | apply Kd.V_drewN | apply Kd.V_drew)); exact Kd.V_mono HL232_2.out (fun _ hk => ⟨⟨hk.1.1.1, ⟨hk.1.2, ⟨hk.2, ⟨hk.1.1.2.2.1, ⟨hk.1.1.2.2.2.1, hk.1.1.2.2.2.2⟩⟩⟩⟩⟩, hk.1.1.2.1⟩)) hg hat)
      have n5_ := Aside0.mk (Kd.V_afterv (ok := (fun k_ => (P0_1_ k_ ∨ w.heap.size ≤ k_) ∧ some k_ ≠ (.slice Ao21 t238.length co21 : Value).ownBlock ∧ some k_ ≠ (.slice Ao22 t241.length co22 : Value).ownBlock ∧ k_ ≠ gb229 ∧ k_ ≠ gb230 ∧ k_ ≠ gb231)) (by (with_reducible repeat (first | apply Kd.V_alloc | apply Kd.V_drewN | apply Kd.V_drew)); exact Kd.V_mono HL232_3.out (fun _ hk => ⟨⟨hk.1.1.1, ⟨hk.1.2, ⟨hk.2, ⟨hk.1.1.2.2.1, ⟨hk.1.1.2.2.2.1, hk.1.1.2.2.2.2⟩⟩⟩⟩⟩, hk.1.1.2.1⟩)) hg hat)
      have n6_ := Aside0.mk (Kd.V_afterv (ok := (fun k_ => (P0_1_ k_ ∨ w.heap.size ≤ k_) ∧ some k_ ≠ (.slice Ao21 t238.length co21 : Value).ownBlock ∧ some k_ ≠ (.slice Ao22 t241.length co22 : Value).ownBlock ∧ k_ ≠ gb229 ∧ k_ ≠ gb230 ∧ k_ ≠ gb231)) (by (with_reducible repeat (first | apply Kd.V_alloc | apply Kd.V_drewN | apply Kd.V_drew)); exact Kd.V_mono HL232_4.out (fun _ hk => ⟨⟨hk.1.1.1, ⟨hk.1.2, ⟨hk.2, ⟨hk.1.1.2.2.1, ⟨hk.1.1.2.2.2.1, hk.1.1.2.2.2.2⟩⟩⟩⟩⟩, hk.1.1.2.1⟩)) hg hat)
      have n7_ := Aside0.mk (Kd.V_afterv (ok := (fun k_ => (P0_1_ k_ ∨ w.heap.size ≤ k_) ∧ some k_ ≠ (.slice Ao21 t238.length co21 : Value).ownBlock ∧ some k_ ≠ (.slice Ao22 t241.length co22 : Value).ownBlock ∧ k_ ≠ gb229 ∧ k_ ≠ gb230 ∧ k_ ≠ gb231)) (by (with_reducible repeat (first | apply Kd.V_alloc | apply Kd.V_drewN | apply Kd.V_drew)); exact Kd.V_mono HO237.out (fun _ hk => ⟨⟨hk.1, ⟨hk.2.1, ⟨hk.2.2.1, ⟨hk.2.2.2.2.1, ⟨hk.2.2.2.2.2.1, hk.2.2.2.2.2.2⟩⟩⟩⟩⟩, hk.2.2.2.1⟩)) hg hat)
      have n8_ := Aside0.mk (hb)
      have n9_ := Aside0.mk (ho)
      clear HO_230001
      clear BK229
      clear BK230
      clear BK231
      clear HL232_2
      clear HL232_3
      clear HL232_4
      clear HO237
      clear HB
      clear HO_232001
      clear HO240
      clear HO243
      have HO_230001 := n0_
      have BK229 := n1_
      have BK230 := n2_
      have BK231 := n3_
      have HL232_2 := n4_
      have HL232_3 := n5_
      have HL232_4 := n6_
      have HO237 := n7_
      have HB := n8_
      have HO246 := n9_
      clear n0_ n1_ n2_ n3_ n4_ n5_ n6_ n7_ n8_ n9_
      clear ho hb hg hat
      obtain ⟨Ao23, co23, eo23⟩ := Kd.N_slice HO246.out
      (first | subst eo23 | (injection eo23 with f1_ f2_ f3_; have f4_ := f1_.symm; have f5_ := f3_.symm; clear f1_ f2_ f3_; subst f4_; subst f5_))
      refine hK.out _ _ ?_
      clear hK K
      refine norm_ (a' := ?_) ?_ ?_
      rotate_left
      ·show Act.put _ (some 24) _ = _
       simp only [Act.put, List.setIfInBounds_toArray, List.set_cons_zero, List.set_cons_succ, i64_w, i32_w]
       rfl
      refine pure_ (i := 10) (N := some 25) (v := ?_) (a' := ?_) #[true, true, true, true, true, true, true, true, true, true, true, false] rfl rfl (any_of HT_.out (by kernel_rfl)) (fun _ _ _ h => h) (Or.inl ⟨by rfl, ?_⟩) ?_ ?_
      rotate_left
      ·intro w'
       go_simp
       with_reducible rfl
      rotate_left
      ·simp only [Act.put, List.setIfInBounds_toArray, List.set_cons_zero, List.set_cons_succ, i64_w, i32_w]
       rfl
      refine last_ (i := 11) (N := none) #[true, true, true, true, true, true, true, true, true, true, true, true] rfl rfl (one_of HT_.out (by kernel_rfl)) (by decide) (fun K hK => ?_)
      have hs24 : w19.cell? ⟨gb231, 1, none⟩ = some (u232001) := (blk_cell BK231.out 1).trans rfl
      have hfs24 := blk_frozen BK231.out 1
      have hns24_0 := NB229_231.out
      have hns24_1 := NB230_231.out
      have hms24_0 := NB231_229.out
      have hms24_1 := NB231_230.out
      refine skip_ (w1 := ?_) (by rfl) rfl ?_ ?_
      rotate_left
      ·go_simp
       rfl
      refine hK.out _ _ ?_
      clear hK K
      refine done_ (done_of HT_.out (by kernel_rfl)) ?_
      try go_wp2
      go_roundg k1
      case measure => have := HK1.out; omega
      case rel => exact ⟨(wrap64 (x4_1 + 1)), (y244), (.slice Ao23 y244.length co23), (by first | rfl | (simp; done) | (simp [*]; done)), H', ⟨by have := HK1.out; omega⟩, ⟨by (with_reducible repeat (first | apply Kd.V_alloc | apply Kd.V_drewN | apply Kd.V_drew)); exact Kd.V_mono (Kd.V_far (p := ⟨gb231, 1, none⟩) (Kd.V_mono HO_230001.out (fun k_ hk => (⟨hk, hk.1.2.2.2.2.2⟩ : _ ∧ k_ ≠ gb231))) (fun _ hk => hk.2) (.slice Ao23 y244.length co23)) (fun _ hk => ⟨hk.1.1.1, ⟨hk.1.2, ⟨hk.1.1.2.2.2.1, ⟨hk.1.1.2.2.2.2.1, hk.1.1.2.2.2.2.2⟩⟩⟩⟩)⟩, ⟨by (with_reducible repeat (first | apply Kd.N_alloc | apply Kd.N_drewN | apply Kd.N_drew)); exact Kd.N_mono (Kd.N_far (p := ⟨gb231, 1, none⟩) (Kd.N_mono HO246.out (fun k_ hk => (⟨hk, hk.2.2.2⟩ : _ ∧ k_ ≠ gb231))) (fun _ hk => hk.2) (.slice Ao23 y244.length co23)) (fun _ hk => ⟨hk.1.1, ⟨hk.1.2.1, ⟨hk.1.2.2.1, hk.1.2.2.2⟩⟩⟩)⟩, ⟨by (with_reducible repeat (first | refine blk_drewN ?_ _ | refine blk_drew ?_ | refine blk_alloc ?_ _)); refine blk_far ?_ NB229_231.out _; (with_reducible repeat (first | refine blk_drewN ?_ _ | refine blk_drew ?_ | refine blk_alloc ?_ _)); exact BK229.out⟩, ⟨by (with_reducible repeat (first | refine blk_drewN ?_ _ | refine blk_drew ?_ | refine blk_alloc ?_ _)); refine blk_far ?_ NB230_231.out _; (with_reducible repeat (first | refine blk_drewN ?_ _ | refine blk_drew ?_ | refine blk_alloc ?_ _)); exact BK230.out⟩, ⟨by (with_reducible repeat (first | refine blk_drewN ?_ _ | refine blk_drew ?_ | refine blk_alloc ?_ _)); refine blk_put (cs := #[.int .i64 a0_0, u232001]) ?_ 1 _ rfl; (with_reducible repeat (first | refine blk_drewN ?_ _ | refine blk_drew ?_ | refine blk_alloc ?_ _)); exact BK231.out⟩, ⟨by repeat (first | (with_reducible first | exact HB.out | apply below_alloc | apply pw_below_drewN | apply below_drew1 | refine below_set ?_ GE229.out | refine below_set ?_ GE230.out | refine below_set ?_ GE231.out) | exact HB.out)⟩⟩
     ·rw [if_neg c13] at H
      exact absurd H (by simp)
    ·rw [if_neg c11] at H
     exact absurd H (by simp)
   ·rw [if_neg c10] at H
    have c10b0 : decide (x4_1 < (l0_1.length : Int)) = false := decide_eq_false c10
    clear c10
    simp only [Option.some.injEq, Prod.mk.injEq] at H
    obtain ⟨rfl, rfl⟩ := H
    have hnb25 := NB229_230.out
    have hnc25 := NB230_229.out
    have hnb26 := NB229_231.out
    have hnc26 := NB231_229.out
    have hcz27_0 : wr.cell? ⟨gb229, 0, none⟩ = some (.int .i64 a0_0) := (blk_cell BK229.out 0).trans rfl
    have hcz27_1 : wr.cell? ⟨gb229, 1, none⟩ = some (.slice A0_1 l0_1.length c0_1) := (blk_cell BK229.out 1).trans rfl
    have hfz27_0 := blk_frozen BK229.out 0
    have hfz27_1 := blk_frozen BK229.out 1
    have hnb28 := NB231_230.out
    have hnc28 := NB230_231.out
    have hcz29_0 : wr.cell? ⟨gb231, 0, none⟩ = some (.int .i64 a0_0) := (blk_cell BK231.out 0).trans rfl
    have hcz29_1 : wr.cell? ⟨gb231, 1, none⟩ = some (u232001) := (blk_cell BK231.out 1).trans rfl
    have hfz29_0 := blk_frozen BK231.out 0
    have hfz29_1 := blk_frozen BK231.out 1
    have hcz30_0 : wr.cell? ⟨gb230, 0, none⟩ = some (.int .i64 0) := (blk_cell BK230.out 0).trans rfl
    have hcz30_1 : wr.cell? ⟨gb230, 1, none⟩ = some (.slice none 0 0) := (blk_cell BK230.out 1).trans rfl
    have hfz30_0 := blk_frozen BK230.out 0
    have hfz30_1 := blk_frozen BK230.out 1
    obtain ⟨Ao31, co31, eo31⟩ := Kd.N_slice HO_232001.out
    subst eo31
    go_wp2
    refine bodyPost_ret (results_cell_row rfl _ _ gb230 56 #[.int .i64 a0_0, .slice Ao31 x232001_1.length co31] (0, 0) _ rfl (by (with_reducible repeat (first | refine blk_drewN ?_ _ | refine blk_drew ?_ | refine blk_alloc ?_ _)); refine blk_put (cs := #[.int .i64 a0_0, .slice none 0 0]) ?_ 1 _ rfl; (with_reducible repeat (first | refine blk_drewN ?_ _ | refine blk_drew ?_ | refine blk_alloc ?_ _)); refine blk_put (cs := #[.int .i64 0, .slice none 0 0]) ?_ 0 _ rfl; (with_reducible repeat (first | refine blk_drewN ?_ _ | refine blk_drew ?_ | refine blk_alloc ?_ _)); exact BK230.out) Try.underlying56 rfl (by kernel_rfl)) rfl ?_
    exact ⟨_, by first | rfl | (simp [errW_none, errW_some] <;> rfl) | (simp [*, errW_none, errW_some] <;> rfl), by (with_reducible repeat (first | apply Kd.N_alloc | apply Kd.N_drewN | apply Kd.N_drew)); exact Kd.N_mono (Kd.N_far (p := ⟨gb230, 1, none⟩) (Kd.N_far (p := ⟨gb230, 0, none⟩) (Kd.N_mono HO_232001.out (fun k_ hk => (⟨hk, hk.2.2.1⟩ : _ ∧ k_ ≠ gb230))) (fun _ hk => hk.2) (.int .i64 a0_0)) (fun _ hk => hk.2) (.slice Ao31 x232001_1.length co31)) (fun _ hk => hk.1.1), by repeat (first | (with_reducible first | exact HB.out | apply below_alloc | apply pw_below_drewN | apply below_drew1 | refine below_set ?_ GE229.out | refine below_set ?_ GE230.out | refine below_set ?_ GE231.out) | exact HB.out)⟩

end Go.Proofs.Ytbpmkcgpgdbbkaa.P
