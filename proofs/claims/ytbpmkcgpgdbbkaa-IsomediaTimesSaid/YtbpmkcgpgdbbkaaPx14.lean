-- Written by this session's own program (wip/tools/myprint.py), which runs the kit's print with turns of its own: not a text of the kit's print.sh.
import Derived.Test.YtbpmkcgpgdbbkaaPx0
namespace Go.Proofs.Ytbpmkcgpgdbbkaa.P
open Go.RowKit Go.Proofs.YtbpmkcgpgdbbkaaW.PrintWords Go.Proofs.YtbpmkcgpgdbbkaaW.PrintLast Go.Proofs.YtbpmkcgpgdbbkaaW.PrintMore
attribute [local go_sem] max2_int min2_int max_two min_two max_three min_three max_four min_four   -- for this text's walks alone
set_option linter.unusedVariables false
set_option linter.unusedSimpArgs false

/-! ### cutroomlaw18_light: function 13 -/
mutual
def cutroomlaw18_light.l0 : Nat → Int → Int → List (S48) → Option (Bool)
 | 0, _, _, _ => none
 | k + 1, x3, x138000, x138001 => if x3 < (x138001.length : Int) then (if 0 ≤ x3 then (if (((rd_T48 x138001 x3).f0).size : Int) > 20 then (cutroomlaw18_light.j1 k x3 true x138000 x138001 ((rd_T48 x138001 x3).f0) ((rd_T48 x138001 x3).f1) ((rd_T48 x138001 x3).f2) ((rd_T48 x138001 x3).f3) ((rd_T48 x138001 x3).f4)) else (if (((rd_T48 x138001 x3).f2).length : Int) > 5000 then (cutroomlaw18_light.j1 k x3 true x138000 x138001 ((rd_T48 x138001 x3).f0) ((rd_T48 x138001 x3).f1) ((rd_T48 x138001 x3).f2) ((rd_T48 x138001 x3).f3) ((rd_T48 x138001 x3).f4)) else (if (((rd_T48 x138001 x3).f3).length : Int) > 40 then (cutroomlaw18_light.j1 k x3 true x138000 x138001 ((rd_T48 x138001 x3).f0) ((rd_T48 x138001 x3).f1) ((rd_T48 x138001 x3).f2) ((rd_T48 x138001 x3).f3) ((rd_T48 x138001 x3).f4)) else (cutroomlaw18_light.j1 k x3 (decide ((((rd_T48 x138001 x3).f4).length : Int) > 70)) x138000 x138001 ((rd_T48 x138001 x3).f0) ((rd_T48 x138001 x3).f1) ((rd_T48 x138001 x3).f2) ((rd_T48 x138001 x3).f3) ((rd_T48 x138001 x3).f4))))) else (none)) else (some true)
def cutroomlaw18_light.j1 : Nat → Int → Bool → Int → List (S48) → ByteArray → Int → List Int → List (S74) → List (S61) → Option (Bool)
 | 0, _, _, _, _, _, _, _, _, _ => none
 | k + 1, x3, x43, x138000, x138001, x140000, x140001, x140002, x140003, x140004 => if x43 = true then (some false) else (cutroomlaw18_light.l1 k x3 0 x138000 x138001 x140000 x140001 x140002 x140003 x140004)
def cutroomlaw18_light.l1 : Nat → Int → Int → Int → List (S48) → ByteArray → Int → List Int → List (S74) → List (S61) → Option (Bool)
 | 0, _, _, _, _, _, _, _, _, _ => none
 | k + 1, x3, x5, x138000, x138001, x140000, x140001, x140002, x140003, x140004 => if x5 < (x140003.length : Int) then (if 0 ≤ x5 then (if (((rd_T74 x140003 x5).f0).length : Int) > 500 then (some false) else (cutroomlaw18_light.l1 k x3 (wrap64 (x5 + 1)) x138000 x138001 x140000 x140001 x140002 x140003 x140004)) else (none)) else (cutroomlaw18_light.l0 k (wrap64 (x3 + 1)) x138000 x138001)
end
def cutroomlaw18_light.f (k : Nat) (a0_0 : Int) (l0_1 : List (S48)) : Option (Bool) := if (l0_1.length : Int) > 6 then (some false) else (cutroomlaw18_light.l0 k 0 a0_0 l0_1)
theorem cutroomlaw18_light.mono_l : ∀ k, (∀ y0 y1 y2, LeO (cutroomlaw18_light.l0 k y0 y1 y2) (cutroomlaw18_light.l0 (k + 1) y0 y1 y2)) ∧ (∀ y0 y1 y2 y3 y4 y5 y6 y7 y8, LeO (cutroomlaw18_light.j1 k y0 y1 y2 y3 y4 y5 y6 y7 y8) (cutroomlaw18_light.j1 (k + 1) y0 y1 y2 y3 y4 y5 y6 y7 y8)) ∧ (∀ y0 y1 y2 y3 y4 y5 y6 y7 y8, LeO (cutroomlaw18_light.l1 k y0 y1 y2 y3 y4 y5 y6 y7 y8) (cutroomlaw18_light.l1 (k + 1) y0 y1 y2 y3 y4 y5 y6 y7 y8))
 | 0 => ⟨fun _ _ _ r h => by simp [cutroomlaw18_light.l0] at h, fun _ _ _ _ _ _ _ _ _ r h => by simp [cutroomlaw18_light.j1] at h, fun _ _ _ _ _ _ _ _ _ r h => by simp [cutroomlaw18_light.l1] at h⟩
 | k + 1 => by
  obtain ⟨ih0, ih1, ih2⟩ := cutroomlaw18_light.mono_l k
  refine ⟨?_, ?_, ?_⟩
  ·intro y0 y1 y2
   unfold cutroomlaw18_light.l0
   repeat' first
   | (with_reducible exact ih0 _ _ _)
   | (with_reducible exact ih1 _ _ _ _ _ _ _ _ _)
   | (with_reducible exact ih2 _ _ _ _ _ _ _ _ _)
   | (with_reducible exact LeO.refl _)
   | (with_reducible exact LeO.none _)
   | (with_reducible refine LeO.ite ?_ ?_)
   | (with_reducible refine LeO.bind ?_ (fun _ => ?_))
   | exact ih0 _ _ _
   | exact ih1 _ _ _ _ _ _ _ _ _
   | exact ih2 _ _ _ _ _ _ _ _ _
   | exact LeO.none _
   | refine LeO.ite ?_ ?_
   | refine LeO.bind ?_ (fun _ => ?_)
  ·intro y0 y1 y2 y3 y4 y5 y6 y7 y8
   unfold cutroomlaw18_light.j1
   repeat' first
   | (with_reducible exact ih0 _ _ _)
   | (with_reducible exact ih1 _ _ _ _ _ _ _ _ _)
   | (with_reducible exact ih2 _ _ _ _ _ _ _ _ _)
   | (with_reducible exact LeO.refl _)
   | (with_reducible exact LeO.none _)
   | (with_reducible refine LeO.ite ?_ ?_)
   | (with_reducible refine LeO.bind ?_ (fun _ => ?_))
   | exact ih0 _ _ _
   | exact ih1 _ _ _ _ _ _ _ _ _
   | exact ih2 _ _ _ _ _ _ _ _ _
   | exact LeO.none _
   | refine LeO.ite ?_ ?_
   | refine LeO.bind ?_ (fun _ => ?_)
  ·intro y0 y1 y2 y3 y4 y5 y6 y7 y8
   unfold cutroomlaw18_light.l1
   repeat' first
   | (with_reducible exact ih0 _ _ _)
   | (with_reducible exact ih1 _ _ _ _ _ _ _ _ _)
   | (with_reducible exact ih2 _ _ _ _ _ _ _ _ _)
   | (with_reducible exact LeO.refl _)
   | (with_reducible exact LeO.none _)
   | (with_reducible refine LeO.ite ?_ ?_)
   | (with_reducible refine LeO.bind ?_ (fun _ => ?_))
   | exact ih0 _ _ _
   | exact ih1 _ _ _ _ _ _ _ _ _
   | exact ih2 _ _ _ _ _ _ _ _ _
   | exact LeO.none _
   | refine LeO.ite ?_ ?_
   | refine LeO.bind ?_ (fun _ => ?_)
theorem cutroomlaw18_light.mono : ∀ a0 a1 k, LeO (cutroomlaw18_light.f k a0 a1) (cutroomlaw18_light.f (k + 1) a0 a1) := by
 intro a0 a1 k
 obtain ⟨ih0, ih1, ih2⟩ := cutroomlaw18_light.mono_l k
 unfold cutroomlaw18_light.f
 repeat' first
   | (with_reducible exact ih0 _ _ _)
   | (with_reducible exact ih1 _ _ _ _ _ _ _ _ _)
   | (with_reducible exact ih2 _ _ _ _ _ _ _ _ _)
   | (with_reducible exact LeO.refl _)
   | (with_reducible exact LeO.none _)
   | (with_reducible refine LeO.ite ?_ ?_)
   | (with_reducible refine LeO.bind ?_ (fun _ => ?_))
   | exact ih0 _ _ _
   | exact ih1 _ _ _ _ _ _ _ _ _
   | exact ih2 _ _ _ _ _ _ _ _ _
   | exact LeO.none _
   | refine LeO.ite ?_ ?_
   | refine LeO.bind ?_ (fun _ => ?_)
set_option maxHeartbeats 8000000 in
set_option maxRecDepth 100000 in
theorem cutroomlaw18_light.calls (k : Nat) (a0_0 : Int) (A0_1 : Option Addr) (c0_1 : Nat) (l0_1 : List (S48)) (r : Bool) (w : World) (hr0_1 : Kd.C k48 w A0_1 l0_1.length l0_1) (hc0_1 : l0_1.length ≤ c0_1) (h : cutroomlaw18_light.f k a0_0 l0_1 = some r) :
  Calls Try.prog 13 #[.agg #[.int .i64 a0_0, .slice A0_1 l0_1.length c0_1]] w fun e w' => e = .returned (.bool r) ∧ Below w.heap.size w w' := by
 have hu37 := Try.underlying37
 have hu48 := Try.underlying48
 have HR0_1 := Aside0.mk hr0_1
 have HC0_1 := Aside0.mk hc0_1
 clear hr0_1 hc0_1
 have HB := Aside0.mk (Below.refl w.heap.size w)
 have H : (if (l0_1.length : Int) > 6 then (some false) else (cutroomlaw18_light.l0 k 0 a0_0 l0_1)) = some r := h
 clear h
 by_cases c2 : (l0_1.length : Int) > 6
 ·rw [if_pos c2] at H
  have c2b0 : decide (6 < (l0_1.length : Int)) = true := decide_eq_true c2
  have c2b1 : decide (6 < l0_1.length) = true := decide_eq_true (by omega)
  clear c2
  obtain rfl := Option.some.inj H
  go_enter Try.func13, Try.ntmps13
  go_wp2_with (first | ((with_reducible refine gate_dst (N := 1) rfl ?_); (try (refine gate_guard (by rfl) ?_; dsimp only)); refine box_event ?hg (N := 1) ?hd (cs := #[.int .i64 a0_0, .slice A0_1 l0_1.length c0_1]) (t := 37) ?hr ?_; (case hd => rfl); (case hg => rfl); (case hr => first | (go_simp; done) | (go_simp; rfl)); intro gb137 hg w3 hbox hb; have n0_ := Aside0.mk (below_step (by repeat (first | (with_reducible first | exact HB.out | apply below_alloc | apply pw_below_drewN | apply below_drew1) | exact HB.out)) hb); have n1_ := Aside0.mk (hbox); have n2_ := Aside0.mk ((by rw [hg]; exact (below_size (by repeat (first | (with_reducible first | exact HB.out | apply below_alloc | apply pw_below_drewN | apply below_drew1) | exact HB.out))) : w.heap.size ≤ gb137)); have n3_ := Aside0.mk ((by rw [hg]; exact (below_size (by repeat (first | (with_reducible first | exact HB.out | apply below_alloc | apply pw_below_drewN | apply below_drew1) | exact HB.out))) : w.heap.size ≤ gb137)); clear HB; have HB := n0_; have BK137 := n1_; have GW137 := n2_; have GE137 := n3_; clear n0_ n1_ n2_ n3_; clear hb hbox hg; have hcz4_0 : w3.cell? ⟨gb137, 0, none⟩ = some (.int .i64 a0_0) := (blk_cell BK137.out 0).trans rfl; have hcz4_1 : w3.cell? ⟨gb137, 1, none⟩ = some (.slice A0_1 l0_1.length c0_1) := (blk_cell BK137.out 1).trans rfl; have hfz4_0 := blk_frozen BK137.out 0; have hfz4_1 := blk_frozen BK137.out 1))
  go_ret
  exact ⟨by first | rfl | (simp [errW_none, errW_some] <;> rfl) | (simp [*, errW_none, errW_some] <;> rfl), by repeat (first | (with_reducible first | exact HB.out | apply below_alloc | apply pw_below_drewN | apply below_drew1 | refine below_set ?_ GE137.out) | exact HB.out)⟩
 ·rw [if_neg c2] at H
  have c2b0 : decide (6 < (l0_1.length : Int)) = false := decide_eq_false c2
  have c2b1 : decide (6 < l0_1.length) = false := decide_eq_false (by omega)
  clear c2
  have H' := Aside0.mk H
  clear H
  go_enter Try.func13, Try.ntmps13
  go_wp2_with (first | ((with_reducible refine gate_dst (N := 1) rfl ?_); (try (refine gate_guard (by rfl) ?_; dsimp only)); refine box_event ?hg (N := 1) ?hd (cs := #[.int .i64 a0_0, .slice A0_1 l0_1.length c0_1]) (t := 37) ?hr ?_; (case hd => rfl); (case hg => rfl); (case hr => first | (go_simp; done) | (go_simp; rfl)); intro gb137 hg w5 hbox hb; have n0_ := Aside0.mk (below_step (by repeat (first | (with_reducible first | exact HB.out | apply below_alloc | apply pw_below_drewN | apply below_drew1) | exact HB.out)) hb); have n1_ := Aside0.mk (hbox); have n2_ := Aside0.mk ((by rw [hg]; exact (below_size (by repeat (first | (with_reducible first | exact HB.out | apply below_alloc | apply pw_below_drewN | apply below_drew1) | exact HB.out))) : w.heap.size ≤ gb137)); have n3_ := Aside0.mk ((by rw [hg]; exact (below_size (by repeat (first | (with_reducible first | exact HB.out | apply below_alloc | apply pw_below_drewN | apply below_drew1) | exact HB.out))) : w.heap.size ≤ gb137)); clear HB; have HB := n0_; have BK137 := n1_; have GW137 := n2_; have GE137 := n3_; clear n0_ n1_ n2_ n3_; clear hb hbox hg; have hcz6_0 : w5.cell? ⟨gb137, 0, none⟩ = some (.int .i64 a0_0) := (blk_cell BK137.out 0).trans rfl; have hcz6_1 : w5.cell? ⟨gb137, 1, none⟩ = some (.slice A0_1 l0_1.length c0_1) := (blk_cell BK137.out 1).trans rfl; have hfz6_0 := blk_frozen BK137.out 0; have hfz6_1 := blk_frozen BK137.out 1))
  go_loopg [3] k (fun kq v3 w' => ∃ (x3_1 : Int), v3 = .int .i64 x3_1 ∧ Aside0 (cutroomlaw18_light.l0 kq x3_1 a0_0 l0_1 = some r) ∧ Aside0 (kq ≤ k) ∧ Aside0 (w'.heap[gb137]? = some (.cells #[.int .i64 a0_0, (.slice A0_1 l0_1.length c0_1)] 37 (0, 0))) ∧ Aside0 (Below w.heap.size w w'))
  case atStart => exact ⟨(0), (by first | rfl | (simp; done) | (simp [*]; done)), H', ⟨Nat.le_refl _⟩, ⟨by (with_reducible repeat (first | refine blk_drewN ?_ _ | refine blk_drew ?_ | refine blk_alloc ?_ _)); exact BK137.out⟩, ⟨by repeat (first | (with_reducible first | exact HB.out | apply below_alloc | apply pw_below_drewN | apply below_drew1 | refine below_set ?_ GE137.out) | exact HB.out)⟩⟩
  case round =>
   clear H'
   (try clear c1);(try clear c2);(try clear c2b0);(try clear c2b1);(try clear p2);(try clear hcz4_0);(try clear hcz4_1);(try clear hcz6_0);(try clear hcz6_1);(try clear hfz4_0);(try clear hfz4_1);(try clear hfz6_0);(try clear hfz6_1)
   obtain ⟨x3_1, rfl, HA, HK1, BK137, HB⟩ := hrel
   cases gk with
   | zero => exact absurd HA.out (by simp [cutroomlaw18_light.l0])
   | succ k1 =>
    have H := HA.out
    clear HA
    simp only [cutroomlaw18_light.l0] at H
    by_cases c7 : x3_1 < (l0_1.length : Int)
    ·rw [if_pos c7] at H
     have c7b0 : decide (x3_1 < (l0_1.length : Int)) = true := decide_eq_true c7
     clear c7
     by_cases c8 : 0 ≤ x3_1
     ·rw [if_pos c8] at H
      have c8b0 : decide (0 ≤ x3_1) = true := decide_eq_true c8
      clear c8
      have HC9 := Aside0.mk H
      clear H
      have hcz10_0 : wr.cell? ⟨gb137, 0, none⟩ = some (.int .i64 a0_0) := (blk_cell BK137.out 0).trans rfl
      have hcz10_1 : wr.cell? ⟨gb137, 1, none⟩ = some (.slice A0_1 l0_1.length c0_1) := (blk_cell BK137.out 1).trans rfl
      have hfz10_0 := blk_frozen BK137.out 0
      have hfz10_1 := blk_frozen BK137.out 1
      have p138 : 0 ≤ (x3_1 : Int) := of_decide_eq_true (by first | (with_reducible assumption) | assumption)
      have q138 : x3_1 < (l0_1.length : Int) := of_decide_eq_true (by first | (with_reducible assumption) | assumption)
      obtain ⟨ad138, A138_2, c138_2, A138_3, c138_3, A138_4, c138_4, e138, hx138_0, hx138_1, hx138_2, hx138_3, hx138_4, hl138_2, hi138_2, hl138_3, hi138_3, hl138_4, hi138_4⟩ := at_T48 HR0_1.out x3_1 p138 q138
      cases e138
      replace hx138_0 := (HB.out.cell (World.block_lt_of_cell? w _ hx138_0)).trans hx138_0
      replace hx138_1 := (HB.out.cell (World.block_lt_of_cell? w _ hx138_1)).trans hx138_1
      replace hx138_2 := (HB.out.cell (World.block_lt_of_cell? w _ hx138_2)).trans hx138_2
      replace hx138_3 := (HB.out.cell (World.block_lt_of_cell? w _ hx138_3)).trans hx138_3
      replace hx138_4 := (HB.out.cell (World.block_lt_of_cell? w _ hx138_4)).trans hx138_4
      have HR138_2 := Aside0.mk hi138_2
      have HC138_2 := Aside0.mk hl138_2
      clear hi138_2 hl138_2
      have HR138_3 := Aside0.mk hi138_3
      have HC138_3 := Aside0.mk hl138_3
      clear hi138_3 hl138_3
      have HR138_4 := Aside0.mk hi138_4
      have HC138_4 := Aside0.mk hl138_4
      clear hi138_4 hl138_4
      replace p138 := eq_true p138
      replace q138 := eq_true q138
      go_upto_region 7 with (first | ((with_reducible refine gate_dst (N := 4) rfl ?_); (try (refine gate_guard (by rfl) ?_; dsimp only)); refine box_event ?hg (N := 4) ?hd (cs := #[.string (⟨#[]⟩ : ByteArray), .int .i64 0, .slice none 0 0, .slice none 0 0, .slice none 0 0]) (t := 48) ?hr ?_; (case hd => rfl); (case hg => rfl); (case hr => first | (go_simp; done) | (go_simp; rfl)); intro gb139 hg w11 hbox hb; have n0_ := Aside0.mk (blk_below (g := gb137) (o := .cells #[.int .i64 a0_0, .slice (some ad138) l0_1.length c0_1] 37 (0, 0)) (by (with_reducible repeat (first | refine blk_drewN ?_ _ | refine blk_drew ?_ | refine blk_alloc ?_ _)); exact BK137.out) hb); have n1_ := Aside0.mk (below_step (by repeat (first | (with_reducible first | exact HB.out | apply below_alloc | apply pw_below_drewN | apply below_drew1 | refine below_set ?_ GE137.out) | exact HB.out)) hb); have n2_ := Aside0.mk (hbox); have n3_ := Aside0.mk ((by rw [hg]; exact (below_size (by repeat (first | (with_reducible first | exact HB.out | apply below_alloc | apply pw_below_drewN | apply below_drew1 | refine below_set ?_ GE137.out) | exact HB.out))) : w.heap.size ≤ gb139)); have n4_ := Aside0.mk ((by rw [hg]; exact (below_size (by repeat (first | (with_reducible first | exact HB.out | apply below_alloc | apply pw_below_drewN | apply below_drew1 | refine below_set ?_ GE137.out) | exact HB.out))) : w.heap.size ≤ gb139)); have n5_ := Aside0.mk ((by rw [hg]; exact Nat.ne_of_lt (blk_lt (g := gb137) (o := .cells #[.int .i64 a0_0, .slice (some ad138) l0_1.length c0_1] 37 (0, 0)) (by (with_reducible repeat (first | refine blk_drewN ?_ _ | refine blk_drew ?_ | refine blk_alloc ?_ _)); exact BK137.out)) : gb137 ≠ gb139)); have n6_ := Aside0.mk ((by rw [hg]; exact Nat.ne_of_gt (blk_lt (g := gb137) (o := .cells #[.int .i64 a0_0, .slice (some ad138) l0_1.length c0_1] 37 (0, 0)) (by (with_reducible repeat (first | refine blk_drewN ?_ _ | refine blk_drew ?_ | refine blk_alloc ?_ _)); exact BK137.out)) : gb139 ≠ gb137)); clear BK137; clear HB; have BK137 := n0_; have HB := n1_; have BK139 := n2_; have GW139 := n3_; have GE139 := n4_; have NB137_139 := n5_; have NB139_137 := n6_; clear n0_ n1_ n2_ n3_ n4_ n5_ n6_; clear hb hbox hg; have hnb12 := NB139_137.out; have hnc12 := NB137_139.out; have hcz13_0 : w11.cell? ⟨gb139, 0, none⟩ = some (.string (⟨#[]⟩ : ByteArray)) := (blk_cell BK139.out 0).trans rfl; have hcz13_1 : w11.cell? ⟨gb139, 1, none⟩ = some (.int .i64 0) := (blk_cell BK139.out 1).trans rfl; have hcz13_2 : w11.cell? ⟨gb139, 2, none⟩ = some (.slice none 0 0) := (blk_cell BK139.out 2).trans rfl; have hcz13_3 : w11.cell? ⟨gb139, 3, none⟩ = some (.slice none 0 0) := (blk_cell BK139.out 3).trans rfl; have hcz13_4 : w11.cell? ⟨gb139, 4, none⟩ = some (.slice none 0 0) := (blk_cell BK139.out 4).trans rfl; have hfz13_0 := blk_frozen BK139.out 0; have hfz13_1 := blk_frozen BK139.out 1; have hfz13_2 := blk_frozen BK139.out 2; have hfz13_3 := blk_frozen BK139.out 3; have hfz13_4 := blk_frozen BK139.out 4))
      (try simp only [Act.put, List.setIfInBounds_toArray, List.set_cons_zero, List.set_cons_succ])
      go_cut [43] (fun v43 wc => ∃ (kq : Nat) (x43_8 : Bool), v43 = .bool x43_8 ∧ Aside0 (cutroomlaw18_light.j1 kq x3_1 x43_8 a0_0 l0_1 ((rd_T48 l0_1 x3_1).f0) ((rd_T48 l0_1 x3_1).f1) ((rd_T48 l0_1 x3_1).f2) ((rd_T48 l0_1 x3_1).f3) ((rd_T48 l0_1 x3_1).f4) = some r) ∧ Aside0 (kq ≤ k1) ∧ Aside0 (wc.heap[gb137]? = some (.cells #[.int .i64 a0_0, (.slice (some ad138) l0_1.length c0_1)] 37 (0, 0))) ∧ Aside0 (wc.heap[gb139]? = some (.cells #[.string ((rd_T48 l0_1 x3_1).f0), .int .i64 ((rd_T48 l0_1 x3_1).f1), (.slice A138_2 ((rd_T48 l0_1 x3_1).f2).length c138_2), (.slice A138_3 ((rd_T48 l0_1 x3_1).f3).length c138_3), (.slice A138_4 ((rd_T48 l0_1 x3_1).f4).length c138_4)] 48 (0, 0))) ∧ Aside0 (Below w.heap.size w wc))
      case first =>
       have H := HC9.out
       clear HC9
       by_cases c14 : (((rd_T48 l0_1 x3_1).f0).size : Int) > 20
       ·rw [if_pos c14] at H
        have c14b0 : decide (20 < (((rd_T48 l0_1 x3_1).f0).size : Int)) = true := decide_eq_true c14
        have c14b1 : decide (20 < ((rd_T48 l0_1 x3_1).f0).size) = true := decide_eq_true (by omega)
        clear c14
        (first | rw [c14b0] | (simp only [i64_w, i32_w]; rw [c14b0]) | skip)
        have H' := Aside0.mk H
        clear H
        have hnb15 := NB139_137.out
        have hnc15 := NB137_139.out
        have hcz16_0 : w11.cell? ⟨gb139, 0, none⟩ = some (.string (⟨#[]⟩ : ByteArray)) := (blk_cell BK139.out 0).trans rfl
        have hcz16_1 : w11.cell? ⟨gb139, 1, none⟩ = some (.int .i64 0) := (blk_cell BK139.out 1).trans rfl
        have hcz16_2 : w11.cell? ⟨gb139, 2, none⟩ = some (.slice none 0 0) := (blk_cell BK139.out 2).trans rfl
        have hcz16_3 : w11.cell? ⟨gb139, 3, none⟩ = some (.slice none 0 0) := (blk_cell BK139.out 3).trans rfl
        have hcz16_4 : w11.cell? ⟨gb139, 4, none⟩ = some (.slice none 0 0) := (blk_cell BK139.out 4).trans rfl
        have hfz16_0 := blk_frozen BK139.out 0
        have hfz16_1 := blk_frozen BK139.out 1
        have hfz16_2 := blk_frozen BK139.out 2
        have hfz16_3 := blk_frozen BK139.out 3
        have hfz16_4 := blk_frozen BK139.out 4
        go_wp2
        go_meet
        case rel => exact ⟨_, (true), (by first | rfl | (simp; done) | (simp [*]; done)), H', ⟨by have := HK1.out; first | omega | exact Nat.le_refl _⟩, ⟨by (with_reducible repeat (first | refine blk_drewN ?_ _ | refine blk_drew ?_ | refine blk_alloc ?_ _)); refine blk_far ?_ NB137_139.out _; (with_reducible repeat (first | refine blk_drewN ?_ _ | refine blk_drew ?_ | refine blk_alloc ?_ _)); refine blk_far ?_ NB137_139.out _; (with_reducible repeat (first | refine blk_drewN ?_ _ | refine blk_drew ?_ | refine blk_alloc ?_ _)); refine blk_far ?_ NB137_139.out _; (with_reducible repeat (first | refine blk_drewN ?_ _ | refine blk_drew ?_ | refine blk_alloc ?_ _)); refine blk_far ?_ NB137_139.out _; (with_reducible repeat (first | refine blk_drewN ?_ _ | refine blk_drew ?_ | refine blk_alloc ?_ _)); refine blk_far ?_ NB137_139.out _; (with_reducible repeat (first | refine blk_drewN ?_ _ | refine blk_drew ?_ | refine blk_alloc ?_ _)); exact BK137.out⟩, ⟨by (with_reducible repeat (first | refine blk_drewN ?_ _ | refine blk_drew ?_ | refine blk_alloc ?_ _)); refine blk_put (cs := #[.string ((rd_T48 l0_1 x3_1).f0), .int .i64 ((rd_T48 l0_1 x3_1).f1), .slice A138_2 ((rd_T48 l0_1 x3_1).f2).length c138_2, .slice A138_3 ((rd_T48 l0_1 x3_1).f3).length c138_3, .slice none 0 0]) ?_ 4 _ rfl; (with_reducible repeat (first | refine blk_drewN ?_ _ | refine blk_drew ?_ | refine blk_alloc ?_ _)); refine blk_put (cs := #[.string ((rd_T48 l0_1 x3_1).f0), .int .i64 ((rd_T48 l0_1 x3_1).f1), .slice A138_2 ((rd_T48 l0_1 x3_1).f2).length c138_2, .slice none 0 0, .slice none 0 0]) ?_ 3 _ rfl; (with_reducible repeat (first | refine blk_drewN ?_ _ | refine blk_drew ?_ | refine blk_alloc ?_ _)); refine blk_put (cs := #[.string ((rd_T48 l0_1 x3_1).f0), .int .i64 ((rd_T48 l0_1 x3_1).f1), .slice none 0 0, .slice none 0 0, .slice none 0 0]) ?_ 2 _ rfl; (with_reducible repeat (first | refine blk_drewN ?_ _ | refine blk_drew ?_ | refine blk_alloc ?_ _)); refine blk_put (cs := #[.string ((rd_T48 l0_1 x3_1).f0), .int .i64 0, .slice none 0 0, .slice none 0 0, .slice none 0 0]) ?_ 1 _ rfl; (with_reducible repeat (first | refine blk_drewN ?_ _ | refine blk_drew ?_ | refine blk_alloc ?_ _)); refine blk_put (cs := #[.string (⟨#[]⟩ : ByteArray), .int .i64 0, .slice none 0 0, .slice none 0 0, .slice none 0 0]) ?_ 0 _ rfl; (with_reducible repeat (first | refine blk_drewN ?_ _ | refine blk_drew ?_ | refine blk_alloc ?_ _)); exact BK139.out⟩, ⟨by repeat (first | (with_reducible first | exact HB.out | apply below_alloc | apply pw_below_drewN | apply below_drew1 | refine below_set ?_ GE137.out | refine below_set ?_ GE139.out) | exact HB.out)⟩⟩
       ·rw [if_neg c14] at H
        have c14b0 : decide (20 < (((rd_T48 l0_1 x3_1).f0).size : Int)) = false := decide_eq_false c14
        have c14b1 : decide (20 < ((rd_T48 l0_1 x3_1).f0).size) = false := decide_eq_false (by omega)
        clear c14
        (first | rw [c14b0] | (simp only [i64_w, i32_w]; rw [c14b0]) | skip)
        by_cases c17 : (((rd_T48 l0_1 x3_1).f2).length : Int) > 5000
        ·rw [if_pos c17] at H
         have c17b0 : decide (5000 < (((rd_T48 l0_1 x3_1).f2).length : Int)) = true := decide_eq_true c17
         have c17b1 : decide (5000 < ((rd_T48 l0_1 x3_1).f2).length) = true := decide_eq_true (by omega)
         clear c17
         have H' := Aside0.mk H
         clear H
         have hnb18 := NB139_137.out
         have hnc18 := NB137_139.out
         have hcz19_0 : w11.cell? ⟨gb139, 0, none⟩ = some (.string (⟨#[]⟩ : ByteArray)) := (blk_cell BK139.out 0).trans rfl
         have hcz19_1 : w11.cell? ⟨gb139, 1, none⟩ = some (.int .i64 0) := (blk_cell BK139.out 1).trans rfl
         have hcz19_2 : w11.cell? ⟨gb139, 2, none⟩ = some (.slice none 0 0) := (blk_cell BK139.out 2).trans rfl
         have hcz19_3 : w11.cell? ⟨gb139, 3, none⟩ = some (.slice none 0 0) := (blk_cell BK139.out 3).trans rfl
         have hcz19_4 : w11.cell? ⟨gb139, 4, none⟩ = some (.slice none 0 0) := (blk_cell BK139.out 4).trans rfl
         have hfz19_0 := blk_frozen BK139.out 0
         have hfz19_1 := blk_frozen BK139.out 1
         have hfz19_2 := blk_frozen BK139.out 2
         have hfz19_3 := blk_frozen BK139.out 3
         have hfz19_4 := blk_frozen BK139.out 4
         go_wp2
         go_meet
         case rel => exact ⟨_, (true), (by first | rfl | (simp; done) | (simp [*]; done)), H', ⟨by have := HK1.out; first | omega | exact Nat.le_refl _⟩, ⟨by (with_reducible repeat (first | refine blk_drewN ?_ _ | refine blk_drew ?_ | refine blk_alloc ?_ _)); refine blk_far ?_ NB137_139.out _; (with_reducible repeat (first | refine blk_drewN ?_ _ | refine blk_drew ?_ | refine blk_alloc ?_ _)); refine blk_far ?_ NB137_139.out _; (with_reducible repeat (first | refine blk_drewN ?_ _ | refine blk_drew ?_ | refine blk_alloc ?_ _)); refine blk_far ?_ NB137_139.out _; (with_reducible repeat (first | refine blk_drewN ?_ _ | refine blk_drew ?_ | refine blk_alloc ?_ _)); refine blk_far ?_ NB137_139.out _; (with_reducible repeat (first | refine blk_drewN ?_ _ | refine blk_drew ?_ | refine blk_alloc ?_ _)); refine blk_far ?_ NB137_139.out _; (with_reducible repeat (first | refine blk_drewN ?_ _ | refine blk_drew ?_ | refine blk_alloc ?_ _)); exact BK137.out⟩, ⟨by (with_reducible repeat (first | refine blk_drewN ?_ _ | refine blk_drew ?_ | refine blk_alloc ?_ _)); refine blk_put (cs := #[.string ((rd_T48 l0_1 x3_1).f0), .int .i64 ((rd_T48 l0_1 x3_1).f1), .slice A138_2 ((rd_T48 l0_1 x3_1).f2).length c138_2, .slice A138_3 ((rd_T48 l0_1 x3_1).f3).length c138_3, .slice none 0 0]) ?_ 4 _ rfl; (with_reducible repeat (first | refine blk_drewN ?_ _ | refine blk_drew ?_ | refine blk_alloc ?_ _)); refine blk_put (cs := #[.string ((rd_T48 l0_1 x3_1).f0), .int .i64 ((rd_T48 l0_1 x3_1).f1), .slice A138_2 ((rd_T48 l0_1 x3_1).f2).length c138_2, .slice none 0 0, .slice none 0 0]) ?_ 3 _ rfl; (with_reducible repeat (first | refine blk_drewN ?_ _ | refine blk_drew ?_ | refine blk_alloc ?_ _)); refine blk_put (cs := #[.string ((rd_T48 l0_1 x3_1).f0), .int .i64 ((rd_T48 l0_1 x3_1).f1), .slice none 0 0, .slice none 0 0, .slice none 0 0]) ?_ 2 _ rfl; (with_reducible repeat (first | refine blk_drewN ?_ _ | refine blk_drew ?_ | refine blk_alloc ?_ _)); refine blk_put (cs := #[.string ((rd_T48 l0_1 x3_1).f0), .int .i64 0, .slice none 0 0, .slice none 0 0, .slice none 0 0]) ?_ 1 _ rfl; (with_reducible repeat (first | refine blk_drewN ?_ _ | refine blk_drew ?_ | refine blk_alloc ?_ _)); refine blk_put (cs := #[.string (⟨#[]⟩ : ByteArray), .int .i64 0, .slice none 0 0, .slice none 0 0, .slice none 0 0]) ?_ 0 _ rfl; (with_reducible repeat (first | refine blk_drewN ?_ _ | refine blk_drew ?_ | refine blk_alloc ?_ _)); exact BK139.out⟩, ⟨by repeat (first | (with_reducible first | exact HB.out | apply below_alloc | apply pw_below_drewN | apply below_drew1 | refine below_set ?_ GE137.out | refine below_set ?_ GE139.out) | exact HB.out)⟩⟩
        ·rw [if_neg c17] at H
         have c17b0 : decide (5000 < (((rd_T48 l0_1 x3_1).f2).length : Int)) = false := decide_eq_false c17
         have c17b1 : decide (5000 < ((rd_T48 l0_1 x3_1).f2).length) = false := decide_eq_false (by omega)
         clear c17
         by_cases c20 : (((rd_T48 l0_1 x3_1).f3).length : Int) > 40
         ·rw [if_pos c20] at H
          have c20b0 : decide (40 < (((rd_T48 l0_1 x3_1).f3).length : Int)) = true := decide_eq_true c20
          have c20b1 : decide (40 < ((rd_T48 l0_1 x3_1).f3).length) = true := decide_eq_true (by omega)
          clear c20
          have H' := Aside0.mk H
          clear H
          have hnb21 := NB139_137.out
          have hnc21 := NB137_139.out
          have hcz22_0 : w11.cell? ⟨gb139, 0, none⟩ = some (.string (⟨#[]⟩ : ByteArray)) := (blk_cell BK139.out 0).trans rfl
          have hcz22_1 : w11.cell? ⟨gb139, 1, none⟩ = some (.int .i64 0) := (blk_cell BK139.out 1).trans rfl
          have hcz22_2 : w11.cell? ⟨gb139, 2, none⟩ = some (.slice none 0 0) := (blk_cell BK139.out 2).trans rfl
          have hcz22_3 : w11.cell? ⟨gb139, 3, none⟩ = some (.slice none 0 0) := (blk_cell BK139.out 3).trans rfl
          have hcz22_4 : w11.cell? ⟨gb139, 4, none⟩ = some (.slice none 0 0) := (blk_cell BK139.out 4).trans rfl
          have hfz22_0 := blk_frozen BK139.out 0
          have hfz22_1 := blk_frozen BK139.out 1
          have hfz22_2 := blk_frozen BK139.out 2
          have hfz22_3 := blk_frozen BK139.out 3
          have hfz22_4 := blk_frozen BK139.out 4
          go_wp2
          go_meet
          case rel => exact ⟨_, (true), (by first | rfl | (simp; done) | (simp [*]; done)), H', ⟨by have := HK1.out; first | omega | exact Nat.le_refl _⟩, ⟨by (with_reducible repeat (first | refine blk_drewN ?_ _ | refine blk_drew ?_ | refine blk_alloc ?_ _)); refine blk_far ?_ NB137_139.out _; (with_reducible repeat (first | refine blk_drewN ?_ _ | refine blk_drew ?_ | refine blk_alloc ?_ _)); refine blk_far ?_ NB137_139.out _; (with_reducible repeat (first | refine blk_drewN ?_ _ | refine blk_drew ?_ | refine blk_alloc ?_ _)); refine blk_far ?_ NB137_139.out _; (with_reducible repeat (first | refine blk_drewN ?_ _ | refine blk_drew ?_ | refine blk_alloc ?_ _)); refine blk_far ?_ NB137_139.out _; (with_reducible repeat (first | refine blk_drewN ?_ _ | refine blk_drew ?_ | refine blk_alloc ?_ _)); refine blk_far ?_ NB137_139.out _; (with_reducible repeat (first | refine blk_drewN ?_ _ | refine blk_drew ?_ | refine blk_alloc ?_ _)); exact BK137.out⟩, ⟨by (with_reducible repeat (first | refine blk_drewN ?_ _ | refine blk_drew ?_ | refine blk_alloc ?_ _)); refine blk_put (cs := #[.string ((rd_T48 l0_1 x3_1).f0), .int .i64 ((rd_T48 l0_1 x3_1).f1), .slice A138_2 ((rd_T48 l0_1 x3_1).f2).length c138_2, .slice A138_3 ((rd_T48 l0_1 x3_1).f3).length c138_3, .slice none 0 0]) ?_ 4 _ rfl; (with_reducible repeat (first | refine blk_drewN ?_ _ | refine blk_drew ?_ | refine blk_alloc ?_ _)); refine blk_put (cs := #[.string ((rd_T48 l0_1 x3_1).f0), .int .i64 ((rd_T48 l0_1 x3_1).f1), .slice A138_2 ((rd_T48 l0_1 x3_1).f2).length c138_2, .slice none 0 0, .slice none 0 0]) ?_ 3 _ rfl; (with_reducible repeat (first | refine blk_drewN ?_ _ | refine blk_drew ?_ | refine blk_alloc ?_ _)); refine blk_put (cs := #[.string ((rd_T48 l0_1 x3_1).f0), .int .i64 ((rd_T48 l0_1 x3_1).f1), .slice none 0 0, .slice none 0 0, .slice none 0 0]) ?_ 2 _ rfl; (with_reducible repeat (first | refine blk_drewN ?_ _ | refine blk_drew ?_ | refine blk_alloc ?_ _)); refine blk_put (cs := #[.string ((rd_T48 l0_1 x3_1).f0), .int .i64 0, .slice none 0 0, .slice none 0 0, .slice none 0 0]) ?_ 1 _ rfl; (with_reducible repeat (first | refine blk_drewN ?_ _ | refine blk_drew ?_ | refine blk_alloc ?_ _)); refine blk_put (cs := #[.string (⟨#[]⟩ : ByteArray), .int .i64 0, .slice none 0 0, .slice none 0 0, .slice none 0 0]) ?_ 0 _ rfl; (with_reducible repeat (first | refine blk_drewN ?_ _ | refine blk_drew ?_ | refine blk_alloc ?_ _)); exact BK139.out⟩, ⟨by repeat (first | (with_reducible first | exact HB.out | apply below_alloc | apply pw_below_drewN | apply below_drew1 | refine below_set ?_ GE137.out | refine below_set ?_ GE139.out) | exact HB.out)⟩⟩
         ·rw [if_neg c20] at H
          have c20b0 : decide (40 < (((rd_T48 l0_1 x3_1).f3).length : Int)) = false := decide_eq_false c20
          have c20b1 : decide (40 < ((rd_T48 l0_1 x3_1).f3).length) = false := decide_eq_false (by omega)
          clear c20
          have H' := Aside0.mk H
          clear H
          have hnb23 := NB139_137.out
          have hnc23 := NB137_139.out
          have hcz24_0 : w11.cell? ⟨gb139, 0, none⟩ = some (.string (⟨#[]⟩ : ByteArray)) := (blk_cell BK139.out 0).trans rfl
          have hcz24_1 : w11.cell? ⟨gb139, 1, none⟩ = some (.int .i64 0) := (blk_cell BK139.out 1).trans rfl
          have hcz24_2 : w11.cell? ⟨gb139, 2, none⟩ = some (.slice none 0 0) := (blk_cell BK139.out 2).trans rfl
          have hcz24_3 : w11.cell? ⟨gb139, 3, none⟩ = some (.slice none 0 0) := (blk_cell BK139.out 3).trans rfl
          have hcz24_4 : w11.cell? ⟨gb139, 4, none⟩ = some (.slice none 0 0) := (blk_cell BK139.out 4).trans rfl
          have hfz24_0 := blk_frozen BK139.out 0
          have hfz24_1 := blk_frozen BK139.out 1
          have hfz24_2 := blk_frozen BK139.out 2
          have hfz24_3 := blk_frozen BK139.out 3
          have hfz24_4 := blk_frozen BK139.out 4
          go_wp2
          go_meet
          case rel => exact ⟨_, (decide ((((rd_T48 l0_1 x3_1).f4).length : Int) > 70)), (by first | rfl | (simp; done) | (simp [*]; done)), H', ⟨by have := HK1.out; first | omega | exact Nat.le_refl _⟩, ⟨by (with_reducible repeat (first | refine blk_drewN ?_ _ | refine blk_drew ?_ | refine blk_alloc ?_ _)); refine blk_far ?_ NB137_139.out _; (with_reducible repeat (first | refine blk_drewN ?_ _ | refine blk_drew ?_ | refine blk_alloc ?_ _)); refine blk_far ?_ NB137_139.out _; (with_reducible repeat (first | refine blk_drewN ?_ _ | refine blk_drew ?_ | refine blk_alloc ?_ _)); refine blk_far ?_ NB137_139.out _; (with_reducible repeat (first | refine blk_drewN ?_ _ | refine blk_drew ?_ | refine blk_alloc ?_ _)); refine blk_far ?_ NB137_139.out _; (with_reducible repeat (first | refine blk_drewN ?_ _ | refine blk_drew ?_ | refine blk_alloc ?_ _)); refine blk_far ?_ NB137_139.out _; (with_reducible repeat (first | refine blk_drewN ?_ _ | refine blk_drew ?_ | refine blk_alloc ?_ _)); exact BK137.out⟩, ⟨by (with_reducible repeat (first | refine blk_drewN ?_ _ | refine blk_drew ?_ | refine blk_alloc ?_ _)); refine blk_put (cs := #[.string ((rd_T48 l0_1 x3_1).f0), .int .i64 ((rd_T48 l0_1 x3_1).f1), .slice A138_2 ((rd_T48 l0_1 x3_1).f2).length c138_2, .slice A138_3 ((rd_T48 l0_1 x3_1).f3).length c138_3, .slice none 0 0]) ?_ 4 _ rfl; (with_reducible repeat (first | refine blk_drewN ?_ _ | refine blk_drew ?_ | refine blk_alloc ?_ _)); refine blk_put (cs := #[.string ((rd_T48 l0_1 x3_1).f0), .int .i64 ((rd_T48 l0_1 x3_1).f1), .slice A138_2 ((rd_T48 l0_1 x3_1).f2).length c138_2, .slice none 0 0, .slice none 0 0]) ?_ 3 _ rfl; (with_reducible repeat (first | refine blk_drewN ?_ _ | refine blk_drew ?_ | refine blk_alloc ?_ _)); refine blk_put (cs := #[.string ((rd_T48 l0_1 x3_1).f0), .int .i64 ((rd_T48 l0_1 x3_1).f1), .slice none 0 0, .slice none 0 0, .slice none 0 0]) ?_ 2 _ rfl; (with_reducible repeat (first | refine blk_drewN ?_ _ | refine blk_drew ?_ | refine blk_alloc ?_ _)); refine blk_put (cs := #[.string ((rd_T48 l0_1 x3_1).f0), .int .i64 0, .slice none 0 0, .slice none 0 0, .slice none 0 0]) ?_ 1 _ rfl; (with_reducible repeat (first | refine blk_drewN ?_ _ | refine blk_drew ?_ | refine blk_alloc ?_ _)); refine blk_put (cs := #[.string (⟨#[]⟩ : ByteArray), .int .i64 0, .slice none 0 0, .slice none 0 0, .slice none 0 0]) ?_ 0 _ rfl; (with_reducible repeat (first | refine blk_drewN ?_ _ | refine blk_drew ?_ | refine blk_alloc ?_ _)); exact BK139.out⟩, ⟨by repeat (first | (with_reducible first | exact HB.out | apply below_alloc | apply pw_below_drewN | apply below_drew1 | refine below_set ?_ GE137.out | refine below_set ?_ GE139.out) | exact HB.out)⟩⟩
      case rest =>
       clear HC9
       (try clear c1);(try clear p1);(try clear q1);(try clear hx1);(try clear c2);(try clear c2b0);(try clear c2b1);(try clear p2);(try clear c7);(try clear c7b0);(try clear c8);(try clear c8b0);(try clear c12);(try clear c13);(try clear p13);(try clear q13);(try clear hx13);(try clear c14);(try clear c14b0);(try clear c14b1);(try clear c15);(try clear c17);(try clear c17b0);(try clear c17b1);(try clear c18);(try clear c20);(try clear c20b0);(try clear c20b1);(try clear c21);(try clear c23);(try clear hcz10_0);(try clear hcz10_1);(try clear hcz13_0);(try clear hcz13_1);(try clear hcz13_2);(try clear hcz13_3);(try clear hcz13_4);(try clear hcz16_0);(try clear hcz16_1);(try clear hcz16_2);(try clear hcz16_3);(try clear hcz16_4);(try clear hcz19_0);(try clear hcz19_1);(try clear hcz19_2);(try clear hcz19_3);(try clear hcz19_4);(try clear hcz22_0);(try clear hcz22_1);(try clear hcz22_2)
       (try clear hcz22_3);(try clear hcz22_4);(try clear hcz24_0);(try clear hcz24_1);(try clear hcz24_2);(try clear hcz24_3);(try clear hcz24_4);(try clear hcz4_0);(try clear hcz4_1);(try clear hcz6_0);(try clear hcz6_1);(try clear hfz10_0);(try clear hfz10_1);(try clear hfz13_0);(try clear hfz13_1);(try clear hfz13_2);(try clear hfz13_3);(try clear hfz13_4);(try clear hfz16_0);(try clear hfz16_1);(try clear hfz16_2);(try clear hfz16_3);(try clear hfz16_4);(try clear hfz19_0);(try clear hfz19_1);(try clear hfz19_2);(try clear hfz19_3);(try clear hfz19_4);(try clear hfz22_0);(try clear hfz22_1);(try clear hfz22_2);(try clear hfz22_3);(try clear hfz22_4);(try clear hfz24_0);(try clear hfz24_1);(try clear hfz24_2);(try clear hfz24_3);(try clear hfz24_4);(try clear hfz4_0);(try clear hfz4_1);(try clear hfz6_0);(try clear hfz6_1);(try clear hx138_0);(try clear hx138_1);(try clear hx138_2)
       (try clear hx138_3);(try clear hx138_4);(try clear p138);(try clear p2);(try clear q138)
       obtain ⟨kq, x43_8, rfl, HA, HJ8, BK137, BK139, HB⟩ := hcut
       cases kq with
       | zero => exact absurd HA.out (by simp [cutroomlaw18_light.j1])
       | succ kj8 =>
        have H := HA.out
        clear HA
        simp only [cutroomlaw18_light.j1] at H
        by_cases c25 : x43_8 = true
        ·subst c25
         have H1 : (some false) = some r := by rw [if_pos rfl] at H; exact H
         clear H
         have H := H1
         clear H1
         obtain rfl := Option.some.inj H
         go_wp2
         go_ret
         exact ⟨by first | rfl | (simp [errW_none, errW_some] <;> rfl) | (simp [*, errW_none, errW_some] <;> rfl), by repeat (first | (with_reducible first | exact HB.out | apply below_alloc | apply pw_below_drewN | apply below_drew1 | refine below_set ?_ GE137.out | refine below_set ?_ GE139.out) | exact HB.out)⟩
        ·replace c25 := Bool.eq_false_iff.mpr c25
         subst c25
         have H1 : (cutroomlaw18_light.l1 kj8 x3_1 0 a0_0 l0_1 ((rd_T48 l0_1 x3_1).f0) ((rd_T48 l0_1 x3_1).f1) ((rd_T48 l0_1 x3_1).f2) ((rd_T48 l0_1 x3_1).f3) ((rd_T48 l0_1 x3_1).f4)) = some r := by rw [if_neg (show ¬ (false = true) by decide)] at H; exact H
         clear H
         have H := H1
         clear H1
         have H' := Aside0.mk H
         clear H
         go_wp2
         go_loopg [5] kj8 (fun kq v5 w' => ∃ (x5_3 : Int), v5 = .int .i64 x5_3 ∧ Aside0 (cutroomlaw18_light.l1 kq x3_1 x5_3 a0_0 l0_1 ((rd_T48 l0_1 x3_1).f0) ((rd_T48 l0_1 x3_1).f1) ((rd_T48 l0_1 x3_1).f2) ((rd_T48 l0_1 x3_1).f3) ((rd_T48 l0_1 x3_1).f4) = some r) ∧ Aside0 (kq ≤ kj8) ∧ Aside0 (w'.heap[gb137]? = some (.cells #[.int .i64 a0_0, (.slice (some ad138) l0_1.length c0_1)] 37 (0, 0))) ∧ Aside0 (w'.heap[gb139]? = some (.cells #[.string ((rd_T48 l0_1 x3_1).f0), .int .i64 ((rd_T48 l0_1 x3_1).f1), (.slice A138_2 ((rd_T48 l0_1 x3_1).f2).length c138_2), (.slice A138_3 ((rd_T48 l0_1 x3_1).f3).length c138_3), (.slice A138_4 ((rd_T48 l0_1 x3_1).f4).length c138_4)] 48 (0, 0))) ∧ Aside0 (Below w.heap.size w w'))
         case atStart => exact ⟨(0), (by first | rfl | (simp; done) | (simp [*]; done)), H', ⟨Nat.le_refl _⟩, ⟨by (with_reducible repeat (first | refine blk_drewN ?_ _ | refine blk_drew ?_ | refine blk_alloc ?_ _)); exact BK137.out⟩, ⟨by (with_reducible repeat (first | refine blk_drewN ?_ _ | refine blk_drew ?_ | refine blk_alloc ?_ _)); exact BK139.out⟩, ⟨by repeat (first | (with_reducible first | exact HB.out | apply below_alloc | apply pw_below_drewN | apply below_drew1 | refine below_set ?_ GE137.out | refine below_set ?_ GE139.out) | exact HB.out)⟩⟩
         case round =>
          clear H'
          (try clear c1);(try clear p1);(try clear q1);(try clear hx1);(try clear c2);(try clear c2b0);(try clear c2b1);(try clear p2);(try clear c7);(try clear c7b0);(try clear c8);(try clear c8b0);(try clear c12);(try clear c13);(try clear p13);(try clear q13);(try clear hx13);(try clear c14);(try clear c14b0);(try clear c14b1);(try clear c15);(try clear c17);(try clear c17b0);(try clear c17b1);(try clear c18);(try clear c20);(try clear c20b0);(try clear c20b1);(try clear c21);(try clear c23);(try clear c25);(try clear hcz10_0);(try clear hcz10_1);(try clear hcz13_0);(try clear hcz13_1);(try clear hcz13_2);(try clear hcz13_3);(try clear hcz13_4);(try clear hcz16_0);(try clear hcz16_1);(try clear hcz16_2);(try clear hcz16_3);(try clear hcz16_4);(try clear hcz19_0);(try clear hcz19_1);(try clear hcz19_2);(try clear hcz19_3);(try clear hcz19_4);(try clear hcz22_0);(try clear hcz22_1)
          (try clear hcz22_2);(try clear hcz22_3);(try clear hcz22_4);(try clear hcz24_0);(try clear hcz24_1);(try clear hcz24_2);(try clear hcz24_3);(try clear hcz24_4);(try clear hcz4_0);(try clear hcz4_1);(try clear hcz6_0);(try clear hcz6_1);(try clear hfz10_0);(try clear hfz10_1);(try clear hfz13_0);(try clear hfz13_1);(try clear hfz13_2);(try clear hfz13_3);(try clear hfz13_4);(try clear hfz16_0);(try clear hfz16_1);(try clear hfz16_2);(try clear hfz16_3);(try clear hfz16_4);(try clear hfz19_0);(try clear hfz19_1);(try clear hfz19_2);(try clear hfz19_3);(try clear hfz19_4);(try clear hfz22_0);(try clear hfz22_1);(try clear hfz22_2);(try clear hfz22_3);(try clear hfz22_4);(try clear hfz24_0);(try clear hfz24_1);(try clear hfz24_2);(try clear hfz24_3);(try clear hfz24_4);(try clear hfz4_0);(try clear hfz4_1);(try clear hfz6_0);(try clear hfz6_1);(try clear hx138_0);(try clear hx138_1)
          (try clear hx138_2);(try clear hx138_3);(try clear hx138_4);(try clear p1);(try clear p13);(try clear p138);(try clear p2);(try clear q1);(try clear q13);(try clear q138)
          obtain ⟨x5_3, rfl, HA, HK3, BK137, BK139, HB⟩ := hrel
          cases gk with
          | zero => exact absurd HA.out (by simp [cutroomlaw18_light.l1])
          | succ k3 =>
           have H := HA.out
           clear HA
           simp only [cutroomlaw18_light.l1] at H
           by_cases c26 : x5_3 < (((rd_T48 l0_1 x3_1).f3).length : Int)
           ·rw [if_pos c26] at H
            have c26b0 : decide (x5_3 < (((rd_T48 l0_1 x3_1).f3).length : Int)) = true := decide_eq_true c26
            clear c26
            by_cases c27 : 0 ≤ x5_3
            ·rw [if_pos c27] at H
             have c27b0 : decide (0 ≤ x5_3) = true := decide_eq_true c27
             clear c27
             by_cases c28 : (((rd_T74 ((rd_T48 l0_1 x3_1).f3) x5_3).f0).length : Int) > 500
             ·rw [if_pos c28] at H
              have c28b0 : decide (500 < (((rd_T74 ((rd_T48 l0_1 x3_1).f3) x5_3).f0).length : Int)) = true := decide_eq_true c28
              have c28b1 : decide (500 < ((rd_T74 ((rd_T48 l0_1 x3_1).f3) x5_3).f0).length) = true := decide_eq_true (by omega)
              clear c28
              obtain rfl := Option.some.inj H
              have hnb29 := NB139_137.out
              have hnc29 := NB137_139.out
              have hcz30_0 : wr.cell? ⟨gb139, 0, none⟩ = some (.string ((rd_T48 l0_1 x3_1).f0)) := (blk_cell BK139.out 0).trans rfl
              have hcz30_1 : wr.cell? ⟨gb139, 1, none⟩ = some (.int .i64 ((rd_T48 l0_1 x3_1).f1)) := (blk_cell BK139.out 1).trans rfl
              have hcz30_2 : wr.cell? ⟨gb139, 2, none⟩ = some (.slice A138_2 ((rd_T48 l0_1 x3_1).f2).length c138_2) := (blk_cell BK139.out 2).trans rfl
              have hcz30_3 : wr.cell? ⟨gb139, 3, none⟩ = some (.slice A138_3 ((rd_T48 l0_1 x3_1).f3).length c138_3) := (blk_cell BK139.out 3).trans rfl
              have hcz30_4 : wr.cell? ⟨gb139, 4, none⟩ = some (.slice A138_4 ((rd_T48 l0_1 x3_1).f4).length c138_4) := (blk_cell BK139.out 4).trans rfl
              have hfz30_0 := blk_frozen BK139.out 0
              have hfz30_1 := blk_frozen BK139.out 1
              have hfz30_2 := blk_frozen BK139.out 2
              have hfz30_3 := blk_frozen BK139.out 3
              have hfz30_4 := blk_frozen BK139.out 4
              have p140 : 0 ≤ (x5_3 : Int) := of_decide_eq_true (by first | (with_reducible assumption) | assumption)
              have q140 : x5_3 < (((rd_T48 l0_1 x3_1).f3).length : Int) := of_decide_eq_true (by first | (with_reducible assumption) | assumption)
              obtain ⟨ad140, A140_0, c140_0, e140, hx140_0, hx140_1, hx140_2, hx140_3, hl140_0, hi140_0⟩ := at_T74 HR138_3.out x5_3 p140 q140
              cases e140
              replace hx140_0 := (HB.out.cell (World.block_lt_of_cell? w _ hx140_0)).trans hx140_0
              replace hx140_1 := (HB.out.cell (World.block_lt_of_cell? w _ hx140_1)).trans hx140_1
              replace hx140_2 := (HB.out.cell (World.block_lt_of_cell? w _ hx140_2)).trans hx140_2
              replace hx140_3 := (HB.out.cell (World.block_lt_of_cell? w _ hx140_3)).trans hx140_3
              have HR140_0 := Aside0.mk hi140_0
              have HC140_0 := Aside0.mk hl140_0
              clear hi140_0 hl140_0
              replace p140 := eq_true p140
              replace q140 := eq_true q140
              go_wp2
              go_ret
              exact ⟨by first | rfl | (simp [errW_none, errW_some] <;> rfl) | (simp [*, errW_none, errW_some] <;> rfl), by repeat (first | (with_reducible first | exact HB.out | apply below_alloc | apply pw_below_drewN | apply below_drew1 | refine below_set ?_ GE137.out | refine below_set ?_ GE139.out) | exact HB.out)⟩
             ·rw [if_neg c28] at H
              have c28b0 : decide (500 < (((rd_T74 ((rd_T48 l0_1 x3_1).f3) x5_3).f0).length : Int)) = false := decide_eq_false c28
              have c28b1 : decide (500 < ((rd_T74 ((rd_T48 l0_1 x3_1).f3) x5_3).f0).length) = false := decide_eq_false (by omega)
              clear c28
              have H' := Aside0.mk H
              clear H
              have hnb31 := NB139_137.out
              have hnc31 := NB137_139.out
              have hcz32_0 : wr.cell? ⟨gb139, 0, none⟩ = some (.string ((rd_T48 l0_1 x3_1).f0)) := (blk_cell BK139.out 0).trans rfl
              have hcz32_1 : wr.cell? ⟨gb139, 1, none⟩ = some (.int .i64 ((rd_T48 l0_1 x3_1).f1)) := (blk_cell BK139.out 1).trans rfl
              have hcz32_2 : wr.cell? ⟨gb139, 2, none⟩ = some (.slice A138_2 ((rd_T48 l0_1 x3_1).f2).length c138_2) := (blk_cell BK139.out 2).trans rfl
              have hcz32_3 : wr.cell? ⟨gb139, 3, none⟩ = some (.slice A138_3 ((rd_T48 l0_1 x3_1).f3).length c138_3) := (blk_cell BK139.out 3).trans rfl
              have hcz32_4 : wr.cell? ⟨gb139, 4, none⟩ = some (.slice A138_4 ((rd_T48 l0_1 x3_1).f4).length c138_4) := (blk_cell BK139.out 4).trans rfl
              have hfz32_0 := blk_frozen BK139.out 0
              have hfz32_1 := blk_frozen BK139.out 1
              have hfz32_2 := blk_frozen BK139.out 2
              have hfz32_3 := blk_frozen BK139.out 3
              have hfz32_4 := blk_frozen BK139.out 4
              have p140 : 0 ≤ (x5_3 : Int) := of_decide_eq_true (by first | (with_reducible assumption) | assumption)
              have q140 : x5_3 < (((rd_T48 l0_1 x3_1).f3).length : Int) := of_decide_eq_true (by first | (with_reducible assumption) | assumption)
              obtain ⟨ad140, A140_0, c140_0, e140, hx140_0, hx140_1, hx140_2, hx140_3, hl140_0, hi140_0⟩ := at_T74 HR138_3.out x5_3 p140 q140
              cases e140
              replace hx140_0 := (HB.out.cell (World.block_lt_of_cell? w _ hx140_0)).trans hx140_0
              replace hx140_1 := (HB.out.cell (World.block_lt_of_cell? w _ hx140_1)).trans hx140_1
              replace hx140_2 := (HB.out.cell (World.block_lt_of_cell? w _ hx140_2)).trans hx140_2
              replace hx140_3 := (HB.out.cell (World.block_lt_of_cell? w _ hx140_3)).trans hx140_3
              have HR140_0 := Aside0.mk hi140_0
              have HC140_0 := Aside0.mk hl140_0
              clear hi140_0 hl140_0
              replace p140 := eq_true p140
              replace q140 := eq_true q140
              go_wp2
              go_roundg k3
              case measure => have := HK1.out; have := HJ8.out; have := HK3.out; omega
              case rel => exact ⟨(wrap64 (x5_3 + 1)), (by first | rfl | (simp; done) | (simp [*]; done)), H', ⟨by have := HK1.out; have := HJ8.out; have := HK3.out; omega⟩, ⟨by (with_reducible repeat (first | refine blk_drewN ?_ _ | refine blk_drew ?_ | refine blk_alloc ?_ _)); exact BK137.out⟩, ⟨by (with_reducible repeat (first | refine blk_drewN ?_ _ | refine blk_drew ?_ | refine blk_alloc ?_ _)); exact BK139.out⟩, ⟨by repeat (first | (with_reducible first | exact HB.out | apply below_alloc | apply pw_below_drewN | apply below_drew1 | refine below_set ?_ GE137.out | refine below_set ?_ GE139.out) | exact HB.out)⟩⟩
            ·rw [if_neg c27] at H
             exact absurd H (by simp)
           ·rw [if_neg c26] at H
            have c26b0 : decide (x5_3 < (((rd_T48 l0_1 x3_1).f3).length : Int)) = false := decide_eq_false c26
            clear c26
            have H' := Aside0.mk H
            clear H
            have hnb33 := NB139_137.out
            have hnc33 := NB137_139.out
            have hcz34_0 : wr.cell? ⟨gb139, 0, none⟩ = some (.string ((rd_T48 l0_1 x3_1).f0)) := (blk_cell BK139.out 0).trans rfl
            have hcz34_1 : wr.cell? ⟨gb139, 1, none⟩ = some (.int .i64 ((rd_T48 l0_1 x3_1).f1)) := (blk_cell BK139.out 1).trans rfl
            have hcz34_2 : wr.cell? ⟨gb139, 2, none⟩ = some (.slice A138_2 ((rd_T48 l0_1 x3_1).f2).length c138_2) := (blk_cell BK139.out 2).trans rfl
            have hcz34_3 : wr.cell? ⟨gb139, 3, none⟩ = some (.slice A138_3 ((rd_T48 l0_1 x3_1).f3).length c138_3) := (blk_cell BK139.out 3).trans rfl
            have hcz34_4 : wr.cell? ⟨gb139, 4, none⟩ = some (.slice A138_4 ((rd_T48 l0_1 x3_1).f4).length c138_4) := (blk_cell BK139.out 4).trans rfl
            have hfz34_0 := blk_frozen BK139.out 0
            have hfz34_1 := blk_frozen BK139.out 1
            have hfz34_2 := blk_frozen BK139.out 2
            have hfz34_3 := blk_frozen BK139.out 3
            have hfz34_4 := blk_frozen BK139.out 4
            go_wp2
            go_roundg k3
            case measure => have := HK1.out; have := HJ8.out; have := HK3.out; omega
            case rel => exact ⟨(wrap64 (x3_1 + 1)), (by first | rfl | (simp; done) | (simp [*]; done)), H', ⟨by have := HK1.out; have := HJ8.out; have := HK3.out; omega⟩, ⟨by (with_reducible repeat (first | refine blk_drewN ?_ _ | refine blk_drew ?_ | refine blk_alloc ?_ _)); exact BK137.out⟩, ⟨by repeat (first | (with_reducible first | exact HB.out | apply below_alloc | apply pw_below_drewN | apply below_drew1 | refine below_set ?_ GE137.out | refine below_set ?_ GE139.out) | exact HB.out)⟩⟩
     ·rw [if_neg c8] at H
      exact absurd H (by simp)
    ·rw [if_neg c7] at H
     have c7b0 : decide (x3_1 < (l0_1.length : Int)) = false := decide_eq_false c7
     clear c7
     obtain rfl := Option.some.inj H
     have hcz35_0 : wr.cell? ⟨gb137, 0, none⟩ = some (.int .i64 a0_0) := (blk_cell BK137.out 0).trans rfl
     have hcz35_1 : wr.cell? ⟨gb137, 1, none⟩ = some (.slice A0_1 l0_1.length c0_1) := (blk_cell BK137.out 1).trans rfl
     have hfz35_0 := blk_frozen BK137.out 0
     have hfz35_1 := blk_frozen BK137.out 1
     go_wp2
     go_ret
     exact ⟨by first | rfl | (simp [errW_none, errW_some] <;> rfl) | (simp [*, errW_none, errW_some] <;> rfl), by repeat (first | (with_reducible first | exact HB.out | apply below_alloc | apply pw_below_drewN | apply below_drew1 | refine below_set ?_ GE137.out) | exact HB.out)⟩

end Go.Proofs.Ytbpmkcgpgdbbkaa.P
