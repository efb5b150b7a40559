-- Written by this session's own program (wip/tools/myprint.py), which runs the kit's print with turns of its own: not a text of the kit's print.sh.
import Derived.Test.YtbpmkcgpgdbbkaaPx0
import Derived.Test.YtbpmkcgpgdbbkaaPx45
namespace Go.Proofs.Ytbpmkcgpgdbbkaa.P
open Go.RowKit Go.Proofs.YtbpmkcgpgdbbkaaW.PrintWords Go.Proofs.YtbpmkcgpgdbbkaaW.PrintLast Go.Proofs.YtbpmkcgpgdbbkaaW.PrintMore
attribute [local go_sem] max2_int min2_int max_two min_two max_three min_three max_four min_four   -- for this text's walks alone
set_option linter.unusedVariables false
set_option linter.unusedSimpArgs false

/-! ### isomedia_validTrack: function 30 -/
mutual
def isomedia_validTrack.j0 : Nat → Bool → ByteArray → Int → List Int → List (S76) → List (S77) → Option (Bool)
 | 0, _, _, _, _, _, _ => none
 | k + 1, x34, x142000, x142001, x142002, x142003, x142004 => if x34 = true then (some false) else (isomedia_validTrack.l0 k x142003 (x142003.length : Int) 0 x142000 x142001 x142002 x142003 x142004)
def isomedia_validTrack.l0 : Nat → List (S76) → Int → Int → ByteArray → Int → List Int → List (S76) → List (S77) → Option (Bool)
 | 0, _, _, _, _, _, _, _, _ => none
 | k + 1, x36, x37, x38, x142000, x142001, x142002, x142003, x142004 => if x38 < x37 then (if 0 ≤ x38 then (if x38 < (x36.length : Int) then (if (((rd_T76 x36 x38).f0).length : Int) > 1048576 then (some false) else ((isomedia_unit.f ((rd_T76 x36 x38).f1) 0).bind fun t145 => (if t145 = true then ((isomedia_unit.f ((rd_T76 x36 x38).f2) 0).bind fun t146 => (if t146 = true then (isomedia_validTrack.l0 k x36 x37 (wrap64 (x38 + 1)) x142000 x142001 x142002 x142003 x142004) else (some false))) else (some false)))) else (none)) else (none)) else (isomedia_validTrack.l1 k x142004 (x142004.length : Int) 0)
def isomedia_validTrack.l1 : Nat → List (S77) → Int → Int → Option (Bool)
 | 0, _, _, _ => none
 | k + 1, x60, x61, x62 => if x62 < x61 then (if 0 ≤ x62 then (if x62 < (x60.length : Int) then ((isomedia_between.f ((rd_T77 x60 x62).f0) 0).bind fun t149 => (if t149 = true then ((isomedia_between.f ((rd_T77 x60 x62).f1) (-1)).bind fun t150 => (if t150 = true then (isomedia_validTrack.l1 k x60 x61 (wrap64 (x62 + 1))) else (some false))) else (some false))) else (none)) else (none)) else (some true)
end
def isomedia_validTrack.f (k : Nat) (a0_0 : ByteArray) (a0_1 : Int) (l0_2 : List Int) (l0_3 : List (S76)) (l0_4 : List (S77)) : Option (Bool) := if (a0_0.size : Int) = 4 then ((isomedia_unit.f a0_1 1).bind fun t142 => (if t142 = true then (if (l0_2.length : Int) > 4096 then (isomedia_validTrack.j0 k true a0_0 a0_1 l0_2 l0_3 l0_4) else (if (l0_3.length : Int) > 4096 then (isomedia_validTrack.j0 k true a0_0 a0_1 l0_2 l0_3 l0_4) else (isomedia_validTrack.j0 k (decide ((l0_4.length : Int) > 64)) a0_0 a0_1 l0_2 l0_3 l0_4))) else (isomedia_validTrack.j0 k true a0_0 a0_1 l0_2 l0_3 l0_4))) else (isomedia_validTrack.j0 k true a0_0 a0_1 l0_2 l0_3 l0_4)
theorem isomedia_validTrack.mono_l : ∀ k, (∀ y0 y1 y2 y3 y4 y5, LeO (isomedia_validTrack.j0 k y0 y1 y2 y3 y4 y5) (isomedia_validTrack.j0 (k + 1) y0 y1 y2 y3 y4 y5)) ∧ (∀ y0 y1 y2 y3 y4 y5 y6 y7, LeO (isomedia_validTrack.l0 k y0 y1 y2 y3 y4 y5 y6 y7) (isomedia_validTrack.l0 (k + 1) y0 y1 y2 y3 y4 y5 y6 y7)) ∧ (∀ y0 y1 y2, LeO (isomedia_validTrack.l1 k y0 y1 y2) (isomedia_validTrack.l1 (k + 1) y0 y1 y2))
 | 0 => ⟨fun _ _ _ _ _ _ r h => by simp [isomedia_validTrack.j0] at h, fun _ _ _ _ _ _ _ _ r h => by simp [isomedia_validTrack.l0] at h, fun _ _ _ r h => by simp [isomedia_validTrack.l1] at h⟩
 | k + 1 => by
  obtain ⟨ih0, ih1, ih2⟩ := isomedia_validTrack.mono_l k
  refine ⟨?_, ?_, ?_⟩
  ·intro y0 y1 y2 y3 y4 y5
   unfold isomedia_validTrack.j0
   repeat' first
   | (with_reducible exact ih0 _ _ _ _ _ _)
   | (with_reducible exact ih1 _ _ _ _ _ _ _ _)
   | (with_reducible exact ih2 _ _ _)
   | (with_reducible exact LeO.refl _)
   | (with_reducible exact LeO.none _)
   | (with_reducible refine LeO.ite ?_ ?_)
   | (with_reducible refine LeO.bind ?_ (fun _ => ?_))
   | exact ih0 _ _ _ _ _ _
   | exact ih1 _ _ _ _ _ _ _ _
   | exact ih2 _ _ _
   | exact LeO.none _
   | refine LeO.ite ?_ ?_
   | refine LeO.bind ?_ (fun _ => ?_)
  ·intro y0 y1 y2 y3 y4 y5 y6 y7
   unfold isomedia_validTrack.l0
   repeat' first
   | (with_reducible exact ih0 _ _ _ _ _ _)
   | (with_reducible exact ih1 _ _ _ _ _ _ _ _)
   | (with_reducible exact ih2 _ _ _)
   | (with_reducible exact LeO.refl _)
   | (with_reducible exact LeO.none _)
   | (with_reducible refine LeO.ite ?_ ?_)
   | (with_reducible refine LeO.bind ?_ (fun _ => ?_))
   | exact ih0 _ _ _ _ _ _
   | exact ih1 _ _ _ _ _ _ _ _
   | exact ih2 _ _ _
   | exact LeO.none _
   | refine LeO.ite ?_ ?_
   | refine LeO.bind ?_ (fun _ => ?_)
  ·intro y0 y1 y2
   unfold isomedia_validTrack.l1
   repeat' first
   | (with_reducible exact ih0 _ _ _ _ _ _)
   | (with_reducible exact ih1 _ _ _ _ _ _ _ _)
   | (with_reducible exact ih2 _ _ _)
   | (with_reducible exact LeO.refl _)
   | (with_reducible exact LeO.none _)
   | (with_reducible refine LeO.ite ?_ ?_)
   | (with_reducible refine LeO.bind ?_ (fun _ => ?_))
   | exact ih0 _ _ _ _ _ _
   | exact ih1 _ _ _ _ _ _ _ _
   | exact ih2 _ _ _
   | exact LeO.none _
   | refine LeO.ite ?_ ?_
   | refine LeO.bind ?_ (fun _ => ?_)
theorem isomedia_validTrack.mono : ∀ a0 a1 a2 a3 a4 k, LeO (isomedia_validTrack.f k a0 a1 a2 a3 a4) (isomedia_validTrack.f (k + 1) a0 a1 a2 a3 a4) := by
 intro a0 a1 a2 a3 a4 k
 obtain ⟨ih0, ih1, ih2⟩ := isomedia_validTrack.mono_l k
 unfold isomedia_validTrack.f
 repeat' first
   | (with_reducible exact ih0 _ _ _ _ _ _)
   | (with_reducible exact ih1 _ _ _ _ _ _ _ _)
   | (with_reducible exact ih2 _ _ _)
   | (with_reducible exact LeO.refl _)
   | (with_reducible exact LeO.none _)
   | (with_reducible refine LeO.ite ?_ ?_)
   | (with_reducible refine LeO.bind ?_ (fun _ => ?_))
   | exact ih0 _ _ _ _ _ _
   | exact ih1 _ _ _ _ _ _ _ _
   | exact ih2 _ _ _
   | exact LeO.none _
   | refine LeO.ite ?_ ?_
   | refine LeO.bind ?_ (fun _ => ?_)
set_option maxHeartbeats 8000000 in
set_option maxRecDepth 100000 in
theorem isomedia_validTrack.calls (k : Nat) (a0_0 : ByteArray) (a0_1 : Int) (A0_2 : Option Addr) (c0_2 : Nat) (l0_2 : List Int) (A0_3 : Option Addr) (c0_3 : Nat) (l0_3 : List (S76)) (A0_4 : Option Addr) (c0_4 : Nat) (l0_4 : List (S77)) (r : Bool) (w : World) (hr0_2 : Kd.C (Kd.int .u8) w A0_2 l0_2.length l0_2) (hc0_2 : l0_2.length ≤ c0_2) (hr0_3 : Kd.C k76 w A0_3 l0_3.length l0_3) (hc0_3 : l0_3.length ≤ c0_3) (hr0_4 : Kd.C k77 w A0_4 l0_4.length l0_4) (hc0_4 : l0_4.length ≤ c0_4) (h : isomedia_validTrack.f k a0_0 a0_1 l0_2 l0_3 l0_4 = some r) :
  Calls Try.prog 30 #[.agg #[.string a0_0, .int .i64 a0_1, .slice A0_2 l0_2.length c0_2, .slice A0_3 l0_3.length c0_3, .slice A0_4 l0_4.length c0_4]] w fun e w' => e = .returned (.bool r) ∧ Below w.heap.size w w' := by
 have hu43 := Try.underlying43
 have hu76 := Try.underlying76
 have hu77 := Try.underlying77
 have HR0_2 := Aside0.mk hr0_2
 have HC0_2 := Aside0.mk hc0_2
 clear hr0_2 hc0_2
 have HR0_3 := Aside0.mk hr0_3
 have HC0_3 := Aside0.mk hc0_3
 clear hr0_3 hc0_3
 have HR0_4 := Aside0.mk hr0_4
 have HC0_4 := Aside0.mk hc0_4
 clear hr0_4 hc0_4
 have HB := Aside0.mk (Below.refl w.heap.size w)
 have H : (if (a0_0.size : Int) = 4 then ((isomedia_unit.f a0_1 1).bind fun t142 => (if t142 = true then (if (l0_2.length : Int) > 4096 then (isomedia_validTrack.j0 k true a0_0 a0_1 l0_2 l0_3 l0_4) else (if (l0_3.length : Int) > 4096 then (isomedia_validTrack.j0 k true a0_0 a0_1 l0_2 l0_3 l0_4) else (isomedia_validTrack.j0 k (decide ((l0_4.length : Int) > 64)) a0_0 a0_1 l0_2 l0_3 l0_4))) else (isomedia_validTrack.j0 k true a0_0 a0_1 l0_2 l0_3 l0_4))) else (isomedia_validTrack.j0 k true a0_0 a0_1 l0_2 l0_3 l0_4)) = some r := h
 clear h
 have HC2 := Aside0.mk H
 clear H
 go_enter Try.func30, Try.ntmps30
 go_upto_region 1 with (first | ((with_reducible refine gate_dst (N := 1) rfl ?_); (try (refine gate_guard (by rfl) ?_; dsimp only)); refine box_event ?hg (N := 1) ?hd (cs := #[.string a0_0, .int .i64 a0_1, .slice A0_2 l0_2.length c0_2, .slice A0_3 l0_3.length c0_3, .slice A0_4 l0_4.length c0_4]) (t := 43) ?hr ?_; (case hd => rfl); (case hg => rfl); (case hr => first | (go_simp; done) | (go_simp; rfl)); intro gb141 hg w3 hbox hb; have n0_ := Aside0.mk (below_step (by repeat (first | (with_reducible first | exact HB.out | apply below_alloc | apply pw_below_drewN | apply below_drew1) | exact HB.out)) hb); have n1_ := Aside0.mk (hbox); have n2_ := Aside0.mk ((by rw [hg]; exact (below_size (by repeat (first | (with_reducible first | exact HB.out | apply below_alloc | apply pw_below_drewN | apply below_drew1) | exact HB.out))) : w.heap.size ≤ gb141)); have n3_ := Aside0.mk ((by rw [hg]; exact (below_size (by repeat (first | (with_reducible first | exact HB.out | apply below_alloc | apply pw_below_drewN | apply below_drew1) | exact HB.out))) : w.heap.size ≤ gb141)); clear HB; have HB := n0_; have BK141 := n1_; have GW141 := n2_; have GE141 := n3_; clear n0_ n1_ n2_ n3_; clear hb hbox hg))
 (try simp only [Act.put, List.setIfInBounds_toArray, List.set_cons_zero, List.set_cons_succ])
 go_cut [34] (fun v34 wc => ∃ (kq : Nat) (x34_1 : Bool), v34 = .bool x34_1 ∧ Aside0 (isomedia_validTrack.j0 kq x34_1 a0_0 a0_1 l0_2 l0_3 l0_4 = some r) ∧ Aside0 (kq ≤ k) ∧ Aside0 (wc.heap[gb141]? = some (.cells #[.string a0_0, .int .i64 a0_1, (.slice A0_2 l0_2.length c0_2), (.slice A0_3 l0_3.length c0_3), (.slice A0_4 l0_4.length c0_4)] 43 (0, 0))) ∧ Aside0 (Below w.heap.size w wc))
 case first =>
  have H := HC2.out
  clear HC2
  by_cases c4 : (a0_0.size : Int) = 4
  ·rw [if_pos c4] at H
   have c4b0 : ((a0_0.size : Int) == 4) = true := beq_iff_eq.mpr c4
   have c4b1 : ((a0_0.size : Int) != 4) = false := bne_eq_false_iff_eq.mpr c4
   clear c4
   (first | rw [c4b0] | (simp only [i64_w, i32_w]; rw [c4b0]) | skip)
   replace H := Option.bind_eq_some_iff.mp H
   obtain ⟨t142, A50, H⟩ := H
   replace H : (if t142 = true then (if (l0_2.length : Int) > 4096 then (isomedia_validTrack.j0 k true a0_0 a0_1 l0_2 l0_3 l0_4) else (if (l0_3.length : Int) > 4096 then (isomedia_validTrack.j0 k true a0_0 a0_1 l0_2 l0_3 l0_4) else (isomedia_validTrack.j0 k (decide ((l0_4.length : Int) > 64)) a0_0 a0_1 l0_2 l0_3 l0_4))) else (isomedia_validTrack.j0 k true a0_0 a0_1 l0_2 l0_3 l0_4)) = some r := H
   have A5 := Aside0.mk A50
   clear A50
   by_cases c6 : t142 = true
   ·subst c6
    have H1 : (if (l0_2.length : Int) > 4096 then (isomedia_validTrack.j0 k true a0_0 a0_1 l0_2 l0_3 l0_4) else (if (l0_3.length : Int) > 4096 then (isomedia_validTrack.j0 k true a0_0 a0_1 l0_2 l0_3 l0_4) else (isomedia_validTrack.j0 k (decide ((l0_4.length : Int) > 64)) a0_0 a0_1 l0_2 l0_3 l0_4))) = some r := by rw [if_pos rfl] at H; exact H
    clear H
    have H := H1
    clear H1
    by_cases c7 : (l0_2.length : Int) > 4096
    ·rw [if_pos c7] at H
     have c7b0 : decide (4096 < (l0_2.length : Int)) = true := decide_eq_true c7
     have c7b1 : decide (4096 < l0_2.length) = true := decide_eq_true (by omega)
     clear c7
     have H' := Aside0.mk H
     clear H
     have hcz8_0 : w3.cell? ⟨gb141, 0, none⟩ = some (.string a0_0) := (blk_cell BK141.out 0).trans rfl
     have hcz8_1 : w3.cell? ⟨gb141, 1, none⟩ = some (.int .i64 a0_1) := (blk_cell BK141.out 1).trans rfl
     have hcz8_2 : w3.cell? ⟨gb141, 2, none⟩ = some (.slice A0_2 l0_2.length c0_2) := (blk_cell BK141.out 2).trans rfl
     have hcz8_3 : w3.cell? ⟨gb141, 3, none⟩ = some (.slice A0_3 l0_3.length c0_3) := (blk_cell BK141.out 3).trans rfl
     have hcz8_4 : w3.cell? ⟨gb141, 4, none⟩ = some (.slice A0_4 l0_4.length c0_4) := (blk_cell BK141.out 4).trans rfl
     have hfz8_0 := blk_frozen BK141.out 0
     have hfz8_1 := blk_frozen BK141.out 1
     have hfz8_2 := blk_frozen BK141.out 2
     have hfz8_3 := blk_frozen BK141.out 3
     have hfz8_4 := blk_frozen BK141.out 4
     go_wp2_with (first | (go_at_call 44; (with_reducible refine (isomedia_unit.calls a0_1 1 true _ A5.out).mono ?_); rintro e w' ⟨rfl, ⟨nd, rfl⟩⟩))
     go_meet
     case rel => exact ⟨_, (true), (by first | rfl | (simp; done) | (simp [*]; done)), H', ⟨by first | omega | exact Nat.le_refl _⟩, ⟨by (with_reducible repeat (first | refine blk_drewN ?_ _ | refine blk_drew ?_ | refine blk_alloc ?_ _)); exact BK141.out⟩, ⟨by repeat (first | (with_reducible first | exact HB.out | apply below_alloc | apply pw_below_drewN | apply below_drew1 | refine below_set ?_ GE141.out) | exact HB.out)⟩⟩
    ·rw [if_neg c7] at H
     have c7b0 : decide (4096 < (l0_2.length : Int)) = false := decide_eq_false c7
     have c7b1 : decide (4096 < l0_2.length) = false := decide_eq_false (by omega)
     clear c7
     by_cases c9 : (l0_3.length : Int) > 4096
     ·rw [if_pos c9] at H
      have c9b0 : decide (4096 < (l0_3.length : Int)) = true := decide_eq_true c9
      have c9b1 : decide (4096 < l0_3.length) = true := decide_eq_true (by omega)
      clear c9
      have H' := Aside0.mk H
      clear H
      have hcz10_0 : w3.cell? ⟨gb141, 0, none⟩ = some (.string a0_0) := (blk_cell BK141.out 0).trans rfl
      have hcz10_1 : w3.cell? ⟨gb141, 1, none⟩ = some (.int .i64 a0_1) := (blk_cell BK141.out 1).trans rfl
      have hcz10_2 : w3.cell? ⟨gb141, 2, none⟩ = some (.slice A0_2 l0_2.length c0_2) := (blk_cell BK141.out 2).trans rfl
      have hcz10_3 : w3.cell? ⟨gb141, 3, none⟩ = some (.slice A0_3 l0_3.length c0_3) := (blk_cell BK141.out 3).trans rfl
      have hcz10_4 : w3.cell? ⟨gb141, 4, none⟩ = some (.slice A0_4 l0_4.length c0_4) := (blk_cell BK141.out 4).trans rfl
      have hfz10_0 := blk_frozen BK141.out 0
      have hfz10_1 := blk_frozen BK141.out 1
      have hfz10_2 := blk_frozen BK141.out 2
      have hfz10_3 := blk_frozen BK141.out 3
      have hfz10_4 := blk_frozen BK141.out 4
      go_wp2_with (first | (go_at_call 44; (with_reducible refine (isomedia_unit.calls a0_1 1 true _ A5.out).mono ?_); rintro e w' ⟨rfl, ⟨nd, rfl⟩⟩))
      go_meet
      case rel => exact ⟨_, (true), (by first | rfl | (simp; done) | (simp [*]; done)), H', ⟨by first | omega | exact Nat.le_refl _⟩, ⟨by (with_reducible repeat (first | refine blk_drewN ?_ _ | refine blk_drew ?_ | refine blk_alloc ?_ _)); exact BK141.out⟩, ⟨by repeat (first | (with_reducible first | exact HB.out | apply below_alloc | apply pw_below_drewN | apply below_drew1 | refine below_set ?_ GE141.out) | exact HB.out)⟩⟩
     ·rw [if_neg c9] at H
      have c9b0 : decide (4096 < (l0_3.length : Int)) = false := decide_eq_false c9
      have c9b1 : decide (4096 < l0_3.length) = false := decide_eq_false (by omega)
      clear c9
      have H' := Aside0.mk H
      clear H
      have hcz11_0 : w3.cell? ⟨gb141, 0, none⟩ = some (.string a0_0) := (blk_cell BK141.out 0).trans rfl
      have hcz11_1 : w3.cell? ⟨gb141, 1, none⟩ = some (.int .i64 a0_1) := (blk_cell BK141.out 1).trans rfl
      have hcz11_2 : w3.cell? ⟨gb141, 2, none⟩ = some (.slice A0_2 l0_2.length c0_2) := (blk_cell BK141.out 2).trans rfl
      have hcz11_3 : w3.cell? ⟨gb141, 3, none⟩ = some (.slice A0_3 l0_3.length c0_3) := (blk_cell BK141.out 3).trans rfl
      have hcz11_4 : w3.cell? ⟨gb141, 4, none⟩ = some (.slice A0_4 l0_4.length c0_4) := (blk_cell BK141.out 4).trans rfl
      have hfz11_0 := blk_frozen BK141.out 0
      have hfz11_1 := blk_frozen BK141.out 1
      have hfz11_2 := blk_frozen BK141.out 2
      have hfz11_3 := blk_frozen BK141.out 3
      have hfz11_4 := blk_frozen BK141.out 4
      go_wp2_with (first | (go_at_call 44; (with_reducible refine (isomedia_unit.calls a0_1 1 true _ A5.out).mono ?_); rintro e w' ⟨rfl, ⟨nd, rfl⟩⟩))
      go_meet
      case rel => exact ⟨_, (decide ((l0_4.length : Int) > 64)), (by first | rfl | (simp; done) | (simp [*]; done)), H', ⟨by first | omega | exact Nat.le_refl _⟩, ⟨by (with_reducible repeat (first | refine blk_drewN ?_ _ | refine blk_drew ?_ | refine blk_alloc ?_ _)); exact BK141.out⟩, ⟨by repeat (first | (with_reducible first | exact HB.out | apply below_alloc | apply pw_below_drewN | apply below_drew1 | refine below_set ?_ GE141.out) | exact HB.out)⟩⟩
   ·replace c6 := Bool.eq_false_iff.mpr c6
    subst c6
    have H1 : (isomedia_validTrack.j0 k true a0_0 a0_1 l0_2 l0_3 l0_4) = some r := by rw [if_neg (show ¬ (false = true) by decide)] at H; exact H
    clear H
    have H := H1
    clear H1
    have H' := Aside0.mk H
    clear H
    have hcz12_0 : w3.cell? ⟨gb141, 0, none⟩ = some (.string a0_0) := (blk_cell BK141.out 0).trans rfl
    have hcz12_1 : w3.cell? ⟨gb141, 1, none⟩ = some (.int .i64 a0_1) := (blk_cell BK141.out 1).trans rfl
    have hcz12_2 : w3.cell? ⟨gb141, 2, none⟩ = some (.slice A0_2 l0_2.length c0_2) := (blk_cell BK141.out 2).trans rfl
    have hcz12_3 : w3.cell? ⟨gb141, 3, none⟩ = some (.slice A0_3 l0_3.length c0_3) := (blk_cell BK141.out 3).trans rfl
    have hcz12_4 : w3.cell? ⟨gb141, 4, none⟩ = some (.slice A0_4 l0_4.length c0_4) := (blk_cell BK141.out 4).trans rfl
    have hfz12_0 := blk_frozen BK141.out 0
    have hfz12_1 := blk_frozen BK141.out 1
    have hfz12_2 := blk_frozen BK141.out 2
    have hfz12_3 := blk_frozen BK141.out 3
    have hfz12_4 := blk_frozen BK141.out 4
    go_wp2_with (first | (go_at_call 44; (with_reducible refine (isomedia_unit.calls a0_1 1 false _ A5.out).mono ?_); rintro e w' ⟨rfl, ⟨nd, rfl⟩⟩))
    go_meet
    case rel => exact ⟨_, (true), (by first | rfl | (simp; done) | (simp [*]; done)), H', ⟨by first | omega | exact Nat.le_refl _⟩, ⟨by (with_reducible repeat (first | refine blk_drewN ?_ _ | refine blk_drew ?_ | refine blk_alloc ?_ _)); exact BK141.out⟩, ⟨by repeat (first | (with_reducible first | exact HB.out | apply below_alloc | apply pw_below_drewN | apply below_drew1 | refine below_set ?_ GE141.out) | exact HB.out)⟩⟩
  ·rw [if_neg c4] at H
   have c4b0 : ((a0_0.size : Int) == 4) = false := beq_eq_false_iff_ne.mpr c4
   have c4b1 : ((a0_0.size : Int) != 4) = true := bne_iff_ne.mpr c4
   (first | rw [c4b0] | (simp only [i64_w, i32_w]; rw [c4b0]) | skip)
   have H' := Aside0.mk H
   clear H
   have hcz13_0 : w3.cell? ⟨gb141, 0, none⟩ = some (.string a0_0) := (blk_cell BK141.out 0).trans rfl
   have hcz13_1 : w3.cell? ⟨gb141, 1, none⟩ = some (.int .i64 a0_1) := (blk_cell BK141.out 1).trans rfl
   have hcz13_2 : w3.cell? ⟨gb141, 2, none⟩ = some (.slice A0_2 l0_2.length c0_2) := (blk_cell BK141.out 2).trans rfl
   have hcz13_3 : w3.cell? ⟨gb141, 3, none⟩ = some (.slice A0_3 l0_3.length c0_3) := (blk_cell BK141.out 3).trans rfl
   have hcz13_4 : w3.cell? ⟨gb141, 4, none⟩ = some (.slice A0_4 l0_4.length c0_4) := (blk_cell BK141.out 4).trans rfl
   have hfz13_0 := blk_frozen BK141.out 0
   have hfz13_1 := blk_frozen BK141.out 1
   have hfz13_2 := blk_frozen BK141.out 2
   have hfz13_3 := blk_frozen BK141.out 3
   have hfz13_4 := blk_frozen BK141.out 4
   go_wp2
   go_meet
   case rel => exact ⟨_, (true), (by first | rfl | (simp; done) | (simp [*]; done)), H', ⟨by first | omega | exact Nat.le_refl _⟩, ⟨by (with_reducible repeat (first | refine blk_drewN ?_ _ | refine blk_drew ?_ | refine blk_alloc ?_ _)); exact BK141.out⟩, ⟨by repeat (first | (with_reducible first | exact HB.out | apply below_alloc | apply pw_below_drewN | apply below_drew1 | refine below_set ?_ GE141.out) | exact HB.out)⟩⟩
 case rest =>
  clear HC2
  (try clear p2);(try clear c3);(try clear c4);(try clear c4b0);(try clear c4b1);(try clear c6);(try clear c7);(try clear c7b0);(try clear c7b1);(try clear c9);(try clear c9b0);(try clear c9b1);(try clear hcz10_0);(try clear hcz10_1);(try clear hcz10_2);(try clear hcz10_3);(try clear hcz10_4);(try clear hcz11_0);(try clear hcz11_1);(try clear hcz11_2);(try clear hcz11_3);(try clear hcz11_4);(try clear hcz12_0);(try clear hcz12_1);(try clear hcz12_2);(try clear hcz12_3);(try clear hcz12_4);(try clear hcz13_0);(try clear hcz13_1);(try clear hcz13_2);(try clear hcz13_3);(try clear hcz13_4);(try clear hcz8_0);(try clear hcz8_1);(try clear hcz8_2);(try clear hcz8_3);(try clear hcz8_4);(try clear hfz10_0);(try clear hfz10_1);(try clear hfz10_2);(try clear hfz10_3);(try clear hfz10_4);(try clear hfz11_0);(try clear hfz11_1);(try clear hfz11_2);(try clear hfz11_3);(try clear hfz11_4);(try clear hfz12_0)
  (try clear hfz12_1);(try clear hfz12_2);(try clear hfz12_3);(try clear hfz12_4);(try clear hfz13_0);(try clear hfz13_1);(try clear hfz13_2);(try clear hfz13_3);(try clear hfz13_4);(try clear hfz8_0);(try clear hfz8_1);(try clear hfz8_2);(try clear hfz8_3);(try clear hfz8_4)
  obtain ⟨kq, x34_1, rfl, HA, HJ1, BK141, HB⟩ := hcut
  cases kq with
  | zero => exact absurd HA.out (by simp [isomedia_validTrack.j0])
  | succ kj1 =>
   have H := HA.out
   clear HA
   simp only [isomedia_validTrack.j0] at H
   by_cases c14 : x34_1 = true
   ·subst c14
    have H1 : (some false) = some r := by rw [if_pos rfl] at H; exact H
    clear H
    have H := H1
    clear H1
    obtain rfl := Option.some.inj H
    go_wp2
    go_ret
    exact ⟨by first | rfl | (simp [errW_none, errW_some] <;> rfl) | (simp [*, errW_none, errW_some] <;> rfl), by repeat (first | (with_reducible first | exact HB.out | apply below_alloc | apply pw_below_drewN | apply below_drew1 | refine below_set ?_ GE141.out) | exact HB.out)⟩
   ·replace c14 := Bool.eq_false_iff.mpr c14
    subst c14
    have H1 : (isomedia_validTrack.l0 kj1 l0_3 (l0_3.length : Int) 0 a0_0 a0_1 l0_2 l0_3 l0_4) = some r := by rw [if_neg (show ¬ (false = true) by decide)] at H; exact H
    clear H
    have H := H1
    clear H1
    have H' := Aside0.mk H
    clear H
    have hcz15_0 : wc.cell? ⟨gb141, 0, none⟩ = some (.string a0_0) := (blk_cell BK141.out 0).trans rfl
    have hcz15_1 : wc.cell? ⟨gb141, 1, none⟩ = some (.int .i64 a0_1) := (blk_cell BK141.out 1).trans rfl
    have hcz15_2 : wc.cell? ⟨gb141, 2, none⟩ = some (.slice A0_2 l0_2.length c0_2) := (blk_cell BK141.out 2).trans rfl
    have hcz15_3 : wc.cell? ⟨gb141, 3, none⟩ = some (.slice A0_3 l0_3.length c0_3) := (blk_cell BK141.out 3).trans rfl
    have hcz15_4 : wc.cell? ⟨gb141, 4, none⟩ = some (.slice A0_4 l0_4.length c0_4) := (blk_cell BK141.out 4).trans rfl
    have hfz15_0 := blk_frozen BK141.out 0
    have hfz15_1 := blk_frozen BK141.out 1
    have hfz15_2 := blk_frozen BK141.out 2
    have hfz15_3 := blk_frozen BK141.out 3
    have hfz15_4 := blk_frozen BK141.out 4
    go_wp2
    go_loopg [38] kj1 (fun kq v38 w' => ∃ (x38_2 : Int), v38 = .int .i64 x38_2 ∧ Aside0 (isomedia_validTrack.l0 kq l0_3 (l0_3.length : Int) x38_2 a0_0 a0_1 l0_2 l0_3 l0_4 = some r) ∧ Aside0 (kq ≤ kj1) ∧ Aside0 (w'.heap[gb141]? = some (.cells #[.string a0_0, .int .i64 a0_1, (.slice A0_2 l0_2.length c0_2), (.slice A0_3 l0_3.length c0_3), (.slice A0_4 l0_4.length c0_4)] 43 (0, 0))) ∧ Aside0 (Below w.heap.size w w'))
    case atStart => exact ⟨(0), (by first | rfl | (simp; done) | (simp [*]; done)), H', ⟨Nat.le_refl _⟩, ⟨by (with_reducible repeat (first | refine blk_drewN ?_ _ | refine blk_drew ?_ | refine blk_alloc ?_ _)); exact BK141.out⟩, ⟨by repeat (first | (with_reducible first | exact HB.out | apply below_alloc | apply pw_below_drewN | apply below_drew1 | refine below_set ?_ GE141.out) | exact HB.out)⟩⟩
    case round =>
     clear H'
     (try clear c1);(try clear p2);(try clear c3);(try clear c4);(try clear c4b0);(try clear c4b1);(try clear c6);(try clear c7);(try clear c7b0);(try clear c7b1);(try clear c9);(try clear c9b0);(try clear c9b1);(try clear c14);(try clear hcz10_0);(try clear hcz10_1);(try clear hcz10_2);(try clear hcz10_3);(try clear hcz10_4);(try clear hcz11_0);(try clear hcz11_1);(try clear hcz11_2);(try clear hcz11_3);(try clear hcz11_4);(try clear hcz12_0);(try clear hcz12_1);(try clear hcz12_2);(try clear hcz12_3);(try clear hcz12_4);(try clear hcz13_0);(try clear hcz13_1);(try clear hcz13_2);(try clear hcz13_3);(try clear hcz13_4);(try clear hcz15_0);(try clear hcz15_1);(try clear hcz15_2);(try clear hcz15_3);(try clear hcz15_4);(try clear hcz8_0);(try clear hcz8_1);(try clear hcz8_2);(try clear hcz8_3);(try clear hcz8_4);(try clear hfz10_0);(try clear hfz10_1);(try clear hfz10_2);(try clear hfz10_3)
     (try clear hfz10_4);(try clear hfz11_0);(try clear hfz11_1);(try clear hfz11_2);(try clear hfz11_3);(try clear hfz11_4);(try clear hfz12_0);(try clear hfz12_1);(try clear hfz12_2);(try clear hfz12_3);(try clear hfz12_4);(try clear hfz13_0);(try clear hfz13_1);(try clear hfz13_2);(try clear hfz13_3);(try clear hfz13_4);(try clear hfz15_0);(try clear hfz15_1);(try clear hfz15_2);(try clear hfz15_3);(try clear hfz15_4);(try clear hfz8_0);(try clear hfz8_1);(try clear hfz8_2);(try clear hfz8_3);(try clear hfz8_4);(try clear p2)
     obtain ⟨x38_2, rfl, HA, HK2, BK141, HB⟩ := hrel
     cases gk with
     | zero => exact absurd HA.out (by simp [isomedia_validTrack.l0])
     | succ k2 =>
      have H := HA.out
      clear HA
      simp only [isomedia_validTrack.l0] at H
      by_cases c16 : x38_2 < (l0_3.length : Int)
      ·rw [if_pos c16] at H
       have c16b0 : decide (x38_2 < (l0_3.length : Int)) = true := decide_eq_true c16
       clear c16
       by_cases c17 : 0 ≤ x38_2
       ·rw [if_pos c17] at H
        have c17b0 : decide (0 ≤ x38_2) = true := decide_eq_true c17
        clear c17
        by_cases c18 : x38_2 < (l0_3.length : Int)
        ·rw [if_pos c18] at H
         have c18b0 : decide (x38_2 < (l0_3.length : Int)) = true := decide_eq_true c18
         clear c18
         by_cases c19 : (((rd_T76 l0_3 x38_2).f0).length : Int) > 1048576
         ·rw [if_pos c19] at H
          have c19b0 : decide (1048576 < (((rd_T76 l0_3 x38_2).f0).length : Int)) = true := decide_eq_true c19
          have c19b1 : decide (1048576 < ((rd_T76 l0_3 x38_2).f0).length) = true := decide_eq_true (by omega)
          clear c19
          obtain rfl := Option.some.inj H
          have p143 : 0 ≤ (x38_2 : Int) := of_decide_eq_true (by first | (with_reducible assumption) | assumption)
          have q143 : x38_2 < (l0_3.length : Int) := of_decide_eq_true (by first | (with_reducible assumption) | assumption)
          obtain ⟨ad143, A143_0, c143_0, e143, hx143_0, hx143_1, hx143_2, hx143_3, hl143_0, hi143_0⟩ := at_T76 HR0_3.out x38_2 p143 q143
          cases e143
          replace hx143_0 := (HB.out.cell (World.block_lt_of_cell? w _ hx143_0)).trans hx143_0
          replace hx143_1 := (HB.out.cell (World.block_lt_of_cell? w _ hx143_1)).trans hx143_1
          replace hx143_2 := (HB.out.cell (World.block_lt_of_cell? w _ hx143_2)).trans hx143_2
          replace hx143_3 := (HB.out.cell (World.block_lt_of_cell? w _ hx143_3)).trans hx143_3
          have HR143_0 := Aside0.mk hi143_0
          have HC143_0 := Aside0.mk hl143_0
          clear hi143_0 hl143_0
          replace p143 := eq_true p143
          replace q143 := eq_true q143
          go_wp2_with (first | ((with_reducible refine gate_dst (N := 4) rfl ?_); (try (refine gate_guard (by rfl) ?_; dsimp only)); refine box_event ?hg (N := 4) ?hd (cs := #[.slice none 0 0, .int .i64 0, .int .i64 0, .bool false]) (t := 76) ?hr ?_; (case hd => rfl); (case hg => rfl); (case hr => first | (go_simp; done) | (go_simp; rfl)); intro gb144 hg w20 hbox hb; have n0_ := Aside0.mk (blk_below (g := gb141) (o := .cells #[.string a0_0, .int .i64 a0_1, .slice A0_2 l0_2.length c0_2, .slice (some ad143) l0_3.length c0_3, .slice A0_4 l0_4.length c0_4] 43 (0, 0)) (by (with_reducible repeat (first | refine blk_drewN ?_ _ | refine blk_drew ?_ | refine blk_alloc ?_ _)); exact BK141.out) hb); have n1_ := Aside0.mk (below_step (by repeat (first | (with_reducible first | exact HB.out | apply below_alloc | apply pw_below_drewN | apply below_drew1 | refine below_set ?_ GE141.out) | exact HB.out)) hb); have n2_ := Aside0.mk (hbox); have n3_ := Aside0.mk ((by rw [hg]; exact (below_size (by repeat (first | (with_reducible first | exact HB.out | apply below_alloc | apply pw_below_drewN | apply below_drew1 | refine below_set ?_ GE141.out) | exact HB.out))) : w.heap.size ≤ gb144)); have n4_ := Aside0.mk ((by rw [hg]; exact (below_size (by repeat (first | (with_reducible first | exact HB.out | apply below_alloc | apply pw_below_drewN | apply below_drew1 | refine below_set ?_ GE141.out) | exact HB.out))) : w.heap.size ≤ gb144)); have n5_ := Aside0.mk ((by rw [hg]; exact Nat.ne_of_lt (blk_lt (g := gb141) (o := .cells #[.string a0_0, .int .i64 a0_1, .slice A0_2 l0_2.length c0_2, .slice (some ad143) l0_3.length c0_3, .slice A0_4 l0_4.length c0_4] 43 (0, 0)) (by (with_reducible repeat (first | refine blk_drewN ?_ _ | refine blk_drew ?_ | refine blk_alloc ?_ _)); exact BK141.out)) : gb141 ≠ gb144)); have n6_ := Aside0.mk ((by rw [hg]; exact Nat.ne_of_gt (blk_lt (g := gb141) (o := .cells #[.string a0_0, .int .i64 a0_1, .slice A0_2 l0_2.length c0_2, .slice (some ad143) l0_3.length c0_3, .slice A0_4 l0_4.length c0_4] 43 (0, 0)) (by (with_reducible repeat (first | refine blk_drewN ?_ _ | refine blk_drew ?_ | refine blk_alloc ?_ _)); exact BK141.out)) : gb144 ≠ gb141)); clear BK141; clear HB; have BK141 := n0_; have HB := n1_; have BK144 := n2_; have GW144 := n3_; have GE144 := n4_; have NB141_144 := n5_; have NB144_141 := n6_; clear n0_ n1_ n2_ n3_ n4_ n5_ n6_; clear hb hbox hg; have hnb21 := NB144_141.out; have hnc21 := NB141_144.out; have hcz22_0 : w20.cell? ⟨gb144, 0, none⟩ = some (.slice none 0 0) := (blk_cell BK144.out 0).trans rfl; have hcz22_1 : w20.cell? ⟨gb144, 1, none⟩ = some (.int .i64 0) := (blk_cell BK144.out 1).trans rfl; have hcz22_2 : w20.cell? ⟨gb144, 2, none⟩ = some (.int .i64 0) := (blk_cell BK144.out 2).trans rfl; have hcz22_3 : w20.cell? ⟨gb144, 3, none⟩ = some (.bool false) := (blk_cell BK144.out 3).trans rfl; have hfz22_0 := blk_frozen BK144.out 0; have hfz22_1 := blk_frozen BK144.out 1; have hfz22_2 := blk_frozen BK144.out 2; have hfz22_3 := blk_frozen BK144.out 3))
          go_ret
          exact ⟨by first | rfl | (simp [errW_none, errW_some] <;> rfl) | (simp [*, errW_none, errW_some] <;> rfl), by repeat (first | (with_reducible first | exact HB.out | apply below_alloc | apply pw_below_drewN | apply below_drew1 | refine below_set ?_ GE141.out | refine below_set ?_ GE144.out) | exact HB.out)⟩
         ·rw [if_neg c19] at H
          have c19b0 : decide (1048576 < (((rd_T76 l0_3 x38_2).f0).length : Int)) = false := decide_eq_false c19
          have c19b1 : decide (1048576 < ((rd_T76 l0_3 x38_2).f0).length) = false := decide_eq_false (by omega)
          clear c19
          replace H := Option.bind_eq_some_iff.mp H
          obtain ⟨t145, A230, H⟩ := H
          replace H : (if t145 = true then ((isomedia_unit.f ((rd_T76 l0_3 x38_2).f2) 0).bind fun t146 => (if t146 = true then (isomedia_validTrack.l0 k2 l0_3 (l0_3.length : Int) (wrap64 (x38_2 + 1)) a0_0 a0_1 l0_2 l0_3 l0_4) else (some false))) else (some false)) = some r := H
          have A23 := Aside0.mk A230
          clear A230
          by_cases c24 : t145 = true
          ·subst c24
           have H1 : ((isomedia_unit.f ((rd_T76 l0_3 x38_2).f2) 0).bind fun t146 => (if t146 = true then (isomedia_validTrack.l0 k2 l0_3 (l0_3.length : Int) (wrap64 (x38_2 + 1)) a0_0 a0_1 l0_2 l0_3 l0_4) else (some false))) = some r := by rw [if_pos rfl] at H; exact H
           clear H
           have H := H1
           clear H1
           replace H := Option.bind_eq_some_iff.mp H
           obtain ⟨t146, A250, H⟩ := H
           replace H : (if t146 = true then (isomedia_validTrack.l0 k2 l0_3 (l0_3.length : Int) (wrap64 (x38_2 + 1)) a0_0 a0_1 l0_2 l0_3 l0_4) else (some false)) = some r := H
           have A25 := Aside0.mk A250
           clear A250
           by_cases c26 : t146 = true
           ·subst c26
            have H1 : (isomedia_validTrack.l0 k2 l0_3 (l0_3.length : Int) (wrap64 (x38_2 + 1)) a0_0 a0_1 l0_2 l0_3 l0_4) = some r := by rw [if_pos rfl] at H; exact H
            clear H
            have H := H1
            clear H1
            have H' := Aside0.mk H
            clear H
            have p143 : 0 ≤ (x38_2 : Int) := of_decide_eq_true (by first | (with_reducible assumption) | assumption)
            have q143 : x38_2 < (l0_3.length : Int) := of_decide_eq_true (by first | (with_reducible assumption) | assumption)
            obtain ⟨ad143, A143_0, c143_0, e143, hx143_0, hx143_1, hx143_2, hx143_3, hl143_0, hi143_0⟩ := at_T76 HR0_3.out x38_2 p143 q143
            cases e143
            replace hx143_0 := (HB.out.cell (World.block_lt_of_cell? w _ hx143_0)).trans hx143_0
            replace hx143_1 := (HB.out.cell (World.block_lt_of_cell? w _ hx143_1)).trans hx143_1
            replace hx143_2 := (HB.out.cell (World.block_lt_of_cell? w _ hx143_2)).trans hx143_2
            replace hx143_3 := (HB.out.cell (World.block_lt_of_cell? w _ hx143_3)).trans hx143_3
            have HR143_0 := Aside0.mk hi143_0
            have HC143_0 := Aside0.mk hl143_0
            clear hi143_0 hl143_0
            replace p143 := eq_true p143
            replace q143 := eq_true q143
            go_wp2_with (first | ((with_reducible refine gate_dst (N := 4) rfl ?_); (try (refine gate_guard (by rfl) ?_; dsimp only)); refine box_event ?hg (N := 4) ?hd (cs := #[.slice none 0 0, .int .i64 0, .int .i64 0, .bool false]) (t := 76) ?hr ?_; (case hd => rfl); (case hg => rfl); (case hr => first | (go_simp; done) | (go_simp; rfl)); intro gb144 hg w27 hbox hb; have n0_ := Aside0.mk (blk_below (g := gb141) (o := .cells #[.string a0_0, .int .i64 a0_1, .slice A0_2 l0_2.length c0_2, .slice (some ad143) l0_3.length c0_3, .slice A0_4 l0_4.length c0_4] 43 (0, 0)) (by (with_reducible repeat (first | refine blk_drewN ?_ _ | refine blk_drew ?_ | refine blk_alloc ?_ _)); exact BK141.out) hb); have n1_ := Aside0.mk (below_step (by repeat (first | (with_reducible first | exact HB.out | apply below_alloc | apply pw_below_drewN | apply below_drew1 | refine below_set ?_ GE141.out) | exact HB.out)) hb); have n2_ := Aside0.mk (hbox); have n3_ := Aside0.mk ((by rw [hg]; exact (below_size (by repeat (first | (with_reducible first | exact HB.out | apply below_alloc | apply pw_below_drewN | apply below_drew1 | refine below_set ?_ GE141.out) | exact HB.out))) : w.heap.size ≤ gb144)); have n4_ := Aside0.mk ((by rw [hg]; exact (below_size (by repeat (first | (with_reducible first | exact HB.out | apply below_alloc | apply pw_below_drewN | apply below_drew1 | refine below_set ?_ GE141.out) | exact HB.out))) : w.heap.size ≤ gb144)); have n5_ := Aside0.mk ((by rw [hg]; exact Nat.ne_of_lt (blk_lt (g := gb141) (o := .cells #[.string a0_0, .int .i64 a0_1, .slice A0_2 l0_2.length c0_2, .slice (some ad143) l0_3.length c0_3, .slice A0_4 l0_4.length c0_4] 43 (0, 0)) (by (with_reducible repeat (first | refine blk_drewN ?_ _ | refine blk_drew ?_ | refine blk_alloc ?_ _)); exact BK141.out)) : gb141 ≠ gb144)); have n6_ := Aside0.mk ((by rw [hg]; exact Nat.ne_of_gt (blk_lt (g := gb141) (o := .cells #[.string a0_0, .int .i64 a0_1, .slice A0_2 l0_2.length c0_2, .slice (some ad143) l0_3.length c0_3, .slice A0_4 l0_4.length c0_4] 43 (0, 0)) (by (with_reducible repeat (first | refine blk_drewN ?_ _ | refine blk_drew ?_ | refine blk_alloc ?_ _)); exact BK141.out)) : gb144 ≠ gb141)); clear BK141; clear HB; have BK141 := n0_; have HB := n1_; have BK144 := n2_; have GW144 := n3_; have GE144 := n4_; have NB141_144 := n5_; have NB144_141 := n6_; clear n0_ n1_ n2_ n3_ n4_ n5_ n6_; clear hb hbox hg; have hnb28 := NB144_141.out; have hnc28 := NB141_144.out; have hcz29_0 : w27.cell? ⟨gb144, 0, none⟩ = some (.slice none 0 0) := (blk_cell BK144.out 0).trans rfl; have hcz29_1 : w27.cell? ⟨gb144, 1, none⟩ = some (.int .i64 0) := (blk_cell BK144.out 1).trans rfl; have hcz29_2 : w27.cell? ⟨gb144, 2, none⟩ = some (.int .i64 0) := (blk_cell BK144.out 2).trans rfl; have hcz29_3 : w27.cell? ⟨gb144, 3, none⟩ = some (.bool false) := (blk_cell BK144.out 3).trans rfl; have hfz29_0 := blk_frozen BK144.out 0; have hfz29_1 := blk_frozen BK144.out 1; have hfz29_2 := blk_frozen BK144.out 2; have hfz29_3 := blk_frozen BK144.out 3) | (go_at_call 44; (with_reducible refine (isomedia_unit.calls ((rd_T76 l0_3 x38_2).f1) 0 true _ A23.out).mono ?_); rintro e w' ⟨rfl, ⟨nd, rfl⟩⟩) | (go_at_call 44; (with_reducible refine (isomedia_unit.calls ((rd_T76 l0_3 x38_2).f2) 0 true _ A25.out).mono ?_); rintro e w' ⟨rfl, ⟨nd, rfl⟩⟩))
            go_roundg k2
            case measure => have := HJ1.out; have := HK2.out; omega
            case rel => exact ⟨(wrap64 (x38_2 + 1)), (by first | rfl | (simp; done) | (simp [*]; done)), H', ⟨by have := HJ1.out; have := HK2.out; omega⟩, ⟨by (with_reducible repeat (first | refine blk_drewN ?_ _ | refine blk_drew ?_ | refine blk_alloc ?_ _)); refine blk_far ?_ NB141_144.out _; (with_reducible repeat (first | refine blk_drewN ?_ _ | refine blk_drew ?_ | refine blk_alloc ?_ _)); refine blk_far ?_ NB141_144.out _; (with_reducible repeat (first | refine blk_drewN ?_ _ | refine blk_drew ?_ | refine blk_alloc ?_ _)); refine blk_far ?_ NB141_144.out _; (with_reducible repeat (first | refine blk_drewN ?_ _ | refine blk_drew ?_ | refine blk_alloc ?_ _)); refine blk_far ?_ NB141_144.out _; (with_reducible repeat (first | refine blk_drewN ?_ _ | refine blk_drew ?_ | refine blk_alloc ?_ _)); exact BK141.out⟩, ⟨by repeat (first | (with_reducible first | exact HB.out | apply below_alloc | apply pw_below_drewN | apply below_drew1 | refine below_set ?_ GE141.out | refine below_set ?_ GE144.out) | exact HB.out)⟩⟩
           ·replace c26 := Bool.eq_false_iff.mpr c26
            subst c26
            have H1 : (some false) = some r := by rw [if_neg (show ¬ (false = true) by decide)] at H; exact H
            clear H
            have H := H1
            clear H1
            obtain rfl := Option.some.inj H
            have p143 : 0 ≤ (x38_2 : Int) := of_decide_eq_true (by first | (with_reducible assumption) | assumption)
            have q143 : x38_2 < (l0_3.length : Int) := of_decide_eq_true (by first | (with_reducible assumption) | assumption)
            obtain ⟨ad143, A143_0, c143_0, e143, hx143_0, hx143_1, hx143_2, hx143_3, hl143_0, hi143_0⟩ := at_T76 HR0_3.out x38_2 p143 q143
            cases e143
            replace hx143_0 := (HB.out.cell (World.block_lt_of_cell? w _ hx143_0)).trans hx143_0
            replace hx143_1 := (HB.out.cell (World.block_lt_of_cell? w _ hx143_1)).trans hx143_1
            replace hx143_2 := (HB.out.cell (World.block_lt_of_cell? w _ hx143_2)).trans hx143_2
            replace hx143_3 := (HB.out.cell (World.block_lt_of_cell? w _ hx143_3)).trans hx143_3
            have HR143_0 := Aside0.mk hi143_0
            have HC143_0 := Aside0.mk hl143_0
            clear hi143_0 hl143_0
            replace p143 := eq_true p143
            replace q143 := eq_true q143
            go_wp2_with (first | ((with_reducible refine gate_dst (N := 4) rfl ?_); (try (refine gate_guard (by rfl) ?_; dsimp only)); refine box_event ?hg (N := 4) ?hd (cs := #[.slice none 0 0, .int .i64 0, .int .i64 0, .bool false]) (t := 76) ?hr ?_; (case hd => rfl); (case hg => rfl); (case hr => first | (go_simp; done) | (go_simp; rfl)); intro gb144 hg w30 hbox hb; have n0_ := Aside0.mk (blk_below (g := gb141) (o := .cells #[.string a0_0, .int .i64 a0_1, .slice A0_2 l0_2.length c0_2, .slice (some ad143) l0_3.length c0_3, .slice A0_4 l0_4.length c0_4] 43 (0, 0)) (by (with_reducible repeat (first | refine blk_drewN ?_ _ | refine blk_drew ?_ | refine blk_alloc ?_ _)); exact BK141.out) hb); have n1_ := Aside0.mk (below_step (by repeat (first | (with_reducible first | exact HB.out | apply below_alloc | apply pw_below_drewN | apply below_drew1 | refine below_set ?_ GE141.out) | exact HB.out)) hb); have n2_ := Aside0.mk (hbox); have n3_ := Aside0.mk ((by rw [hg]; exact (below_size (by repeat (first | (with_reducible first | exact HB.out | apply below_alloc | apply pw_below_drewN | apply below_drew1 | refine below_set ?_ GE141.out) | exact HB.out))) : w.heap.size ≤ gb144)); have n4_ := Aside0.mk ((by rw [hg]; exact (below_size (by repeat (first | (with_reducible first | exact HB.out | apply below_alloc | apply pw_below_drewN | apply below_drew1 | refine below_set ?_ GE141.out) | exact HB.out))) : w.heap.size ≤ gb144)); have n5_ := Aside0.mk ((by rw [hg]; exact Nat.ne_of_lt (blk_lt (g := gb141) (o := .cells #[.string a0_0, .int .i64 a0_1, .slice A0_2 l0_2.length c0_2, .slice (some ad143) l0_3.length c0_3, .slice A0_4 l0_4.length c0_4] 43 (0, 0)) (by (with_reducible repeat (first | refine blk_drewN ?_ _ | refine blk_drew ?_ | refine blk_alloc ?_ _)); exact BK141.out)) : gb141 ≠ gb144)); have n6_ := Aside0.mk ((by rw [hg]; exact Nat.ne_of_gt (blk_lt (g := gb141) (o := .cells #[.string a0_0, .int .i64 a0_1, .slice A0_2 l0_2.length c0_2, .slice (some ad143) l0_3.length c0_3, .slice A0_4 l0_4.length c0_4] 43 (0, 0)) (by (with_reducible repeat (first | refine blk_drewN ?_ _ | refine blk_drew ?_ | refine blk_alloc ?_ _)); exact BK141.out)) : gb144 ≠ gb141)); clear BK141; clear HB; have BK141 := n0_; have HB := n1_; have BK144 := n2_; have GW144 := n3_; have GE144 := n4_; have NB141_144 := n5_; have NB144_141 := n6_; clear n0_ n1_ n2_ n3_ n4_ n5_ n6_; clear hb hbox hg; have hnb31 := NB144_141.out; have hnc31 := NB141_144.out; have hcz32_0 : w30.cell? ⟨gb144, 0, none⟩ = some (.slice none 0 0) := (blk_cell BK144.out 0).trans rfl; have hcz32_1 : w30.cell? ⟨gb144, 1, none⟩ = some (.int .i64 0) := (blk_cell BK144.out 1).trans rfl; have hcz32_2 : w30.cell? ⟨gb144, 2, none⟩ = some (.int .i64 0) := (blk_cell BK144.out 2).trans rfl; have hcz32_3 : w30.cell? ⟨gb144, 3, none⟩ = some (.bool false) := (blk_cell BK144.out 3).trans rfl; have hfz32_0 := blk_frozen BK144.out 0; have hfz32_1 := blk_frozen BK144.out 1; have hfz32_2 := blk_frozen BK144.out 2; have hfz32_3 := blk_frozen BK144.out 3) | (go_at_call 44; (with_reducible refine (isomedia_unit.calls ((rd_T76 l0_3 x38_2).f1) 0 true _ A23.out).mono ?_); rintro e w' ⟨rfl, ⟨nd, rfl⟩⟩) | (go_at_call 44; (with_reducible refine (isomedia_unit.calls ((rd_T76 l0_3 x38_2).f2) 0 false _ A25.out).mono ?_); rintro e w' ⟨rfl, ⟨nd, rfl⟩⟩))
            go_ret
            exact ⟨by first | rfl | (simp [errW_none, errW_some] <;> rfl) | (simp [*, errW_none, errW_some] <;> rfl), by repeat (first | (with_reducible first | exact HB.out | apply below_alloc | apply pw_below_drewN | apply below_drew1 | refine below_set ?_ GE141.out | refine below_set ?_ GE144.out) | exact HB.out)⟩
          ·replace c24 := Bool.eq_false_iff.mpr c24
           subst c24
           have H1 : (some false) = some r := by rw [if_neg (show ¬ (false = true) by decide)] at H; exact H
           clear H
           have H := H1
           clear H1
           obtain rfl := Option.some.inj H
           have p143 : 0 ≤ (x38_2 : Int) := of_decide_eq_true (by first | (with_reducible assumption) | assumption)
           have q143 : x38_2 < (l0_3.length : Int) := of_decide_eq_true (by first | (with_reducible assumption) | assumption)
           obtain ⟨ad143, A143_0, c143_0, e143, hx143_0, hx143_1, hx143_2, hx143_3, hl143_0, hi143_0⟩ := at_T76 HR0_3.out x38_2 p143 q143
           cases e143
           replace hx143_0 := (HB.out.cell (World.block_lt_of_cell? w _ hx143_0)).trans hx143_0
           replace hx143_1 := (HB.out.cell (World.block_lt_of_cell? w _ hx143_1)).trans hx143_1
           replace hx143_2 := (HB.out.cell (World.block_lt_of_cell? w _ hx143_2)).trans hx143_2
           replace hx143_3 := (HB.out.cell (World.block_lt_of_cell? w _ hx143_3)).trans hx143_3
           have HR143_0 := Aside0.mk hi143_0
           have HC143_0 := Aside0.mk hl143_0
           clear hi143_0 hl143_0
           replace p143 := eq_true p143
           replace q143 := eq_true q143
           go_wp2_with (first | ((with_reducible refine gate_dst (N := 4) rfl ?_); (try (refine gate_guard (by rfl) ?_; dsimp only)); refine box_event ?hg (N := 4) ?hd (cs := #[.slice none 0 0, .int .i64 0, .int .i64 0, .bool false]) (t := 76) ?hr ?_; (case hd => rfl); (case hg => rfl); (case hr => first | (go_simp; done) | (go_simp; rfl)); intro gb144 hg w33 hbox hb; have n0_ := Aside0.mk (blk_below (g := gb141) (o := .cells #[.string a0_0, .int .i64 a0_1, .slice A0_2 l0_2.length c0_2, .slice (some ad143) l0_3.length c0_3, .slice A0_4 l0_4.length c0_4] 43 (0, 0)) (by (with_reducible repeat (first | refine blk_drewN ?_ _ | refine blk_drew ?_ | refine blk_alloc ?_ _)); exact BK141.out) hb); have n1_ := Aside0.mk (below_step (by repeat (first | (with_reducible first | exact HB.out | apply below_alloc | apply pw_below_drewN | apply below_drew1 | refine below_set ?_ GE141.out) | exact HB.out)) hb); have n2_ := Aside0.mk (hbox); have n3_ := Aside0.mk ((by rw [hg]; exact (below_size (by repeat (first | (with_reducible first | exact HB.out | apply below_alloc | apply pw_below_drewN | apply below_drew1 | refine below_set ?_ GE141.out) | exact HB.out))) : w.heap.size ≤ gb144)); have n4_ := Aside0.mk ((by rw [hg]; exact (below_size (by repeat (first | (with_reducible first | exact HB.out | apply below_alloc | apply pw_below_drewN | apply below_drew1 | refine below_set ?_ GE141.out) | exact HB.out))) : w.heap.size ≤ gb144)); have n5_ := Aside0.mk ((by rw [hg]; exact Nat.ne_of_lt (blk_lt (g := gb141) (o := .cells #[.string a0_0, .int .i64 a0_1, .slice A0_2 l0_2.length c0_2, .slice (some ad143) l0_3.length c0_3, .slice A0_4 l0_4.length c0_4] 43 (0, 0)) (by (with_reducible repeat (first | refine blk_drewN ?_ _ | refine blk_drew ?_ | refine blk_alloc ?_ _)); exact BK141.out)) : gb141 ≠ gb144)); have n6_ := Aside0.mk ((by rw [hg]; exact Nat.ne_of_gt (blk_lt (g := gb141) (o := .cells #[.string a0_0, .int .i64 a0_1, .slice A0_2 l0_2.length c0_2, .slice (some ad143) l0_3.length c0_3, .slice A0_4 l0_4.length c0_4] 43 (0, 0)) (by (with_reducible repeat (first | refine blk_drewN ?_ _ | refine blk_drew ?_ | refine blk_alloc ?_ _)); exact BK141.out)) : gb144 ≠ gb141)); clear BK141; clear HB; have BK141 := n0_; have HB := n1_; have BK144 := n2_; have GW144 := n3_; have GE144 := n4_; have NB141_144 := n5_; have NB144_141 := n6_; clear n0_ n1_ n2_ n3_ n4_ n5_ n6_; clear hb hbox hg; have hnb34 := NB144_141.out; have hnc34 := NB141_144.out; have hcz35_0 : w33.cell? ⟨gb144, 0, none⟩ = some (.slice none 0 0) := (blk_cell BK144.out 0).trans rfl; have hcz35_1 : w33.cell? ⟨gb144, 1, none⟩ = some (.int .i64 0) := (blk_cell BK144.out 1).trans rfl; have hcz35_2 : w33.cell? ⟨gb144, 2, none⟩ = some (.int .i64 0) := (blk_cell BK144.out 2).trans rfl; have hcz35_3 : w33.cell? ⟨gb144, 3, none⟩ = some (.bool false) := (blk_cell BK144.out 3).trans rfl; have hfz35_0 := blk_frozen BK144.out 0; have hfz35_1 := blk_frozen BK144.out 1; have hfz35_2 := blk_frozen BK144.out 2; have hfz35_3 := blk_frozen BK144.out 3) | (go_at_call 44; (with_reducible refine (isomedia_unit.calls ((rd_T76 l0_3 x38_2).f1) 0 false _ A23.out).mono ?_); rintro e w' ⟨rfl, ⟨nd, rfl⟩⟩))
           go_ret
           exact ⟨by first | rfl | (simp [errW_none, errW_some] <;> rfl) | (simp [*, errW_none, errW_some] <;> rfl), by repeat (first | (with_reducible first | exact HB.out | apply below_alloc | apply pw_below_drewN | apply below_drew1 | refine below_set ?_ GE141.out | refine below_set ?_ GE144.out) | exact HB.out)⟩
        ·rw [if_neg c18] at H
         exact absurd H (by simp)
       ·rw [if_neg c17] at H
        exact absurd H (by simp)
      ·rw [if_neg c16] at H
       have c16b0 : decide (x38_2 < (l0_3.length : Int)) = false := decide_eq_false c16
       clear c16
       have H' := Aside0.mk H
       clear H
       have hcz36_0 : wr.cell? ⟨gb141, 0, none⟩ = some (.string a0_0) := (blk_cell BK141.out 0).trans rfl
       have hcz36_1 : wr.cell? ⟨gb141, 1, none⟩ = some (.int .i64 a0_1) := (blk_cell BK141.out 1).trans rfl
       have hcz36_2 : wr.cell? ⟨gb141, 2, none⟩ = some (.slice A0_2 l0_2.length c0_2) := (blk_cell BK141.out 2).trans rfl
       have hcz36_3 : wr.cell? ⟨gb141, 3, none⟩ = some (.slice A0_3 l0_3.length c0_3) := (blk_cell BK141.out 3).trans rfl
       have hcz36_4 : wr.cell? ⟨gb141, 4, none⟩ = some (.slice A0_4 l0_4.length c0_4) := (blk_cell BK141.out 4).trans rfl
       have hfz36_0 := blk_frozen BK141.out 0
       have hfz36_1 := blk_frozen BK141.out 1
       have hfz36_2 := blk_frozen BK141.out 2
       have hfz36_3 := blk_frozen BK141.out 3
       have hfz36_4 := blk_frozen BK141.out 4
       go_wp2
       go_loopg [62] k2 (fun kq v62 w' => ∃ (x62_3 : Int), v62 = .int .i64 x62_3 ∧ Aside0 (isomedia_validTrack.l1 kq l0_4 (l0_4.length : Int) x62_3 = some r) ∧ Aside0 (kq ≤ k2) ∧ Aside0 (w'.heap[gb141]? = some (.cells #[.string a0_0, .int .i64 a0_1, (.slice A0_2 l0_2.length c0_2), (.slice A0_3 l0_3.length c0_3), (.slice A0_4 l0_4.length c0_4)] 43 (0, 0))) ∧ Aside0 (Below w.heap.size w w'))
       case atStart => exact ⟨(0), (by first | rfl | (simp; done) | (simp [*]; done)), H', ⟨Nat.le_refl _⟩, ⟨by (with_reducible repeat (first | refine blk_drewN ?_ _ | refine blk_drew ?_ | refine blk_alloc ?_ _)); exact BK141.out⟩, ⟨by repeat (first | (with_reducible first | exact HB.out | apply below_alloc | apply pw_below_drewN | apply below_drew1 | refine below_set ?_ GE141.out) | exact HB.out)⟩⟩
       case round =>
        clear H'
        (try clear c1);(try clear p1);(try clear q1);(try clear hx1);(try clear c2);(try clear p2);(try clear c3);(try clear c4);(try clear c4b0);(try clear c4b1);(try clear c6);(try clear p6);(try clear c7);(try clear c7b0);(try clear c7b1);(try clear c9);(try clear c9b0);(try clear c9b1);(try clear c14);(try clear p14);(try clear q14);(try clear hx14);(try clear c16);(try clear c16b0);(try clear c17);(try clear c17b0);(try clear c18);(try clear c18b0);(try clear c19);(try clear c19b0);(try clear c19b1);(try clear c21);(try clear c24);(try clear c26);(try clear c28);(try clear c30);(try clear c31);(try clear c34);(try clear hcz10_0);(try clear hcz10_1);(try clear hcz10_2);(try clear hcz10_3);(try clear hcz10_4);(try clear hcz11_0);(try clear hcz11_1);(try clear hcz11_2);(try clear hcz11_3);(try clear hcz11_4);(try clear hcz12_0);(try clear hcz12_1);(try clear hcz12_2);(try clear hcz12_3)
        (try clear hcz12_4);(try clear hcz13_0);(try clear hcz13_1);(try clear hcz13_2);(try clear hcz13_3);(try clear hcz13_4);(try clear hcz15_0);(try clear hcz15_1);(try clear hcz15_2);(try clear hcz15_3);(try clear hcz15_4);(try clear hcz22_0);(try clear hcz22_1);(try clear hcz22_2);(try clear hcz22_3);(try clear hcz29_0);(try clear hcz29_1);(try clear hcz29_2);(try clear hcz29_3);(try clear hcz32_0);(try clear hcz32_1);(try clear hcz32_2);(try clear hcz32_3);(try clear hcz35_0);(try clear hcz35_1);(try clear hcz35_2);(try clear hcz35_3);(try clear hcz36_0);(try clear hcz36_1);(try clear hcz36_2);(try clear hcz36_3);(try clear hcz36_4);(try clear hcz8_0);(try clear hcz8_1);(try clear hcz8_2);(try clear hcz8_3);(try clear hcz8_4);(try clear hfz10_0);(try clear hfz10_1);(try clear hfz10_2);(try clear hfz10_3);(try clear hfz10_4);(try clear hfz11_0);(try clear hfz11_1);(try clear hfz11_2)
        (try clear hfz11_3);(try clear hfz11_4);(try clear hfz12_0);(try clear hfz12_1);(try clear hfz12_2);(try clear hfz12_3);(try clear hfz12_4);(try clear hfz13_0);(try clear hfz13_1);(try clear hfz13_2);(try clear hfz13_3);(try clear hfz13_4);(try clear hfz15_0);(try clear hfz15_1);(try clear hfz15_2);(try clear hfz15_3);(try clear hfz15_4);(try clear hfz22_0);(try clear hfz22_1);(try clear hfz22_2);(try clear hfz22_3);(try clear hfz29_0);(try clear hfz29_1);(try clear hfz29_2);(try clear hfz29_3);(try clear hfz32_0);(try clear hfz32_1);(try clear hfz32_2);(try clear hfz32_3);(try clear hfz35_0);(try clear hfz35_1);(try clear hfz35_2);(try clear hfz35_3);(try clear hfz36_0);(try clear hfz36_1);(try clear hfz36_2);(try clear hfz36_3);(try clear hfz36_4);(try clear hfz8_0);(try clear hfz8_1);(try clear hfz8_2);(try clear hfz8_3);(try clear hfz8_4);(try clear hx143_0);(try clear hx143_1)
        (try clear hx143_2);(try clear hx143_3);(try clear p143);(try clear p2);(try clear q143)
        obtain ⟨x62_3, rfl, HA, HK3, BK141, HB⟩ := hrel
        cases gk with
        | zero => exact absurd HA.out (by simp [isomedia_validTrack.l1])
        | succ k3 =>
         have H := HA.out
         clear HA
         simp only [isomedia_validTrack.l1] at H
         by_cases c37 : x62_3 < (l0_4.length : Int)
         ·rw [if_pos c37] at H
          have c37b0 : decide (x62_3 < (l0_4.length : Int)) = true := decide_eq_true c37
          clear c37
          by_cases c38 : 0 ≤ x62_3
          ·rw [if_pos c38] at H
           have c38b0 : decide (0 ≤ x62_3) = true := decide_eq_true c38
           clear c38
           by_cases c39 : x62_3 < (l0_4.length : Int)
           ·rw [if_pos c39] at H
            have c39b0 : decide (x62_3 < (l0_4.length : Int)) = true := decide_eq_true c39
            clear c39
            replace H := Option.bind_eq_some_iff.mp H
            obtain ⟨t149, A400, H⟩ := H
            replace H : (if t149 = true then ((isomedia_between.f ((rd_T77 l0_4 x62_3).f1) (-1)).bind fun t150 => (if t150 = true then (isomedia_validTrack.l1 k3 l0_4 (l0_4.length : Int) (wrap64 (x62_3 + 1))) else (some false))) else (some false)) = some r := H
            have A40 := Aside0.mk A400
            clear A400
            by_cases c41 : t149 = true
            ·subst c41
             have H1 : ((isomedia_between.f ((rd_T77 l0_4 x62_3).f1) (-1)).bind fun t150 => (if t150 = true then (isomedia_validTrack.l1 k3 l0_4 (l0_4.length : Int) (wrap64 (x62_3 + 1))) else (some false))) = some r := by rw [if_pos rfl] at H; exact H
             clear H
             have H := H1
             clear H1
             replace H := Option.bind_eq_some_iff.mp H
             obtain ⟨t150, A420, H⟩ := H
             replace H : (if t150 = true then (isomedia_validTrack.l1 k3 l0_4 (l0_4.length : Int) (wrap64 (x62_3 + 1))) else (some false)) = some r := H
             have A42 := Aside0.mk A420
             clear A420
             by_cases c43 : t150 = true
             ·subst c43
              have H1 : (isomedia_validTrack.l1 k3 l0_4 (l0_4.length : Int) (wrap64 (x62_3 + 1))) = some r := by rw [if_pos rfl] at H; exact H
              clear H
              have H := H1
              clear H1
              have H' := Aside0.mk H
              clear H
              have p147 : 0 ≤ (x62_3 : Int) := of_decide_eq_true (by first | (with_reducible assumption) | assumption)
              have q147 : x62_3 < (l0_4.length : Int) := of_decide_eq_true (by first | (with_reducible assumption) | assumption)
              obtain ⟨ad147, e147, hx147_0, hx147_1⟩ := at_T77 HR0_4.out x62_3 p147 q147
              cases e147
              replace hx147_0 := (HB.out.cell (World.block_lt_of_cell? w _ hx147_0)).trans hx147_0
              replace hx147_1 := (HB.out.cell (World.block_lt_of_cell? w _ hx147_1)).trans hx147_1
              replace p147 := eq_true p147
              replace q147 := eq_true q147
              go_wp2_with (first | ((with_reducible refine gate_dst (N := 6) rfl ?_); (try (refine gate_guard (by rfl) ?_; dsimp only)); refine box_event ?hg (N := 6) ?hd (cs := #[.int .i64 0, .int .i64 0]) (t := 77) ?hr ?_; (case hd => rfl); (case hg => rfl); (case hr => first | (go_simp; done) | (go_simp; rfl)); intro gb148 hg w44 hbox hb; have n0_ := Aside0.mk (blk_below (g := gb141) (o := .cells #[.string a0_0, .int .i64 a0_1, .slice A0_2 l0_2.length c0_2, .slice A0_3 l0_3.length c0_3, .slice (some ad147) l0_4.length c0_4] 43 (0, 0)) (by (with_reducible repeat (first | refine blk_drewN ?_ _ | refine blk_drew ?_ | refine blk_alloc ?_ _)); exact BK141.out) hb); have n1_ := Aside0.mk (below_step (by repeat (first | (with_reducible first | exact HB.out | apply below_alloc | apply pw_below_drewN | apply below_drew1 | refine below_set ?_ GE141.out) | exact HB.out)) hb); have n2_ := Aside0.mk (hbox); have n3_ := Aside0.mk ((by rw [hg]; exact (below_size (by repeat (first | (with_reducible first | exact HB.out | apply below_alloc | apply pw_below_drewN | apply below_drew1 | refine below_set ?_ GE141.out) | exact HB.out))) : w.heap.size ≤ gb148)); have n4_ := Aside0.mk ((by rw [hg]; exact (below_size (by repeat (first | (with_reducible first | exact HB.out | apply below_alloc | apply pw_below_drewN | apply below_drew1 | refine below_set ?_ GE141.out) | exact HB.out))) : w.heap.size ≤ gb148)); have n5_ := Aside0.mk ((by rw [hg]; exact Nat.ne_of_lt (blk_lt (g := gb141) (o := .cells #[.string a0_0, .int .i64 a0_1, .slice A0_2 l0_2.length c0_2, .slice A0_3 l0_3.length c0_3, .slice (some ad147) l0_4.length c0_4] 43 (0, 0)) (by (with_reducible repeat (first | refine blk_drewN ?_ _ | refine blk_drew ?_ | refine blk_alloc ?_ _)); exact BK141.out)) : gb141 ≠ gb148)); have n6_ := Aside0.mk ((by rw [hg]; exact Nat.ne_of_gt (blk_lt (g := gb141) (o := .cells #[.string a0_0, .int .i64 a0_1, .slice A0_2 l0_2.length c0_2, .slice A0_3 l0_3.length c0_3, .slice (some ad147) l0_4.length c0_4] 43 (0, 0)) (by (with_reducible repeat (first | refine blk_drewN ?_ _ | refine blk_drew ?_ | refine blk_alloc ?_ _)); exact BK141.out)) : gb148 ≠ gb141)); clear BK141; clear HB; have BK141 := n0_; have HB := n1_; have BK148 := n2_; have GW148 := n3_; have GE148 := n4_; have NB141_148 := n5_; have NB148_141 := n6_; clear n0_ n1_ n2_ n3_ n4_ n5_ n6_; clear hb hbox hg; have hnb45 := NB148_141.out; have hnc45 := NB141_148.out; have hcz46_0 : w44.cell? ⟨gb148, 0, none⟩ = some (.int .i64 0) := (blk_cell BK148.out 0).trans rfl; have hcz46_1 : w44.cell? ⟨gb148, 1, none⟩ = some (.int .i64 0) := (blk_cell BK148.out 1).trans rfl; have hfz46_0 := blk_frozen BK148.out 0; have hfz46_1 := blk_frozen BK148.out 1) | ((with_reducible refine gate_callee (f := 51) rfl ?_); refine goesL_ (some 68) rfl rfl Try.func51 (by kernel_rfl) rfl #[.int .i64 ((rd_T77 l0_4 x62_3).f0), .int .i64 0] rfl (by (try simp only [List.map_toArray, List.map_cons, List.map_nil]); first | done | rfl | (simp only [List.length_drop, List.length_take]; rfl)) ?_; (with_reducible refine (isomedia_between.calls ((rd_T77 l0_4 x62_3).f0) 0 true _ A40.out).mono ?_); rintro e w' ⟨rfl, ⟨nd, rfl⟩⟩; refine ⟨_, rfl, ?_⟩) | (go_at_call 51; (with_reducible refine (isomedia_between.calls ((rd_T77 l0_4 x62_3).f1) (-1) true _ A42.out).mono ?_); rintro e w' ⟨rfl, ⟨nd, rfl⟩⟩))
              go_roundg k3
              case measure => have := HJ1.out; have := HK2.out; have := HK3.out; omega
              case rel => exact ⟨(wrap64 (x62_3 + 1)), (by first | rfl | (simp; done) | (simp [*]; done)), H', ⟨by have := HJ1.out; have := HK2.out; have := HK3.out; omega⟩, ⟨by (with_reducible repeat (first | refine blk_drewN ?_ _ | refine blk_drew ?_ | refine blk_alloc ?_ _)); refine blk_far ?_ NB141_148.out _; (with_reducible repeat (first | refine blk_drewN ?_ _ | refine blk_drew ?_ | refine blk_alloc ?_ _)); refine blk_far ?_ NB141_148.out _; (with_reducible repeat (first | refine blk_drewN ?_ _ | refine blk_drew ?_ | refine blk_alloc ?_ _)); exact BK141.out⟩, ⟨by repeat (first | (with_reducible first | exact HB.out | apply below_alloc | apply pw_below_drewN | apply below_drew1 | refine below_set ?_ GE141.out | refine below_set ?_ GE148.out) | exact HB.out)⟩⟩
             ·replace c43 := Bool.eq_false_iff.mpr c43
              subst c43
              have H1 : (some false) = some r := by rw [if_neg (show ¬ (false = true) by decide)] at H; exact H
              clear H
              have H := H1
              clear H1
              obtain rfl := Option.some.inj H
              have p147 : 0 ≤ (x62_3 : Int) := of_decide_eq_true (by first | (with_reducible assumption) | assumption)
              have q147 : x62_3 < (l0_4.length : Int) := of_decide_eq_true (by first | (with_reducible assumption) | assumption)
              obtain ⟨ad147, e147, hx147_0, hx147_1⟩ := at_T77 HR0_4.out x62_3 p147 q147
              cases e147
              replace hx147_0 := (HB.out.cell (World.block_lt_of_cell? w _ hx147_0)).trans hx147_0
              replace hx147_1 := (HB.out.cell (World.block_lt_of_cell? w _ hx147_1)).trans hx147_1
              replace p147 := eq_true p147
              replace q147 := eq_true q147
              go_wp2_with (first | ((with_reducible refine gate_dst (N := 6) rfl ?_); (try (refine gate_guard (by rfl) ?_; dsimp only)); refine box_event ?hg (N := 6) ?hd (cs := #[.int .i64 0, .int .i64 0]) (t := 77) ?hr ?_; (case hd => rfl); (case hg => rfl); (case hr => first | (go_simp; done) | (go_simp; rfl)); intro gb148 hg w47 hbox hb; have n0_ := Aside0.mk (blk_below (g := gb141) (o := .cells #[.string a0_0, .int .i64 a0_1, .slice A0_2 l0_2.length c0_2, .slice A0_3 l0_3.length c0_3, .slice (some ad147) l0_4.length c0_4] 43 (0, 0)) (by (with_reducible repeat (first | refine blk_drewN ?_ _ | refine blk_drew ?_ | refine blk_alloc ?_ _)); exact BK141.out) hb); have n1_ := Aside0.mk (below_step (by repeat (first | (with_reducible first | exact HB.out | apply below_alloc | apply pw_below_drewN | apply below_drew1 | refine below_set ?_ GE141.out) | exact HB.out)) hb); have n2_ := Aside0.mk (hbox); have n3_ := Aside0.mk ((by rw [hg]; exact (below_size (by repeat (first | (with_reducible first | exact HB.out | apply below_alloc | apply pw_below_drewN | apply below_drew1 | refine below_set ?_ GE141.out) | exact HB.out))) : w.heap.size ≤ gb148)); have n4_ := Aside0.mk ((by rw [hg]; exact (below_size (by repeat (first | (with_reducible first | exact HB.out | apply below_alloc | apply pw_below_drewN | apply below_drew1 | refine below_set ?_ GE141.out) | exact HB.out))) : w.heap.size ≤ gb148)); have n5_ := Aside0.mk ((by rw [hg]; exact Nat.ne_of_lt (blk_lt (g := gb141) (o := .cells #[.string a0_0, .int .i64 a0_1, .slice A0_2 l0_2.length c0_2, .slice A0_3 l0_3.length c0_3, .slice (some ad147) l0_4.length c0_4] 43 (0, 0)) (by (with_reducible repeat (first | refine blk_drewN ?_ _ | refine blk_drew ?_ | refine blk_alloc ?_ _)); exact BK141.out)) : gb141 ≠ gb148)); have n6_ := Aside0.mk ((by rw [hg]; exact Nat.ne_of_gt (blk_lt (g := gb141) (o := .cells #[.string a0_0, .int .i64 a0_1, .slice A0_2 l0_2.length c0_2, .slice A0_3 l0_3.length c0_3, .slice (some ad147) l0_4.length c0_4] 43 (0, 0)) (by (with_reducible repeat (first | refine blk_drewN ?_ _ | refine blk_drew ?_ | refine blk_alloc ?_ _)); exact BK141.out)) : gb148 ≠ gb141)); clear BK141; clear HB; have BK141 := n0_; have HB := n1_; have BK148 := n2_; have GW148 := n3_; have GE148 := n4_; have NB141_148 := n5_; have NB148_141 := n6_; clear n0_ n1_ n2_ n3_ n4_ n5_ n6_; clear hb hbox hg; have hnb48 := NB148_141.out; have hnc48 := NB141_148.out; have hcz49_0 : w47.cell? ⟨gb148, 0, none⟩ = some (.int .i64 0) := (blk_cell BK148.out 0).trans rfl; have hcz49_1 : w47.cell? ⟨gb148, 1, none⟩ = some (.int .i64 0) := (blk_cell BK148.out 1).trans rfl; have hfz49_0 := blk_frozen BK148.out 0; have hfz49_1 := blk_frozen BK148.out 1) | ((with_reducible refine gate_callee (f := 51) rfl ?_); refine goesL_ (some 68) rfl rfl Try.func51 (by kernel_rfl) rfl #[.int .i64 ((rd_T77 l0_4 x62_3).f0), .int .i64 0] rfl (by (try simp only [List.map_toArray, List.map_cons, List.map_nil]); first | done | rfl | (simp only [List.length_drop, List.length_take]; rfl)) ?_; (with_reducible refine (isomedia_between.calls ((rd_T77 l0_4 x62_3).f0) 0 true _ A40.out).mono ?_); rintro e w' ⟨rfl, ⟨nd, rfl⟩⟩; refine ⟨_, rfl, ?_⟩) | (go_at_call 51; (with_reducible refine (isomedia_between.calls ((rd_T77 l0_4 x62_3).f1) (-1) false _ A42.out).mono ?_); rintro e w' ⟨rfl, ⟨nd, rfl⟩⟩))
              go_ret
              exact ⟨by first | rfl | (simp [errW_none, errW_some] <;> rfl) | (simp [*, errW_none, errW_some] <;> rfl), by repeat (first | (with_reducible first | exact HB.out | apply below_alloc | apply pw_below_drewN | apply below_drew1 | refine below_set ?_ GE141.out | refine below_set ?_ GE148.out) | exact HB.out)⟩
            ·replace c41 := Bool.eq_false_iff.mpr c41
             subst c41
             have H1 : (some false) = some r := by rw [if_neg (show ¬ (false = true) by decide)] at H; exact H
             clear H
             have H := H1
             clear H1
             obtain rfl := Option.some.inj H
             have p147 : 0 ≤ (x62_3 : Int) := of_decide_eq_true (by first | (with_reducible assumption) | assumption)
             have q147 : x62_3 < (l0_4.length : Int) := of_decide_eq_true (by first | (with_reducible assumption) | assumption)
             obtain ⟨ad147, e147, hx147_0, hx147_1⟩ := at_T77 HR0_4.out x62_3 p147 q147
             cases e147
             replace hx147_0 := (HB.out.cell (World.block_lt_of_cell? w _ hx147_0)).trans hx147_0
             replace hx147_1 := (HB.out.cell (World.block_lt_of_cell? w _ hx147_1)).trans hx147_1
             replace p147 := eq_true p147
             replace q147 := eq_true q147
             go_wp2_with (first | ((with_reducible refine gate_dst (N := 6) rfl ?_); (try (refine gate_guard (by rfl) ?_; dsimp only)); refine box_event ?hg (N := 6) ?hd (cs := #[.int .i64 0, .int .i64 0]) (t := 77) ?hr ?_; (case hd => rfl); (case hg => rfl); (case hr => first | (go_simp; done) | (go_simp; rfl)); intro gb148 hg w50 hbox hb; have n0_ := Aside0.mk (blk_below (g := gb141) (o := .cells #[.string a0_0, .int .i64 a0_1, .slice A0_2 l0_2.length c0_2, .slice A0_3 l0_3.length c0_3, .slice (some ad147) l0_4.length c0_4] 43 (0, 0)) (by (with_reducible repeat (first | refine blk_drewN ?_ _ | refine blk_drew ?_ | refine blk_alloc ?_ _)); exact BK141.out) hb); have n1_ := Aside0.mk (below_step (by repeat (first | (with_reducible first | exact HB.out | apply below_alloc | apply pw_below_drewN | apply below_drew1 | refine below_set ?_ GE141.out) | exact HB.out)) hb); have n2_ := Aside0.mk (hbox); have n3_ := Aside0.mk ((by rw [hg]; exact (below_size (by repeat (first | (with_reducible first | exact HB.out | apply below_alloc | apply pw_below_drewN | apply below_drew1 | refine below_set ?_ GE141.out) | exact HB.out))) : w.heap.size ≤ gb148)); have n4_ := Aside0.mk ((by rw [hg]; exact (below_size (by repeat (first | (with_reducible first | exact HB.out | apply below_alloc | apply pw_below_drewN | apply below_drew1 | refine below_set ?_ GE141.out) | exact HB.out))) : w.heap.size ≤ gb148)); have n5_ := Aside0.mk ((by rw [hg]; exact Nat.ne_of_lt (blk_lt (g := gb141) (o := .cells #[.string a0_0, .int .i64 a0_1, .slice A0_2 l0_2.length c0_2, .slice A0_3 l0_3.length c0_3, .slice (some ad147) l0_4.length c0_4] 43 (0, 0)) (by (with_reducible repeat (first | refine blk_drewN ?_ _ | refine blk_drew ?_ | refine blk_alloc ?_ _)); exact BK141.out)) : gb141 ≠ gb148)); have n6_ := Aside0.mk ((by rw [hg]; exact Nat.ne_of_gt (blk_lt (g := gb141) (o := .cells #[.string a0_0, .int .i64 a0_1, .slice A0_2 l0_2.length c0_2, .slice A0_3 l0_3.length c0_3, .slice (some ad147) l0_4.length c0_4] 43 (0, 0)) (by (with_reducible repeat (first | refine blk_drewN ?_ _ | refine blk_drew ?_ | refine blk_alloc ?_ _)); exact BK141.out)) : gb148 ≠ gb141)); clear BK141; clear HB; have BK141 := n0_; have HB := n1_; have BK148 := n2_; have GW148 := n3_; have GE148 := n4_; have NB141_148 := n5_; have NB148_141 := n6_; clear n0_ n1_ n2_ n3_ n4_ n5_ n6_; clear hb hbox hg; have hnb51 := NB148_141.out; have hnc51 := NB141_148.out; have hcz52_0 : w50.cell? ⟨gb148, 0, none⟩ = some (.int .i64 0) := (blk_cell BK148.out 0).trans rfl; have hcz52_1 : w50.cell? ⟨gb148, 1, none⟩ = some (.int .i64 0) := (blk_cell BK148.out 1).trans rfl; have hfz52_0 := blk_frozen BK148.out 0; have hfz52_1 := blk_frozen BK148.out 1) | ((with_reducible refine gate_callee (f := 51) rfl ?_); refine goesL_ (some 68) rfl rfl Try.func51 (by kernel_rfl) rfl #[.int .i64 ((rd_T77 l0_4 x62_3).f0), .int .i64 0] rfl (by (try simp only [List.map_toArray, List.map_cons, List.map_nil]); first | done | rfl | (simp only [List.length_drop, List.length_take]; rfl)) ?_; (with_reducible refine (isomedia_between.calls ((rd_T77 l0_4 x62_3).f0) 0 false _ A40.out).mono ?_); rintro e w' ⟨rfl, ⟨nd, rfl⟩⟩; refine ⟨_, rfl, ?_⟩))
             go_ret
             exact ⟨by first | rfl | (simp [errW_none, errW_some] <;> rfl) | (simp [*, errW_none, errW_some] <;> rfl), by repeat (first | (with_reducible first | exact HB.out | apply below_alloc | apply pw_below_drewN | apply below_drew1 | refine below_set ?_ GE141.out | refine below_set ?_ GE148.out) | exact HB.out)⟩
           ·rw [if_neg c39] at H
            exact absurd H (by simp)
          ·rw [if_neg c38] at H
           exact absurd H (by simp)
         ·rw [if_neg c37] at H
          have c37b0 : decide (x62_3 < (l0_4.length : Int)) = false := decide_eq_false c37
          clear c37
          obtain rfl := Option.some.inj H
          go_wp2
          go_ret
          exact ⟨by first | rfl | (simp [errW_none, errW_some] <;> rfl) | (simp [*, errW_none, errW_some] <;> rfl), by repeat (first | (with_reducible first | exact HB.out | apply below_alloc | apply pw_below_drewN | apply below_drew1 | refine below_set ?_ GE141.out) | exact HB.out)⟩

end Go.Proofs.Ytbpmkcgpgdbbkaa.P
