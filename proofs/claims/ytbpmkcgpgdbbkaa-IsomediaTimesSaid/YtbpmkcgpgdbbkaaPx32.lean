-- Written by this session's own program (wip/tools/myprint.py), which runs the kit's print with turns of its own: not a text of the kit's print.sh.
import Derived.Test.YtbpmkcgpgdbbkaaPx0
import Derived.Test.YtbpmkcgpgdbbkaaPx36
namespace Go.Proofs.Ytbpmkcgpgdbbkaa.P
open Go.RowKit Go.Proofs.YtbpmkcgpgdbbkaaW.PrintWords Go.Proofs.YtbpmkcgpgdbbkaaW.PrintLast Go.Proofs.YtbpmkcgpgdbbkaaW.PrintMore
attribute [local go_sem] max2_int min2_int max_two min_two max_three min_three max_four min_four   -- for this text's walks alone
set_option linter.unusedVariables false
set_option linter.unusedSimpArgs false

/-! ### cutroomref18_validTrack: function 31 -/
mutual
def cutroomref18_validTrack.j0 : Nat → Bool → ByteArray → Int → List Int → List (S74) → List (S61) → Option (Bool)
 | 0, _, _, _, _, _, _ => none
 | k + 1, x33, x169000, x169001, x169002, x169003, x169004 => if x33 = true then (some false) else (cutroomref18_validTrack.l0 k 0 x169000 x169001 x169002 x169003 x169004)
def cutroomref18_validTrack.l0 : Nat → Int → ByteArray → Int → List Int → List (S74) → List (S61) → Option (Bool)
 | 0, _, _, _, _, _, _ => none
 | k + 1, x3, x169000, x169001, x169002, x169003, x169004 => if x3 < (x169003.length : Int) then (if 0 ≤ x3 then (if (((rd_T74 x169003 x3).f0).length : Int) > 1048576 then (some false) else ((cutroomref18_within.f ((rd_T74 x169003 x3).f1) 0 16777216).bind fun t172 => (if t172 = true then ((cutroomref18_within.f ((rd_T74 x169003 x3).f2) 0 16777216).bind fun t173 => (if t173 = true then (cutroomref18_validTrack.l0 k (wrap64 (x3 + 1)) x169000 x169001 x169002 x169003 x169004) else (some false))) else (some false)))) else (none)) else (cutroomref18_validTrack.l1 k 0 x169000 x169001 x169002 x169003 x169004)
def cutroomref18_validTrack.l1 : Nat → Int → ByteArray → Int → List Int → List (S74) → List (S61) → Option (Bool)
 | 0, _, _, _, _, _, _ => none
 | k + 1, x5, x169000, x169001, x169002, x169003, x169004 => if x5 < (x169004.length : Int) then (if 0 ≤ x5 then ((cutroomref18_within.f ((rd_T61 x169004 x5).f0) 0 2147483647).bind fun t175 => (if t175 = true then ((cutroomref18_within.f ((rd_T61 x169004 x5).f1) (-1) 2147483647).bind fun t177 => (if t177 = true then (cutroomref18_validTrack.l1 k (wrap64 (x5 + 1)) x169000 x169001 x169002 x169003 x169004) else (some false))) else (some false))) else (none)) else (some true)
end
def cutroomref18_validTrack.f (k : Nat) (a0_0 : ByteArray) (a0_1 : Int) (l0_2 : List Int) (l0_3 : List (S74)) (l0_4 : List (S61)) : Option (Bool) := if (a0_0.size : Int) = 4 then ((cutroomref18_within.f a0_1 1 16777216).bind fun t169 => (if t169 = true then (if (l0_2.length : Int) > 4096 then (cutroomref18_validTrack.j0 k true a0_0 a0_1 l0_2 l0_3 l0_4) else (if (l0_3.length : Int) > 4096 then (cutroomref18_validTrack.j0 k true a0_0 a0_1 l0_2 l0_3 l0_4) else (cutroomref18_validTrack.j0 k (decide ((l0_4.length : Int) > 64)) a0_0 a0_1 l0_2 l0_3 l0_4))) else (cutroomref18_validTrack.j0 k true a0_0 a0_1 l0_2 l0_3 l0_4))) else (cutroomref18_validTrack.j0 k true a0_0 a0_1 l0_2 l0_3 l0_4)
theorem cutroomref18_validTrack.mono_l : ∀ k, (∀ y0 y1 y2 y3 y4 y5, LeO (cutroomref18_validTrack.j0 k y0 y1 y2 y3 y4 y5) (cutroomref18_validTrack.j0 (k + 1) y0 y1 y2 y3 y4 y5)) ∧ (∀ y0 y1 y2 y3 y4 y5, LeO (cutroomref18_validTrack.l0 k y0 y1 y2 y3 y4 y5) (cutroomref18_validTrack.l0 (k + 1) y0 y1 y2 y3 y4 y5)) ∧ (∀ y0 y1 y2 y3 y4 y5, LeO (cutroomref18_validTrack.l1 k y0 y1 y2 y3 y4 y5) (cutroomref18_validTrack.l1 (k + 1) y0 y1 y2 y3 y4 y5))
 | 0 => ⟨fun _ _ _ _ _ _ r h => by simp [cutroomref18_validTrack.j0] at h, fun _ _ _ _ _ _ r h => by simp [cutroomref18_validTrack.l0] at h, fun _ _ _ _ _ _ r h => by simp [cutroomref18_validTrack.l1] at h⟩
 | k + 1 => by
  obtain ⟨ih0, ih1, ih2⟩ := cutroomref18_validTrack.mono_l k
  refine ⟨?_, ?_, ?_⟩
  ·intro y0 y1 y2 y3 y4 y5
   unfold cutroomref18_validTrack.j0
   repeat' first
   | (with_reducible exact ih0 _ _ _ _ _ _)
   | (with_reducible exact ih1 _ _ _ _ _ _)
   | (with_reducible exact ih2 _ _ _ _ _ _)
   | (with_reducible exact LeO.refl _)
   | (with_reducible exact LeO.none _)
   | (with_reducible refine LeO.ite ?_ ?_)
   | (with_reducible refine LeO.bind ?_ (fun _ => ?_))
   | exact ih0 _ _ _ _ _ _
   | exact ih1 _ _ _ _ _ _
   | exact ih2 _ _ _ _ _ _
   | exact LeO.none _
   | refine LeO.ite ?_ ?_
   | refine LeO.bind ?_ (fun _ => ?_)
  ·intro y0 y1 y2 y3 y4 y5
   unfold cutroomref18_validTrack.l0
   repeat' first
   | (with_reducible exact ih0 _ _ _ _ _ _)
   | (with_reducible exact ih1 _ _ _ _ _ _)
   | (with_reducible exact ih2 _ _ _ _ _ _)
   | (with_reducible exact LeO.refl _)
   | (with_reducible exact LeO.none _)
   | (with_reducible refine LeO.ite ?_ ?_)
   | (with_reducible refine LeO.bind ?_ (fun _ => ?_))
   | exact ih0 _ _ _ _ _ _
   | exact ih1 _ _ _ _ _ _
   | exact ih2 _ _ _ _ _ _
   | exact LeO.none _
   | refine LeO.ite ?_ ?_
   | refine LeO.bind ?_ (fun _ => ?_)
  ·intro y0 y1 y2 y3 y4 y5
   unfold cutroomref18_validTrack.l1
   repeat' first
   | (with_reducible exact ih0 _ _ _ _ _ _)
   | (with_reducible exact ih1 _ _ _ _ _ _)
   | (with_reducible exact ih2 _ _ _ _ _ _)
   | (with_reducible exact LeO.refl _)
   | (with_reducible exact LeO.none _)
   | (with_reducible refine LeO.ite ?_ ?_)
   | (with_reducible refine LeO.bind ?_ (fun _ => ?_))
   | exact ih0 _ _ _ _ _ _
   | exact ih1 _ _ _ _ _ _
   | exact ih2 _ _ _ _ _ _
   | exact LeO.none _
   | refine LeO.ite ?_ ?_
   | refine LeO.bind ?_ (fun _ => ?_)
theorem cutroomref18_validTrack.mono : ∀ a0 a1 a2 a3 a4 k, LeO (cutroomref18_validTrack.f k a0 a1 a2 a3 a4) (cutroomref18_validTrack.f (k + 1) a0 a1 a2 a3 a4) := by
 intro a0 a1 a2 a3 a4 k
 obtain ⟨ih0, ih1, ih2⟩ := cutroomref18_validTrack.mono_l k
 unfold cutroomref18_validTrack.f
 repeat' first
   | (with_reducible exact ih0 _ _ _ _ _ _)
   | (with_reducible exact ih1 _ _ _ _ _ _)
   | (with_reducible exact ih2 _ _ _ _ _ _)
   | (with_reducible exact LeO.refl _)
   | (with_reducible exact LeO.none _)
   | (with_reducible refine LeO.ite ?_ ?_)
   | (with_reducible refine LeO.bind ?_ (fun _ => ?_))
   | exact ih0 _ _ _ _ _ _
   | exact ih1 _ _ _ _ _ _
   | exact ih2 _ _ _ _ _ _
   | exact LeO.none _
   | refine LeO.ite ?_ ?_
   | refine LeO.bind ?_ (fun _ => ?_)
set_option maxHeartbeats 8000000 in
set_option maxRecDepth 100000 in
theorem cutroomref18_validTrack.calls (k : Nat) (a0_0 : ByteArray) (a0_1 : Int) (A0_2 : Option Addr) (c0_2 : Nat) (l0_2 : List Int) (A0_3 : Option Addr) (c0_3 : Nat) (l0_3 : List (S74)) (A0_4 : Option Addr) (c0_4 : Nat) (l0_4 : List (S61)) (r : Bool) (w : World) (hr0_2 : Kd.C (Kd.int .u8) w A0_2 l0_2.length l0_2) (hc0_2 : l0_2.length ≤ c0_2) (hr0_3 : Kd.C k74 w A0_3 l0_3.length l0_3) (hc0_3 : l0_3.length ≤ c0_3) (hr0_4 : Kd.C k61 w A0_4 l0_4.length l0_4) (hc0_4 : l0_4.length ≤ c0_4) (h : cutroomref18_validTrack.f k a0_0 a0_1 l0_2 l0_3 l0_4 = some r) :
  Calls Try.prog 31 #[.agg #[.string a0_0, .int .i64 a0_1, .slice A0_2 l0_2.length c0_2, .slice A0_3 l0_3.length c0_3, .slice A0_4 l0_4.length c0_4]] w fun e w' => e = .returned (.bool r) ∧ Below w.heap.size w w' := by
 have hu48 := Try.underlying48
 have hu74 := Try.underlying74
 have HR0_2 := Aside0.mk hr0_2
 have HC0_2 := Aside0.mk hc0_2
 clear hr0_2 hc0_2
 have HR0_3 := Aside0.mk hr0_3
 have HC0_3 := Aside0.mk hc0_3
 clear hr0_3 hc0_3
 have HR0_4 := Aside0.mk hr0_4
 have HC0_4 := Aside0.mk hc0_4
 clear hr0_4 hc0_4
 have HB := Aside0.mk (Below.refl w.heap.size w)
 have H : (if (a0_0.size : Int) = 4 then ((cutroomref18_within.f a0_1 1 16777216).bind fun t169 => (if t169 = true then (if (l0_2.length : Int) > 4096 then (cutroomref18_validTrack.j0 k true a0_0 a0_1 l0_2 l0_3 l0_4) else (if (l0_3.length : Int) > 4096 then (cutroomref18_validTrack.j0 k true a0_0 a0_1 l0_2 l0_3 l0_4) else (cutroomref18_validTrack.j0 k (decide ((l0_4.length : Int) > 64)) a0_0 a0_1 l0_2 l0_3 l0_4))) else (cutroomref18_validTrack.j0 k true a0_0 a0_1 l0_2 l0_3 l0_4))) else (cutroomref18_validTrack.j0 k true a0_0 a0_1 l0_2 l0_3 l0_4)) = some r := h
 clear h
 have HC2 := Aside0.mk H
 clear H
 go_enter Try.func31, Try.ntmps31
 go_upto_region 1 with (first | ((with_reducible refine gate_dst (N := 1) rfl ?_); (try (refine gate_guard (by rfl) ?_; dsimp only)); refine box_event ?hg (N := 1) ?hd (cs := #[.string a0_0, .int .i64 a0_1, .slice A0_2 l0_2.length c0_2, .slice A0_3 l0_3.length c0_3, .slice A0_4 l0_4.length c0_4]) (t := 48) ?hr ?_; (case hd => rfl); (case hg => rfl); (case hr => first | (go_simp; done) | (go_simp; rfl)); intro gb168 hg w3 hbox hb; have n0_ := Aside0.mk (below_step (by repeat (first | (with_reducible first | exact HB.out | apply below_alloc | apply pw_below_drewN | apply below_drew1) | exact HB.out)) hb); have n1_ := Aside0.mk (hbox); have n2_ := Aside0.mk ((by rw [hg]; exact (below_size (by repeat (first | (with_reducible first | exact HB.out | apply below_alloc | apply pw_below_drewN | apply below_drew1) | exact HB.out))) : w.heap.size ≤ gb168)); have n3_ := Aside0.mk ((by rw [hg]; exact (below_size (by repeat (first | (with_reducible first | exact HB.out | apply below_alloc | apply pw_below_drewN | apply below_drew1) | exact HB.out))) : w.heap.size ≤ gb168)); clear HB; have HB := n0_; have BK168 := n1_; have GW168 := n2_; have GE168 := n3_; clear n0_ n1_ n2_ n3_; clear hb hbox hg))
 (try simp only [Act.put, List.setIfInBounds_toArray, List.set_cons_zero, List.set_cons_succ])
 go_cut [33] (fun v33 wc => ∃ (kq : Nat) (x33_1 : Bool), v33 = .bool x33_1 ∧ Aside0 (cutroomref18_validTrack.j0 kq x33_1 a0_0 a0_1 l0_2 l0_3 l0_4 = some r) ∧ Aside0 (kq ≤ k) ∧ Aside0 (wc.heap[gb168]? = some (.cells #[.string a0_0, .int .i64 a0_1, (.slice A0_2 l0_2.length c0_2), (.slice A0_3 l0_3.length c0_3), (.slice A0_4 l0_4.length c0_4)] 48 (0, 0))) ∧ Aside0 (Below w.heap.size w wc))
 case first =>
  have H := HC2.out
  clear HC2
  by_cases c4 : (a0_0.size : Int) = 4
  ·rw [if_pos c4] at H
   have c4b0 : ((a0_0.size : Int) == 4) = true := beq_iff_eq.mpr c4
   have c4b1 : ((a0_0.size : Int) != 4) = false := bne_eq_false_iff_eq.mpr c4
   clear c4
   (first | rw [c4b0] | (simp only [i64_w, i32_w]; rw [c4b0]) | skip)
   replace H := Option.bind_eq_some_iff.mp H
   obtain ⟨t169, A50, H⟩ := H
   replace H : (if t169 = true then (if (l0_2.length : Int) > 4096 then (cutroomref18_validTrack.j0 k true a0_0 a0_1 l0_2 l0_3 l0_4) else (if (l0_3.length : Int) > 4096 then (cutroomref18_validTrack.j0 k true a0_0 a0_1 l0_2 l0_3 l0_4) else (cutroomref18_validTrack.j0 k (decide ((l0_4.length : Int) > 64)) a0_0 a0_1 l0_2 l0_3 l0_4))) else (cutroomref18_validTrack.j0 k true a0_0 a0_1 l0_2 l0_3 l0_4)) = some r := H
   have A5 := Aside0.mk A50
   clear A50
   by_cases c6 : t169 = true
   ·subst c6
    have H1 : (if (l0_2.length : Int) > 4096 then (cutroomref18_validTrack.j0 k true a0_0 a0_1 l0_2 l0_3 l0_4) else (if (l0_3.length : Int) > 4096 then (cutroomref18_validTrack.j0 k true a0_0 a0_1 l0_2 l0_3 l0_4) else (cutroomref18_validTrack.j0 k (decide ((l0_4.length : Int) > 64)) a0_0 a0_1 l0_2 l0_3 l0_4))) = some r := by rw [if_pos rfl] at H; exact H
    clear H
    have H := H1
    clear H1
    by_cases c7 : (l0_2.length : Int) > 4096
    ·rw [if_pos c7] at H
     have c7b0 : decide (4096 < (l0_2.length : Int)) = true := decide_eq_true c7
     have c7b1 : decide (4096 < l0_2.length) = true := decide_eq_true (by omega)
     clear c7
     have H' := Aside0.mk H
     clear H
     have hcz8_0 : w3.cell? ⟨gb168, 0, none⟩ = some (.string a0_0) := (blk_cell BK168.out 0).trans rfl
     have hcz8_1 : w3.cell? ⟨gb168, 1, none⟩ = some (.int .i64 a0_1) := (blk_cell BK168.out 1).trans rfl
     have hcz8_2 : w3.cell? ⟨gb168, 2, none⟩ = some (.slice A0_2 l0_2.length c0_2) := (blk_cell BK168.out 2).trans rfl
     have hcz8_3 : w3.cell? ⟨gb168, 3, none⟩ = some (.slice A0_3 l0_3.length c0_3) := (blk_cell BK168.out 3).trans rfl
     have hcz8_4 : w3.cell? ⟨gb168, 4, none⟩ = some (.slice A0_4 l0_4.length c0_4) := (blk_cell BK168.out 4).trans rfl
     have hfz8_0 := blk_frozen BK168.out 0
     have hfz8_1 := blk_frozen BK168.out 1
     have hfz8_2 := blk_frozen BK168.out 2
     have hfz8_3 := blk_frozen BK168.out 3
     have hfz8_4 := blk_frozen BK168.out 4
     go_wp2_with (first | (go_at_call 35; (with_reducible refine (cutroomref18_within.calls a0_1 1 16777216 true _ A5.out).mono ?_); rintro e w' ⟨rfl, ⟨nd, rfl⟩⟩))
     go_meet
     case rel => exact ⟨_, (true), (by first | rfl | (simp; done) | (simp [*]; done)), H', ⟨by first | omega | exact Nat.le_refl _⟩, ⟨by (with_reducible repeat (first | refine blk_drewN ?_ _ | refine blk_drew ?_ | refine blk_alloc ?_ _)); exact BK168.out⟩, ⟨by repeat (first | (with_reducible first | exact HB.out | apply below_alloc | apply pw_below_drewN | apply below_drew1 | refine below_set ?_ GE168.out) | exact HB.out)⟩⟩
    ·rw [if_neg c7] at H
     have c7b0 : decide (4096 < (l0_2.length : Int)) = false := decide_eq_false c7
     have c7b1 : decide (4096 < l0_2.length) = false := decide_eq_false (by omega)
     clear c7
     by_cases c9 : (l0_3.length : Int) > 4096
     ·rw [if_pos c9] at H
      have c9b0 : decide (4096 < (l0_3.length : Int)) = true := decide_eq_true c9
      have c9b1 : decide (4096 < l0_3.length) = true := decide_eq_true (by omega)
      clear c9
      have H' := Aside0.mk H
      clear H
      have hcz10_0 : w3.cell? ⟨gb168, 0, none⟩ = some (.string a0_0) := (blk_cell BK168.out 0).trans rfl
      have hcz10_1 : w3.cell? ⟨gb168, 1, none⟩ = some (.int .i64 a0_1) := (blk_cell BK168.out 1).trans rfl
      have hcz10_2 : w3.cell? ⟨gb168, 2, none⟩ = some (.slice A0_2 l0_2.length c0_2) := (blk_cell BK168.out 2).trans rfl
      have hcz10_3 : w3.cell? ⟨gb168, 3, none⟩ = some (.slice A0_3 l0_3.length c0_3) := (blk_cell BK168.out 3).trans rfl
      have hcz10_4 : w3.cell? ⟨gb168, 4, none⟩ = some (.slice A0_4 l0_4.length c0_4) := (blk_cell BK168.out 4).trans rfl
      have hfz10_0 := blk_frozen BK168.out 0
      have hfz10_1 := blk_frozen BK168.out 1
      have hfz10_2 := blk_frozen BK168.out 2
      have hfz10_3 := blk_frozen BK168.out 3
      have hfz10_4 := blk_frozen BK168.out 4
      go_wp2_with (first | (go_at_call 35; (with_reducible refine (cutroomref18_within.calls a0_1 1 16777216 true _ A5.out).mono ?_); rintro e w' ⟨rfl, ⟨nd, rfl⟩⟩))
      go_meet
      case rel => exact ⟨_, (true), (by first | rfl | (simp; done) | (simp [*]; done)), H', ⟨by first | omega | exact Nat.le_refl _⟩, ⟨by (with_reducible repeat (first | refine blk_drewN ?_ _ | refine blk_drew ?_ | refine blk_alloc ?_ _)); exact BK168.out⟩, ⟨by repeat (first | (with_reducible first | exact HB.out | apply below_alloc | apply pw_below_drewN | apply below_drew1 | refine below_set ?_ GE168.out) | exact HB.out)⟩⟩
     ·rw [if_neg c9] at H
      have c9b0 : decide (4096 < (l0_3.length : Int)) = false := decide_eq_false c9
      have c9b1 : decide (4096 < l0_3.length) = false := decide_eq_false (by omega)
      clear c9
      have H' := Aside0.mk H
      clear H
      have hcz11_0 : w3.cell? ⟨gb168, 0, none⟩ = some (.string a0_0) := (blk_cell BK168.out 0).trans rfl
      have hcz11_1 : w3.cell? ⟨gb168, 1, none⟩ = some (.int .i64 a0_1) := (blk_cell BK168.out 1).trans rfl
      have hcz11_2 : w3.cell? ⟨gb168, 2, none⟩ = some (.slice A0_2 l0_2.length c0_2) := (blk_cell BK168.out 2).trans rfl
      have hcz11_3 : w3.cell? ⟨gb168, 3, none⟩ = some (.slice A0_3 l0_3.length c0_3) := (blk_cell BK168.out 3).trans rfl
      have hcz11_4 : w3.cell? ⟨gb168, 4, none⟩ = some (.slice A0_4 l0_4.length c0_4) := (blk_cell BK168.out 4).trans rfl
      have hfz11_0 := blk_frozen BK168.out 0
      have hfz11_1 := blk_frozen BK168.out 1
      have hfz11_2 := blk_frozen BK168.out 2
      have hfz11_3 := blk_frozen BK168.out 3
      have hfz11_4 := blk_frozen BK168.out 4
      go_wp2_with (first | (go_at_call 35; (with_reducible refine (cutroomref18_within.calls a0_1 1 16777216 true _ A5.out).mono ?_); rintro e w' ⟨rfl, ⟨nd, rfl⟩⟩))
      go_meet
      case rel => exact ⟨_, (decide ((l0_4.length : Int) > 64)), (by first | rfl | (simp; done) | (simp [*]; done)), H', ⟨by first | omega | exact Nat.le_refl _⟩, ⟨by (with_reducible repeat (first | refine blk_drewN ?_ _ | refine blk_drew ?_ | refine blk_alloc ?_ _)); exact BK168.out⟩, ⟨by repeat (first | (with_reducible first | exact HB.out | apply below_alloc | apply pw_below_drewN | apply below_drew1 | refine below_set ?_ GE168.out) | exact HB.out)⟩⟩
   ·replace c6 := Bool.eq_false_iff.mpr c6
    subst c6
    have H1 : (cutroomref18_validTrack.j0 k true a0_0 a0_1 l0_2 l0_3 l0_4) = some r := by rw [if_neg (show ¬ (false = true) by decide)] at H; exact H
    clear H
    have H := H1
    clear H1
    have H' := Aside0.mk H
    clear H
    have hcz12_0 : w3.cell? ⟨gb168, 0, none⟩ = some (.string a0_0) := (blk_cell BK168.out 0).trans rfl
    have hcz12_1 : w3.cell? ⟨gb168, 1, none⟩ = some (.int .i64 a0_1) := (blk_cell BK168.out 1).trans rfl
    have hcz12_2 : w3.cell? ⟨gb168, 2, none⟩ = some (.slice A0_2 l0_2.length c0_2) := (blk_cell BK168.out 2).trans rfl
    have hcz12_3 : w3.cell? ⟨gb168, 3, none⟩ = some (.slice A0_3 l0_3.length c0_3) := (blk_cell BK168.out 3).trans rfl
    have hcz12_4 : w3.cell? ⟨gb168, 4, none⟩ = some (.slice A0_4 l0_4.length c0_4) := (blk_cell BK168.out 4).trans rfl
    have hfz12_0 := blk_frozen BK168.out 0
    have hfz12_1 := blk_frozen BK168.out 1
    have hfz12_2 := blk_frozen BK168.out 2
    have hfz12_3 := blk_frozen BK168.out 3
    have hfz12_4 := blk_frozen BK168.out 4
    go_wp2_with (first | (go_at_call 35; (with_reducible refine (cutroomref18_within.calls a0_1 1 16777216 false _ A5.out).mono ?_); rintro e w' ⟨rfl, ⟨nd, rfl⟩⟩))
    go_meet
    case rel => exact ⟨_, (true), (by first | rfl | (simp; done) | (simp [*]; done)), H', ⟨by first | omega | exact Nat.le_refl _⟩, ⟨by (with_reducible repeat (first | refine blk_drewN ?_ _ | refine blk_drew ?_ | refine blk_alloc ?_ _)); exact BK168.out⟩, ⟨by repeat (first | (with_reducible first | exact HB.out | apply below_alloc | apply pw_below_drewN | apply below_drew1 | refine below_set ?_ GE168.out) | exact HB.out)⟩⟩
  ·rw [if_neg c4] at H
   have c4b0 : ((a0_0.size : Int) == 4) = false := beq_eq_false_iff_ne.mpr c4
   have c4b1 : ((a0_0.size : Int) != 4) = true := bne_iff_ne.mpr c4
   (first | rw [c4b0] | (simp only [i64_w, i32_w]; rw [c4b0]) | skip)
   have H' := Aside0.mk H
   clear H
   have hcz13_0 : w3.cell? ⟨gb168, 0, none⟩ = some (.string a0_0) := (blk_cell BK168.out 0).trans rfl
   have hcz13_1 : w3.cell? ⟨gb168, 1, none⟩ = some (.int .i64 a0_1) := (blk_cell BK168.out 1).trans rfl
   have hcz13_2 : w3.cell? ⟨gb168, 2, none⟩ = some (.slice A0_2 l0_2.length c0_2) := (blk_cell BK168.out 2).trans rfl
   have hcz13_3 : w3.cell? ⟨gb168, 3, none⟩ = some (.slice A0_3 l0_3.length c0_3) := (blk_cell BK168.out 3).trans rfl
   have hcz13_4 : w3.cell? ⟨gb168, 4, none⟩ = some (.slice A0_4 l0_4.length c0_4) := (blk_cell BK168.out 4).trans rfl
   have hfz13_0 := blk_frozen BK168.out 0
   have hfz13_1 := blk_frozen BK168.out 1
   have hfz13_2 := blk_frozen BK168.out 2
   have hfz13_3 := blk_frozen BK168.out 3
   have hfz13_4 := blk_frozen BK168.out 4
   go_wp2
   go_meet
   case rel => exact ⟨_, (true), (by first | rfl | (simp; done) | (simp [*]; done)), H', ⟨by first | omega | exact Nat.le_refl _⟩, ⟨by (with_reducible repeat (first | refine blk_drewN ?_ _ | refine blk_drew ?_ | refine blk_alloc ?_ _)); exact BK168.out⟩, ⟨by repeat (first | (with_reducible first | exact HB.out | apply below_alloc | apply pw_below_drewN | apply below_drew1 | refine below_set ?_ GE168.out) | exact HB.out)⟩⟩
 case rest =>
  clear HC2
  (try clear p2);(try clear c3);(try clear c4);(try clear c4b0);(try clear c4b1);(try clear c6);(try clear c7);(try clear c7b0);(try clear c7b1);(try clear c9);(try clear c9b0);(try clear c9b1);(try clear hcz10_0);(try clear hcz10_1);(try clear hcz10_2);(try clear hcz10_3);(try clear hcz10_4);(try clear hcz11_0);(try clear hcz11_1);(try clear hcz11_2);(try clear hcz11_3);(try clear hcz11_4);(try clear hcz12_0);(try clear hcz12_1);(try clear hcz12_2);(try clear hcz12_3);(try clear hcz12_4);(try clear hcz13_0);(try clear hcz13_1);(try clear hcz13_2);(try clear hcz13_3);(try clear hcz13_4);(try clear hcz8_0);(try clear hcz8_1);(try clear hcz8_2);(try clear hcz8_3);(try clear hcz8_4);(try clear hfz10_0);(try clear hfz10_1);(try clear hfz10_2);(try clear hfz10_3);(try clear hfz10_4);(try clear hfz11_0);(try clear hfz11_1);(try clear hfz11_2);(try clear hfz11_3);(try clear hfz11_4);(try clear hfz12_0)
  (try clear hfz12_1);(try clear hfz12_2);(try clear hfz12_3);(try clear hfz12_4);(try clear hfz13_0);(try clear hfz13_1);(try clear hfz13_2);(try clear hfz13_3);(try clear hfz13_4);(try clear hfz8_0);(try clear hfz8_1);(try clear hfz8_2);(try clear hfz8_3);(try clear hfz8_4)
  obtain ⟨kq, x33_1, rfl, HA, HJ1, BK168, HB⟩ := hcut
  cases kq with
  | zero => exact absurd HA.out (by simp [cutroomref18_validTrack.j0])
  | succ kj1 =>
   have H := HA.out
   clear HA
   simp only [cutroomref18_validTrack.j0] at H
   by_cases c14 : x33_1 = true
   ·subst c14
    have H1 : (some false) = some r := by rw [if_pos rfl] at H; exact H
    clear H
    have H := H1
    clear H1
    obtain rfl := Option.some.inj H
    go_wp2
    go_ret
    exact ⟨by first | rfl | (simp [errW_none, errW_some] <;> rfl) | (simp [*, errW_none, errW_some] <;> rfl), by repeat (first | (with_reducible first | exact HB.out | apply below_alloc | apply pw_below_drewN | apply below_drew1 | refine below_set ?_ GE168.out) | exact HB.out)⟩
   ·replace c14 := Bool.eq_false_iff.mpr c14
    subst c14
    have H1 : (cutroomref18_validTrack.l0 kj1 0 a0_0 a0_1 l0_2 l0_3 l0_4) = some r := by rw [if_neg (show ¬ (false = true) by decide)] at H; exact H
    clear H
    have H := H1
    clear H1
    have H' := Aside0.mk H
    clear H
    go_wp2
    go_loopg [3] kj1 (fun kq v3 w' => ∃ (x3_2 : Int), v3 = .int .i64 x3_2 ∧ Aside0 (cutroomref18_validTrack.l0 kq x3_2 a0_0 a0_1 l0_2 l0_3 l0_4 = some r) ∧ Aside0 (kq ≤ kj1) ∧ Aside0 (w'.heap[gb168]? = some (.cells #[.string a0_0, .int .i64 a0_1, (.slice A0_2 l0_2.length c0_2), (.slice A0_3 l0_3.length c0_3), (.slice A0_4 l0_4.length c0_4)] 48 (0, 0))) ∧ Aside0 (Below w.heap.size w w'))
    case atStart => exact ⟨(0), (by first | rfl | (simp; done) | (simp [*]; done)), H', ⟨Nat.le_refl _⟩, ⟨by (with_reducible repeat (first | refine blk_drewN ?_ _ | refine blk_drew ?_ | refine blk_alloc ?_ _)); exact BK168.out⟩, ⟨by repeat (first | (with_reducible first | exact HB.out | apply below_alloc | apply pw_below_drewN | apply below_drew1 | refine below_set ?_ GE168.out) | exact HB.out)⟩⟩
    case round =>
     clear H'
     (try clear c1);(try clear p2);(try clear c3);(try clear c4);(try clear c4b0);(try clear c4b1);(try clear c6);(try clear c7);(try clear c7b0);(try clear c7b1);(try clear c9);(try clear c9b0);(try clear c9b1);(try clear c14);(try clear hcz10_0);(try clear hcz10_1);(try clear hcz10_2);(try clear hcz10_3);(try clear hcz10_4);(try clear hcz11_0);(try clear hcz11_1);(try clear hcz11_2);(try clear hcz11_3);(try clear hcz11_4);(try clear hcz12_0);(try clear hcz12_1);(try clear hcz12_2);(try clear hcz12_3);(try clear hcz12_4);(try clear hcz13_0);(try clear hcz13_1);(try clear hcz13_2);(try clear hcz13_3);(try clear hcz13_4);(try clear hcz8_0);(try clear hcz8_1);(try clear hcz8_2);(try clear hcz8_3);(try clear hcz8_4);(try clear hfz10_0);(try clear hfz10_1);(try clear hfz10_2);(try clear hfz10_3);(try clear hfz10_4);(try clear hfz11_0);(try clear hfz11_1);(try clear hfz11_2);(try clear hfz11_3)
     (try clear hfz11_4);(try clear hfz12_0);(try clear hfz12_1);(try clear hfz12_2);(try clear hfz12_3);(try clear hfz12_4);(try clear hfz13_0);(try clear hfz13_1);(try clear hfz13_2);(try clear hfz13_3);(try clear hfz13_4);(try clear hfz8_0);(try clear hfz8_1);(try clear hfz8_2);(try clear hfz8_3);(try clear hfz8_4);(try clear p2)
     obtain ⟨x3_2, rfl, HA, HK2, BK168, HB⟩ := hrel
     cases gk with
     | zero => exact absurd HA.out (by simp [cutroomref18_validTrack.l0])
     | succ k2 =>
      have H := HA.out
      clear HA
      simp only [cutroomref18_validTrack.l0] at H
      by_cases c15 : x3_2 < (l0_3.length : Int)
      ·rw [if_pos c15] at H
       have c15b0 : decide (x3_2 < (l0_3.length : Int)) = true := decide_eq_true c15
       clear c15
       by_cases c16 : 0 ≤ x3_2
       ·rw [if_pos c16] at H
        have c16b0 : decide (0 ≤ x3_2) = true := decide_eq_true c16
        clear c16
        by_cases c17 : (((rd_T74 l0_3 x3_2).f0).length : Int) > 1048576
        ·rw [if_pos c17] at H
         have c17b0 : decide (1048576 < (((rd_T74 l0_3 x3_2).f0).length : Int)) = true := decide_eq_true c17
         have c17b1 : decide (1048576 < ((rd_T74 l0_3 x3_2).f0).length) = true := decide_eq_true (by omega)
         clear c17
         obtain rfl := Option.some.inj H
         have hcz18_0 : wr.cell? ⟨gb168, 0, none⟩ = some (.string a0_0) := (blk_cell BK168.out 0).trans rfl
         have hcz18_1 : wr.cell? ⟨gb168, 1, none⟩ = some (.int .i64 a0_1) := (blk_cell BK168.out 1).trans rfl
         have hcz18_2 : wr.cell? ⟨gb168, 2, none⟩ = some (.slice A0_2 l0_2.length c0_2) := (blk_cell BK168.out 2).trans rfl
         have hcz18_3 : wr.cell? ⟨gb168, 3, none⟩ = some (.slice A0_3 l0_3.length c0_3) := (blk_cell BK168.out 3).trans rfl
         have hcz18_4 : wr.cell? ⟨gb168, 4, none⟩ = some (.slice A0_4 l0_4.length c0_4) := (blk_cell BK168.out 4).trans rfl
         have hfz18_0 := blk_frozen BK168.out 0
         have hfz18_1 := blk_frozen BK168.out 1
         have hfz18_2 := blk_frozen BK168.out 2
         have hfz18_3 := blk_frozen BK168.out 3
         have hfz18_4 := blk_frozen BK168.out 4
         have p170 : 0 ≤ (x3_2 : Int) := of_decide_eq_true (by first | (with_reducible assumption) | assumption)
         have q170 : x3_2 < (l0_3.length : Int) := of_decide_eq_true (by first | (with_reducible assumption) | assumption)
         obtain ⟨ad170, A170_0, c170_0, e170, hx170_0, hx170_1, hx170_2, hx170_3, hl170_0, hi170_0⟩ := at_T74 HR0_3.out x3_2 p170 q170
         cases e170
         replace hx170_0 := (HB.out.cell (World.block_lt_of_cell? w _ hx170_0)).trans hx170_0
         replace hx170_1 := (HB.out.cell (World.block_lt_of_cell? w _ hx170_1)).trans hx170_1
         replace hx170_2 := (HB.out.cell (World.block_lt_of_cell? w _ hx170_2)).trans hx170_2
         replace hx170_3 := (HB.out.cell (World.block_lt_of_cell? w _ hx170_3)).trans hx170_3
         have HR170_0 := Aside0.mk hi170_0
         have HC170_0 := Aside0.mk hl170_0
         clear hi170_0 hl170_0
         replace p170 := eq_true p170
         replace q170 := eq_true q170
         go_wp2_with (first | ((with_reducible refine gate_dst (N := 4) rfl ?_); (try (refine gate_guard (by rfl) ?_; dsimp only)); refine box_event ?hg (N := 4) ?hd (cs := #[.slice none 0 0, .int .i64 0, .int .i64 0, .bool false]) (t := 74) ?hr ?_; (case hd => rfl); (case hg => rfl); (case hr => first | (go_simp; done) | (go_simp; rfl)); intro gb171 hg w19 hbox hb; have n0_ := Aside0.mk (blk_below (g := gb168) (o := .cells #[.string a0_0, .int .i64 a0_1, .slice A0_2 l0_2.length c0_2, .slice (some ad170) l0_3.length c0_3, .slice A0_4 l0_4.length c0_4] 48 (0, 0)) (by (with_reducible repeat (first | refine blk_drewN ?_ _ | refine blk_drew ?_ | refine blk_alloc ?_ _)); exact BK168.out) hb); have n1_ := Aside0.mk (below_step (by repeat (first | (with_reducible first | exact HB.out | apply below_alloc | apply pw_below_drewN | apply below_drew1 | refine below_set ?_ GE168.out) | exact HB.out)) hb); have n2_ := Aside0.mk (hbox); have n3_ := Aside0.mk ((by rw [hg]; exact (below_size (by repeat (first | (with_reducible first | exact HB.out | apply below_alloc | apply pw_below_drewN | apply below_drew1 | refine below_set ?_ GE168.out) | exact HB.out))) : w.heap.size ≤ gb171)); have n4_ := Aside0.mk ((by rw [hg]; exact (below_size (by repeat (first | (with_reducible first | exact HB.out | apply below_alloc | apply pw_below_drewN | apply below_drew1 | refine below_set ?_ GE168.out) | exact HB.out))) : w.heap.size ≤ gb171)); have n5_ := Aside0.mk ((by rw [hg]; exact Nat.ne_of_lt (blk_lt (g := gb168) (o := .cells #[.string a0_0, .int .i64 a0_1, .slice A0_2 l0_2.length c0_2, .slice (some ad170) l0_3.length c0_3, .slice A0_4 l0_4.length c0_4] 48 (0, 0)) (by (with_reducible repeat (first | refine blk_drewN ?_ _ | refine blk_drew ?_ | refine blk_alloc ?_ _)); exact BK168.out)) : gb168 ≠ gb171)); have n6_ := Aside0.mk ((by rw [hg]; exact Nat.ne_of_gt (blk_lt (g := gb168) (o := .cells #[.string a0_0, .int .i64 a0_1, .slice A0_2 l0_2.length c0_2, .slice (some ad170) l0_3.length c0_3, .slice A0_4 l0_4.length c0_4] 48 (0, 0)) (by (with_reducible repeat (first | refine blk_drewN ?_ _ | refine blk_drew ?_ | refine blk_alloc ?_ _)); exact BK168.out)) : gb171 ≠ gb168)); clear BK168; clear HB; have BK168 := n0_; have HB := n1_; have BK171 := n2_; have GW171 := n3_; have GE171 := n4_; have NB168_171 := n5_; have NB171_168 := n6_; clear n0_ n1_ n2_ n3_ n4_ n5_ n6_; clear hb hbox hg; have hnb20 := NB171_168.out; have hnc20 := NB168_171.out; have hcz21_0 : w19.cell? ⟨gb171, 0, none⟩ = some (.slice none 0 0) := (blk_cell BK171.out 0).trans rfl; have hcz21_1 : w19.cell? ⟨gb171, 1, none⟩ = some (.int .i64 0) := (blk_cell BK171.out 1).trans rfl; have hcz21_2 : w19.cell? ⟨gb171, 2, none⟩ = some (.int .i64 0) := (blk_cell BK171.out 2).trans rfl; have hcz21_3 : w19.cell? ⟨gb171, 3, none⟩ = some (.bool false) := (blk_cell BK171.out 3).trans rfl; have hfz21_0 := blk_frozen BK171.out 0; have hfz21_1 := blk_frozen BK171.out 1; have hfz21_2 := blk_frozen BK171.out 2; have hfz21_3 := blk_frozen BK171.out 3))
         go_ret
         exact ⟨by first | rfl | (simp [errW_none, errW_some] <;> rfl) | (simp [*, errW_none, errW_some] <;> rfl), by repeat (first | (with_reducible first | exact HB.out | apply below_alloc | apply pw_below_drewN | apply below_drew1 | refine below_set ?_ GE168.out | refine below_set ?_ GE171.out) | exact HB.out)⟩
        ·rw [if_neg c17] at H
         have c17b0 : decide (1048576 < (((rd_T74 l0_3 x3_2).f0).length : Int)) = false := decide_eq_false c17
         have c17b1 : decide (1048576 < ((rd_T74 l0_3 x3_2).f0).length) = false := decide_eq_false (by omega)
         clear c17
         replace H := Option.bind_eq_some_iff.mp H
         obtain ⟨t172, A220, H⟩ := H
         replace H : (if t172 = true then ((cutroomref18_within.f ((rd_T74 l0_3 x3_2).f2) 0 16777216).bind fun t173 => (if t173 = true then (cutroomref18_validTrack.l0 k2 (wrap64 (x3_2 + 1)) a0_0 a0_1 l0_2 l0_3 l0_4) else (some false))) else (some false)) = some r := H
         have A22 := Aside0.mk A220
         clear A220
         by_cases c23 : t172 = true
         ·subst c23
          have H1 : ((cutroomref18_within.f ((rd_T74 l0_3 x3_2).f2) 0 16777216).bind fun t173 => (if t173 = true then (cutroomref18_validTrack.l0 k2 (wrap64 (x3_2 + 1)) a0_0 a0_1 l0_2 l0_3 l0_4) else (some false))) = some r := by rw [if_pos rfl] at H; exact H
          clear H
          have H := H1
          clear H1
          replace H := Option.bind_eq_some_iff.mp H
          obtain ⟨t173, A240, H⟩ := H
          replace H : (if t173 = true then (cutroomref18_validTrack.l0 k2 (wrap64 (x3_2 + 1)) a0_0 a0_1 l0_2 l0_3 l0_4) else (some false)) = some r := H
          have A24 := Aside0.mk A240
          clear A240
          by_cases c25 : t173 = true
          ·subst c25
           have H1 : (cutroomref18_validTrack.l0 k2 (wrap64 (x3_2 + 1)) a0_0 a0_1 l0_2 l0_3 l0_4) = some r := by rw [if_pos rfl] at H; exact H
           clear H
           have H := H1
           clear H1
           have H' := Aside0.mk H
           clear H
           have hcz26_0 : wr.cell? ⟨gb168, 0, none⟩ = some (.string a0_0) := (blk_cell BK168.out 0).trans rfl
           have hcz26_1 : wr.cell? ⟨gb168, 1, none⟩ = some (.int .i64 a0_1) := (blk_cell BK168.out 1).trans rfl
           have hcz26_2 : wr.cell? ⟨gb168, 2, none⟩ = some (.slice A0_2 l0_2.length c0_2) := (blk_cell BK168.out 2).trans rfl
           have hcz26_3 : wr.cell? ⟨gb168, 3, none⟩ = some (.slice A0_3 l0_3.length c0_3) := (blk_cell BK168.out 3).trans rfl
           have hcz26_4 : wr.cell? ⟨gb168, 4, none⟩ = some (.slice A0_4 l0_4.length c0_4) := (blk_cell BK168.out 4).trans rfl
           have hfz26_0 := blk_frozen BK168.out 0
           have hfz26_1 := blk_frozen BK168.out 1
           have hfz26_2 := blk_frozen BK168.out 2
           have hfz26_3 := blk_frozen BK168.out 3
           have hfz26_4 := blk_frozen BK168.out 4
           have p170 : 0 ≤ (x3_2 : Int) := of_decide_eq_true (by first | (with_reducible assumption) | assumption)
           have q170 : x3_2 < (l0_3.length : Int) := of_decide_eq_true (by first | (with_reducible assumption) | assumption)
           obtain ⟨ad170, A170_0, c170_0, e170, hx170_0, hx170_1, hx170_2, hx170_3, hl170_0, hi170_0⟩ := at_T74 HR0_3.out x3_2 p170 q170
           cases e170
           replace hx170_0 := (HB.out.cell (World.block_lt_of_cell? w _ hx170_0)).trans hx170_0
           replace hx170_1 := (HB.out.cell (World.block_lt_of_cell? w _ hx170_1)).trans hx170_1
           replace hx170_2 := (HB.out.cell (World.block_lt_of_cell? w _ hx170_2)).trans hx170_2
           replace hx170_3 := (HB.out.cell (World.block_lt_of_cell? w _ hx170_3)).trans hx170_3
           have HR170_0 := Aside0.mk hi170_0
           have HC170_0 := Aside0.mk hl170_0
           clear hi170_0 hl170_0
           replace p170 := eq_true p170
           replace q170 := eq_true q170
           go_wp2_with (first | ((with_reducible refine gate_dst (N := 4) rfl ?_); (try (refine gate_guard (by rfl) ?_; dsimp only)); refine box_event ?hg (N := 4) ?hd (cs := #[.slice none 0 0, .int .i64 0, .int .i64 0, .bool false]) (t := 74) ?hr ?_; (case hd => rfl); (case hg => rfl); (case hr => first | (go_simp; done) | (go_simp; rfl)); intro gb171 hg w27 hbox hb; have n0_ := Aside0.mk (blk_below (g := gb168) (o := .cells #[.string a0_0, .int .i64 a0_1, .slice A0_2 l0_2.length c0_2, .slice (some ad170) l0_3.length c0_3, .slice A0_4 l0_4.length c0_4] 48 (0, 0)) (by (with_reducible repeat (first | refine blk_drewN ?_ _ | refine blk_drew ?_ | refine blk_alloc ?_ _)); exact BK168.out) hb); have n1_ := Aside0.mk (below_step (by repeat (first | (with_reducible first | exact HB.out | apply below_alloc | apply pw_below_drewN | apply below_drew1 | refine below_set ?_ GE168.out) | exact HB.out)) hb); have n2_ := Aside0.mk (hbox); have n3_ := Aside0.mk ((by rw [hg]; exact (below_size (by repeat (first | (with_reducible first | exact HB.out | apply below_alloc | apply pw_below_drewN | apply below_drew1 | refine below_set ?_ GE168.out) | exact HB.out))) : w.heap.size ≤ gb171)); have n4_ := Aside0.mk ((by rw [hg]; exact (below_size (by repeat (first | (with_reducible first | exact HB.out | apply below_alloc | apply pw_below_drewN | apply below_drew1 | refine below_set ?_ GE168.out) | exact HB.out))) : w.heap.size ≤ gb171)); have n5_ := Aside0.mk ((by rw [hg]; exact Nat.ne_of_lt (blk_lt (g := gb168) (o := .cells #[.string a0_0, .int .i64 a0_1, .slice A0_2 l0_2.length c0_2, .slice (some ad170) l0_3.length c0_3, .slice A0_4 l0_4.length c0_4] 48 (0, 0)) (by (with_reducible repeat (first | refine blk_drewN ?_ _ | refine blk_drew ?_ | refine blk_alloc ?_ _)); exact BK168.out)) : gb168 ≠ gb171)); have n6_ := Aside0.mk ((by rw [hg]; exact Nat.ne_of_gt (blk_lt (g := gb168) (o := .cells #[.string a0_0, .int .i64 a0_1, .slice A0_2 l0_2.length c0_2, .slice (some ad170) l0_3.length c0_3, .slice A0_4 l0_4.length c0_4] 48 (0, 0)) (by (with_reducible repeat (first | refine blk_drewN ?_ _ | refine blk_drew ?_ | refine blk_alloc ?_ _)); exact BK168.out)) : gb171 ≠ gb168)); clear BK168; clear HB; have BK168 := n0_; have HB := n1_; have BK171 := n2_; have GW171 := n3_; have GE171 := n4_; have NB168_171 := n5_; have NB171_168 := n6_; clear n0_ n1_ n2_ n3_ n4_ n5_ n6_; clear hb hbox hg; have hnb28 := NB171_168.out; have hnc28 := NB168_171.out; have hcz29_0 : w27.cell? ⟨gb171, 0, none⟩ = some (.slice none 0 0) := (blk_cell BK171.out 0).trans rfl; have hcz29_1 : w27.cell? ⟨gb171, 1, none⟩ = some (.int .i64 0) := (blk_cell BK171.out 1).trans rfl; have hcz29_2 : w27.cell? ⟨gb171, 2, none⟩ = some (.int .i64 0) := (blk_cell BK171.out 2).trans rfl; have hcz29_3 : w27.cell? ⟨gb171, 3, none⟩ = some (.bool false) := (blk_cell BK171.out 3).trans rfl; have hfz29_0 := blk_frozen BK171.out 0; have hfz29_1 := blk_frozen BK171.out 1; have hfz29_2 := blk_frozen BK171.out 2; have hfz29_3 := blk_frozen BK171.out 3) | (go_at_call 35; (with_reducible refine (cutroomref18_within.calls ((rd_T74 l0_3 x3_2).f1) 0 16777216 true _ A22.out).mono ?_); rintro e w' ⟨rfl, ⟨nd, rfl⟩⟩) | (go_at_call 35; (with_reducible refine (cutroomref18_within.calls ((rd_T74 l0_3 x3_2).f2) 0 16777216 true _ A24.out).mono ?_); rintro e w' ⟨rfl, ⟨nd, rfl⟩⟩))
           go_roundg k2
           case measure => have := HJ1.out; have := HK2.out; omega
           case rel => exact ⟨(wrap64 (x3_2 + 1)), (by first | rfl | (simp; done) | (simp [*]; done)), H', ⟨by have := HJ1.out; have := HK2.out; omega⟩, ⟨by (with_reducible repeat (first | refine blk_drewN ?_ _ | refine blk_drew ?_ | refine blk_alloc ?_ _)); refine blk_far ?_ NB168_171.out _; (with_reducible repeat (first | refine blk_drewN ?_ _ | refine blk_drew ?_ | refine blk_alloc ?_ _)); refine blk_far ?_ NB168_171.out _; (with_reducible repeat (first | refine blk_drewN ?_ _ | refine blk_drew ?_ | refine blk_alloc ?_ _)); refine blk_far ?_ NB168_171.out _; (with_reducible repeat (first | refine blk_drewN ?_ _ | refine blk_drew ?_ | refine blk_alloc ?_ _)); refine blk_far ?_ NB168_171.out _; (with_reducible repeat (first | refine blk_drewN ?_ _ | refine blk_drew ?_ | refine blk_alloc ?_ _)); exact BK168.out⟩, ⟨by repeat (first | (with_reducible first | exact HB.out | apply below_alloc | apply pw_below_drewN | apply below_drew1 | refine below_set ?_ GE168.out | refine below_set ?_ GE171.out) | exact HB.out)⟩⟩
          ·replace c25 := Bool.eq_false_iff.mpr c25
           subst c25
           have H1 : (some false) = some r := by rw [if_neg (show ¬ (false = true) by decide)] at H; exact H
           clear H
           have H := H1
           clear H1
           obtain rfl := Option.some.inj H
           have hcz30_0 : wr.cell? ⟨gb168, 0, none⟩ = some (.string a0_0) := (blk_cell BK168.out 0).trans rfl
           have hcz30_1 : wr.cell? ⟨gb168, 1, none⟩ = some (.int .i64 a0_1) := (blk_cell BK168.out 1).trans rfl
           have hcz30_2 : wr.cell? ⟨gb168, 2, none⟩ = some (.slice A0_2 l0_2.length c0_2) := (blk_cell BK168.out 2).trans rfl
           have hcz30_3 : wr.cell? ⟨gb168, 3, none⟩ = some (.slice A0_3 l0_3.length c0_3) := (blk_cell BK168.out 3).trans rfl
           have hcz30_4 : wr.cell? ⟨gb168, 4, none⟩ = some (.slice A0_4 l0_4.length c0_4) := (blk_cell BK168.out 4).trans rfl
           have hfz30_0 := blk_frozen BK168.out 0
           have hfz30_1 := blk_frozen BK168.out 1
           have hfz30_2 := blk_frozen BK168.out 2
           have hfz30_3 := blk_frozen BK168.out 3
           have hfz30_4 := blk_frozen BK168.out 4
           have p170 : 0 ≤ (x3_2 : Int) := of_decide_eq_true (by first | (with_reducible assumption) | assumption)
           have q170 : x3_2 < (l0_3.length : Int) := of_decide_eq_true (by first | (with_reducible assumption) | assumption)
           obtain ⟨ad170, A170_0, c170_0, e170, hx170_0, hx170_1, hx170_2, hx170_3, hl170_0, hi170_0⟩ := at_T74 HR0_3.out x3_2 p170 q170
           cases e170
           replace hx170_0 := (HB.out.cell (World.block_lt_of_cell? w _ hx170_0)).trans hx170_0
           replace hx170_1 := (HB.out.cell (World.block_lt_of_cell? w _ hx170_1)).trans hx170_1
           replace hx170_2 := (HB.out.cell (World.block_lt_of_cell? w _ hx170_2)).trans hx170_2
           replace hx170_3 := (HB.out.cell (World.block_lt_of_cell? w _ hx170_3)).trans hx170_3
           have HR170_0 := Aside0.mk hi170_0
           have HC170_0 := Aside0.mk hl170_0
           clear hi170_0 hl170_0
           replace p170 := eq_true p170
           replace q170 := eq_true q170
           go_wp2_with (first | ((with_reducible refine gate_dst (N := 4) rfl ?_); (try (refine gate_guard (by rfl) ?_; dsimp only)); refine box_event ?hg (N := 4) ?hd (cs := #[.slice none 0 0, .int .i64 0, .int .i64 0, .bool false]) (t := 74) ?hr ?_; (case hd => rfl); (case hg => rfl); (case hr => first | (go_simp; done) | (go_simp; rfl)); intro gb171 hg w31 hbox hb; have n0_ := Aside0.mk (blk_below (g := gb168) (o := .cells #[.string a0_0, .int .i64 a0_1, .slice A0_2 l0_2.length c0_2, .slice (some ad170) l0_3.length c0_3, .slice A0_4 l0_4.length c0_4] 48 (0, 0)) (by (with_reducible repeat (first | refine blk_drewN ?_ _ | refine blk_drew ?_ | refine blk_alloc ?_ _)); exact BK168.out) hb); have n1_ := Aside0.mk (below_step (by repeat (first | (with_reducible first | exact HB.out | apply below_alloc | apply pw_below_drewN | apply below_drew1 | refine below_set ?_ GE168.out) | exact HB.out)) hb); have n2_ := Aside0.mk (hbox); have n3_ := Aside0.mk ((by rw [hg]; exact (below_size (by repeat (first | (with_reducible first | exact HB.out | apply below_alloc | apply pw_below_drewN | apply below_drew1 | refine below_set ?_ GE168.out) | exact HB.out))) : w.heap.size ≤ gb171)); have n4_ := Aside0.mk ((by rw [hg]; exact (below_size (by repeat (first | (with_reducible first | exact HB.out | apply below_alloc | apply pw_below_drewN | apply below_drew1 | refine below_set ?_ GE168.out) | exact HB.out))) : w.heap.size ≤ gb171)); have n5_ := Aside0.mk ((by rw [hg]; exact Nat.ne_of_lt (blk_lt (g := gb168) (o := .cells #[.string a0_0, .int .i64 a0_1, .slice A0_2 l0_2.length c0_2, .slice (some ad170) l0_3.length c0_3, .slice A0_4 l0_4.length c0_4] 48 (0, 0)) (by (with_reducible repeat (first | refine blk_drewN ?_ _ | refine blk_drew ?_ | refine blk_alloc ?_ _)); exact BK168.out)) : gb168 ≠ gb171)); have n6_ := Aside0.mk ((by rw [hg]; exact Nat.ne_of_gt (blk_lt (g := gb168) (o := .cells #[.string a0_0, .int .i64 a0_1, .slice A0_2 l0_2.length c0_2, .slice (some ad170) l0_3.length c0_3, .slice A0_4 l0_4.length c0_4] 48 (0, 0)) (by (with_reducible repeat (first | refine blk_drewN ?_ _ | refine blk_drew ?_ | refine blk_alloc ?_ _)); exact BK168.out)) : gb171 ≠ gb168)); clear BK168; clear HB; have BK168 := n0_; have HB := n1_; have BK171 := n2_; have GW171 := n3_; have GE171 := n4_; have NB168_171 := n5_; have NB171_168 := n6_; clear n0_ n1_ n2_ n3_ n4_ n5_ n6_; clear hb hbox hg; have hnb32 := NB171_168.out; have hnc32 := NB168_171.out; have hcz33_0 : w31.cell? ⟨gb171, 0, none⟩ = some (.slice none 0 0) := (blk_cell BK171.out 0).trans rfl; have hcz33_1 : w31.cell? ⟨gb171, 1, none⟩ = some (.int .i64 0) := (blk_cell BK171.out 1).trans rfl; have hcz33_2 : w31.cell? ⟨gb171, 2, none⟩ = some (.int .i64 0) := (blk_cell BK171.out 2).trans rfl; have hcz33_3 : w31.cell? ⟨gb171, 3, none⟩ = some (.bool false) := (blk_cell BK171.out 3).trans rfl; have hfz33_0 := blk_frozen BK171.out 0; have hfz33_1 := blk_frozen BK171.out 1; have hfz33_2 := blk_frozen BK171.out 2; have hfz33_3 := blk_frozen BK171.out 3) | (go_at_call 35; (with_reducible refine (cutroomref18_within.calls ((rd_T74 l0_3 x3_2).f1) 0 16777216 true _ A22.out).mono ?_); rintro e w' ⟨rfl, ⟨nd, rfl⟩⟩) | (go_at_call 35; (with_reducible refine (cutroomref18_within.calls ((rd_T74 l0_3 x3_2).f2) 0 16777216 false _ A24.out).mono ?_); rintro e w' ⟨rfl, ⟨nd, rfl⟩⟩))
           go_ret
           exact ⟨by first | rfl | (simp [errW_none, errW_some] <;> rfl) | (simp [*, errW_none, errW_some] <;> rfl), by repeat (first | (with_reducible first | exact HB.out | apply below_alloc | apply pw_below_drewN | apply below_drew1 | refine below_set ?_ GE168.out | refine below_set ?_ GE171.out) | exact HB.out)⟩
         ·replace c23 := Bool.eq_false_iff.mpr c23
          subst c23
          have H1 : (some false) = some r := by rw [if_neg (show ¬ (false = true) by decide)] at H; exact H
          clear H
          have H := H1
          clear H1
          obtain rfl := Option.some.inj H
          have hcz34_0 : wr.cell? ⟨gb168, 0, none⟩ = some (.string a0_0) := (blk_cell BK168.out 0).trans rfl
          have hcz34_1 : wr.cell? ⟨gb168, 1, none⟩ = some (.int .i64 a0_1) := (blk_cell BK168.out 1).trans rfl
          have hcz34_2 : wr.cell? ⟨gb168, 2, none⟩ = some (.slice A0_2 l0_2.length c0_2) := (blk_cell BK168.out 2).trans rfl
          have hcz34_3 : wr.cell? ⟨gb168, 3, none⟩ = some (.slice A0_3 l0_3.length c0_3) := (blk_cell BK168.out 3).trans rfl
          have hcz34_4 : wr.cell? ⟨gb168, 4, none⟩ = some (.slice A0_4 l0_4.length c0_4) := (blk_cell BK168.out 4).trans rfl
          have hfz34_0 := blk_frozen BK168.out 0
          have hfz34_1 := blk_frozen BK168.out 1
          have hfz34_2 := blk_frozen BK168.out 2
          have hfz34_3 := blk_frozen BK168.out 3
          have hfz34_4 := blk_frozen BK168.out 4
          have p170 : 0 ≤ (x3_2 : Int) := of_decide_eq_true (by first | (with_reducible assumption) | assumption)
          have q170 : x3_2 < (l0_3.length : Int) := of_decide_eq_true (by first | (with_reducible assumption) | assumption)
          obtain ⟨ad170, A170_0, c170_0, e170, hx170_0, hx170_1, hx170_2, hx170_3, hl170_0, hi170_0⟩ := at_T74 HR0_3.out x3_2 p170 q170
          cases e170
          replace hx170_0 := (HB.out.cell (World.block_lt_of_cell? w _ hx170_0)).trans hx170_0
          replace hx170_1 := (HB.out.cell (World.block_lt_of_cell? w _ hx170_1)).trans hx170_1
          replace hx170_2 := (HB.out.cell (World.block_lt_of_cell? w _ hx170_2)).trans hx170_2
          replace hx170_3 := (HB.out.cell (World.block_lt_of_cell? w _ hx170_3)).trans hx170_3
          have HR170_0 := Aside0.mk hi170_0
          have HC170_0 := Aside0.mk hl170_0
          clear hi170_0 hl170_0
          replace p170 := eq_true p170
          replace q170 := eq_true q170
          go_wp2_with (first | ((with_reducible refine gate_dst (N := 4) rfl ?_); (try (refine gate_guard (by rfl) ?_; dsimp only)); refine box_event ?hg (N := 4) ?hd (cs := #[.slice none 0 0, .int .i64 0, .int .i64 0, .bool false]) (t := 74) ?hr ?_; (case hd => rfl); (case hg => rfl); (case hr => first | (go_simp; done) | (go_simp; rfl)); intro gb171 hg w35 hbox hb; have n0_ := Aside0.mk (blk_below (g := gb168) (o := .cells #[.string a0_0, .int .i64 a0_1, .slice A0_2 l0_2.length c0_2, .slice (some ad170) l0_3.length c0_3, .slice A0_4 l0_4.length c0_4] 48 (0, 0)) (by (with_reducible repeat (first | refine blk_drewN ?_ _ | refine blk_drew ?_ | refine blk_alloc ?_ _)); exact BK168.out) hb); have n1_ := Aside0.mk (below_step (by repeat (first | (with_reducible first | exact HB.out | apply below_alloc | apply pw_below_drewN | apply below_drew1 | refine below_set ?_ GE168.out) | exact HB.out)) hb); have n2_ := Aside0.mk (hbox); have n3_ := Aside0.mk ((by rw [hg]; exact (below_size (by repeat (first | (with_reducible first | exact HB.out | apply below_alloc | apply pw_below_drewN | apply below_drew1 | refine below_set ?_ GE168.out) | exact HB.out))) : w.heap.size ≤ gb171)); have n4_ := Aside0.mk ((by rw [hg]; exact (below_size (by repeat (first | (with_reducible first | exact HB.out | apply below_alloc | apply pw_below_drewN | apply below_drew1 | refine below_set ?_ GE168.out) | exact HB.out))) : w.heap.size ≤ gb171)); have n5_ := Aside0.mk ((by rw [hg]; exact Nat.ne_of_lt (blk_lt (g := gb168) (o := .cells #[.string a0_0, .int .i64 a0_1, .slice A0_2 l0_2.length c0_2, .slice (some ad170) l0_3.length c0_3, .slice A0_4 l0_4.length c0_4] 48 (0, 0)) (by (with_reducible repeat (first | refine blk_drewN ?_ _ | refine blk_drew ?_ | refine blk_alloc ?_ _)); exact BK168.out)) : gb168 ≠ gb171)); have n6_ := Aside0.mk ((by rw [hg]; exact Nat.ne_of_gt (blk_lt (g := gb168) (o := .cells #[.string a0_0, .int .i64 a0_1, .slice A0_2 l0_2.length c0_2, .slice (some ad170) l0_3.length c0_3, .slice A0_4 l0_4.length c0_4] 48 (0, 0)) (by (with_reducible repeat (first | refine blk_drewN ?_ _ | refine blk_drew ?_ | refine blk_alloc ?_ _)); exact BK168.out)) : gb171 ≠ gb168)); clear BK168; clear HB; have BK168 := n0_; have HB := n1_; have BK171 := n2_; have GW171 := n3_; have GE171 := n4_; have NB168_171 := n5_; have NB171_168 := n6_; clear n0_ n1_ n2_ n3_ n4_ n5_ n6_; clear hb hbox hg; have hnb36 := NB171_168.out; have hnc36 := NB168_171.out; have hcz37_0 : w35.cell? ⟨gb171, 0, none⟩ = some (.slice none 0 0) := (blk_cell BK171.out 0).trans rfl; have hcz37_1 : w35.cell? ⟨gb171, 1, none⟩ = some (.int .i64 0) := (blk_cell BK171.out 1).trans rfl; have hcz37_2 : w35.cell? ⟨gb171, 2, none⟩ = some (.int .i64 0) := (blk_cell BK171.out 2).trans rfl; have hcz37_3 : w35.cell? ⟨gb171, 3, none⟩ = some (.bool false) := (blk_cell BK171.out 3).trans rfl; have hfz37_0 := blk_frozen BK171.out 0; have hfz37_1 := blk_frozen BK171.out 1; have hfz37_2 := blk_frozen BK171.out 2; have hfz37_3 := blk_frozen BK171.out 3) | (go_at_call 35; (with_reducible refine (cutroomref18_within.calls ((rd_T74 l0_3 x3_2).f1) 0 16777216 false _ A22.out).mono ?_); rintro e w' ⟨rfl, ⟨nd, rfl⟩⟩))
          go_ret
          exact ⟨by first | rfl | (simp [errW_none, errW_some] <;> rfl) | (simp [*, errW_none, errW_some] <;> rfl), by repeat (first | (with_reducible first | exact HB.out | apply below_alloc | apply pw_below_drewN | apply below_drew1 | refine below_set ?_ GE168.out | refine below_set ?_ GE171.out) | exact HB.out)⟩
       ·rw [if_neg c16] at H
        exact absurd H (by simp)
      ·rw [if_neg c15] at H
       have c15b0 : decide (x3_2 < (l0_3.length : Int)) = false := decide_eq_false c15
       clear c15
       have H' := Aside0.mk H
       clear H
       have hcz38_0 : wr.cell? ⟨gb168, 0, none⟩ = some (.string a0_0) := (blk_cell BK168.out 0).trans rfl
       have hcz38_1 : wr.cell? ⟨gb168, 1, none⟩ = some (.int .i64 a0_1) := (blk_cell BK168.out 1).trans rfl
       have hcz38_2 : wr.cell? ⟨gb168, 2, none⟩ = some (.slice A0_2 l0_2.length c0_2) := (blk_cell BK168.out 2).trans rfl
       have hcz38_3 : wr.cell? ⟨gb168, 3, none⟩ = some (.slice A0_3 l0_3.length c0_3) := (blk_cell BK168.out 3).trans rfl
       have hcz38_4 : wr.cell? ⟨gb168, 4, none⟩ = some (.slice A0_4 l0_4.length c0_4) := (blk_cell BK168.out 4).trans rfl
       have hfz38_0 := blk_frozen BK168.out 0
       have hfz38_1 := blk_frozen BK168.out 1
       have hfz38_2 := blk_frozen BK168.out 2
       have hfz38_3 := blk_frozen BK168.out 3
       have hfz38_4 := blk_frozen BK168.out 4
       go_wp2
       go_loopg [5] k2 (fun kq v5 w' => ∃ (x5_3 : Int), v5 = .int .i64 x5_3 ∧ Aside0 (cutroomref18_validTrack.l1 kq x5_3 a0_0 a0_1 l0_2 l0_3 l0_4 = some r) ∧ Aside0 (kq ≤ k2) ∧ Aside0 (w'.heap[gb168]? = some (.cells #[.string a0_0, .int .i64 a0_1, (.slice A0_2 l0_2.length c0_2), (.slice A0_3 l0_3.length c0_3), (.slice A0_4 l0_4.length c0_4)] 48 (0, 0))) ∧ Aside0 (Below w.heap.size w w'))
       case atStart => exact ⟨(0), (by first | rfl | (simp; done) | (simp [*]; done)), H', ⟨Nat.le_refl _⟩, ⟨by (with_reducible repeat (first | refine blk_drewN ?_ _ | refine blk_drew ?_ | refine blk_alloc ?_ _)); exact BK168.out⟩, ⟨by repeat (first | (with_reducible first | exact HB.out | apply below_alloc | apply pw_below_drewN | apply below_drew1 | refine below_set ?_ GE168.out) | exact HB.out)⟩⟩
       case round =>
        clear H'
        (try clear c1);(try clear p1);(try clear q1);(try clear hx1);(try clear c2);(try clear p2);(try clear c3);(try clear c4);(try clear c4b0);(try clear c4b1);(try clear c6);(try clear p6);(try clear c7);(try clear c7b0);(try clear c7b1);(try clear c9);(try clear c9b0);(try clear c9b1);(try clear c14);(try clear c15);(try clear c15b0);(try clear c16);(try clear c16b0);(try clear c17);(try clear c17b0);(try clear c17b1);(try clear p17);(try clear q17);(try clear hx17);(try clear c20);(try clear c23);(try clear c25);(try clear c28);(try clear c31);(try clear c32);(try clear c36);(try clear hcz10_0);(try clear hcz10_1);(try clear hcz10_2);(try clear hcz10_3);(try clear hcz10_4);(try clear hcz11_0);(try clear hcz11_1);(try clear hcz11_2);(try clear hcz11_3);(try clear hcz11_4);(try clear hcz12_0);(try clear hcz12_1);(try clear hcz12_2);(try clear hcz12_3);(try clear hcz12_4);(try clear hcz13_0)
        (try clear hcz13_1);(try clear hcz13_2);(try clear hcz13_3);(try clear hcz13_4);(try clear hcz18_0);(try clear hcz18_1);(try clear hcz18_2);(try clear hcz18_3);(try clear hcz18_4);(try clear hcz21_0);(try clear hcz21_1);(try clear hcz21_2);(try clear hcz21_3);(try clear hcz26_0);(try clear hcz26_1);(try clear hcz26_2);(try clear hcz26_3);(try clear hcz26_4);(try clear hcz29_0);(try clear hcz29_1);(try clear hcz29_2);(try clear hcz29_3);(try clear hcz30_0);(try clear hcz30_1);(try clear hcz30_2);(try clear hcz30_3);(try clear hcz30_4);(try clear hcz33_0);(try clear hcz33_1);(try clear hcz33_2);(try clear hcz33_3);(try clear hcz34_0);(try clear hcz34_1);(try clear hcz34_2);(try clear hcz34_3);(try clear hcz34_4);(try clear hcz37_0);(try clear hcz37_1);(try clear hcz37_2);(try clear hcz37_3);(try clear hcz38_0);(try clear hcz38_1);(try clear hcz38_2);(try clear hcz38_3);(try clear hcz38_4)
        (try clear hcz8_0);(try clear hcz8_1);(try clear hcz8_2);(try clear hcz8_3);(try clear hcz8_4);(try clear hfz10_0);(try clear hfz10_1);(try clear hfz10_2);(try clear hfz10_3);(try clear hfz10_4);(try clear hfz11_0);(try clear hfz11_1);(try clear hfz11_2);(try clear hfz11_3);(try clear hfz11_4);(try clear hfz12_0);(try clear hfz12_1);(try clear hfz12_2);(try clear hfz12_3);(try clear hfz12_4);(try clear hfz13_0);(try clear hfz13_1);(try clear hfz13_2);(try clear hfz13_3);(try clear hfz13_4);(try clear hfz18_0);(try clear hfz18_1);(try clear hfz18_2);(try clear hfz18_3);(try clear hfz18_4);(try clear hfz21_0);(try clear hfz21_1);(try clear hfz21_2);(try clear hfz21_3);(try clear hfz26_0);(try clear hfz26_1);(try clear hfz26_2);(try clear hfz26_3);(try clear hfz26_4);(try clear hfz29_0);(try clear hfz29_1);(try clear hfz29_2);(try clear hfz29_3);(try clear hfz30_0);(try clear hfz30_1)
        (try clear hfz30_2);(try clear hfz30_3);(try clear hfz30_4);(try clear hfz33_0);(try clear hfz33_1);(try clear hfz33_2);(try clear hfz33_3);(try clear hfz34_0);(try clear hfz34_1);(try clear hfz34_2);(try clear hfz34_3);(try clear hfz34_4);(try clear hfz37_0);(try clear hfz37_1);(try clear hfz37_2);(try clear hfz37_3);(try clear hfz38_0);(try clear hfz38_1);(try clear hfz38_2);(try clear hfz38_3);(try clear hfz38_4);(try clear hfz8_0);(try clear hfz8_1);(try clear hfz8_2);(try clear hfz8_3);(try clear hfz8_4);(try clear hx170_0);(try clear hx170_1);(try clear hx170_2);(try clear hx170_3);(try clear p170);(try clear p2);(try clear q170)
        obtain ⟨x5_3, rfl, HA, HK3, BK168, HB⟩ := hrel
        cases gk with
        | zero => exact absurd HA.out (by simp [cutroomref18_validTrack.l1])
        | succ k3 =>
         have H := HA.out
         clear HA
         simp only [cutroomref18_validTrack.l1] at H
         by_cases c39 : x5_3 < (l0_4.length : Int)
         ·rw [if_pos c39] at H
          have c39b0 : decide (x5_3 < (l0_4.length : Int)) = true := decide_eq_true c39
          clear c39
          by_cases c40 : 0 ≤ x5_3
          ·rw [if_pos c40] at H
           have c40b0 : decide (0 ≤ x5_3) = true := decide_eq_true c40
           clear c40
           replace H := Option.bind_eq_some_iff.mp H
           obtain ⟨t175, A410, H⟩ := H
           replace H : (if t175 = true then ((cutroomref18_within.f ((rd_T61 l0_4 x5_3).f1) (-1) 2147483647).bind fun t177 => (if t177 = true then (cutroomref18_validTrack.l1 k3 (wrap64 (x5_3 + 1)) a0_0 a0_1 l0_2 l0_3 l0_4) else (some false))) else (some false)) = some r := H
           have A41 := Aside0.mk A410
           clear A410
           by_cases c42 : t175 = true
           ·subst c42
            have H1 : ((cutroomref18_within.f ((rd_T61 l0_4 x5_3).f1) (-1) 2147483647).bind fun t177 => (if t177 = true then (cutroomref18_validTrack.l1 k3 (wrap64 (x5_3 + 1)) a0_0 a0_1 l0_2 l0_3 l0_4) else (some false))) = some r := by rw [if_pos rfl] at H; exact H
            clear H
            have H := H1
            clear H1
            replace H := Option.bind_eq_some_iff.mp H
            obtain ⟨t177, A430, H⟩ := H
            replace H : (if t177 = true then (cutroomref18_validTrack.l1 k3 (wrap64 (x5_3 + 1)) a0_0 a0_1 l0_2 l0_3 l0_4) else (some false)) = some r := H
            have A43 := Aside0.mk A430
            clear A430
            by_cases c44 : t177 = true
            ·subst c44
             have H1 : (cutroomref18_validTrack.l1 k3 (wrap64 (x5_3 + 1)) a0_0 a0_1 l0_2 l0_3 l0_4) = some r := by rw [if_pos rfl] at H; exact H
             clear H
             have H := H1
             clear H1
             have H' := Aside0.mk H
             clear H
             have hcz45_0 : wr.cell? ⟨gb168, 0, none⟩ = some (.string a0_0) := (blk_cell BK168.out 0).trans rfl
             have hcz45_1 : wr.cell? ⟨gb168, 1, none⟩ = some (.int .i64 a0_1) := (blk_cell BK168.out 1).trans rfl
             have hcz45_2 : wr.cell? ⟨gb168, 2, none⟩ = some (.slice A0_2 l0_2.length c0_2) := (blk_cell BK168.out 2).trans rfl
             have hcz45_3 : wr.cell? ⟨gb168, 3, none⟩ = some (.slice A0_3 l0_3.length c0_3) := (blk_cell BK168.out 3).trans rfl
             have hcz45_4 : wr.cell? ⟨gb168, 4, none⟩ = some (.slice A0_4 l0_4.length c0_4) := (blk_cell BK168.out 4).trans rfl
             have hfz45_0 := blk_frozen BK168.out 0
             have hfz45_1 := blk_frozen BK168.out 1
             have hfz45_2 := blk_frozen BK168.out 2
             have hfz45_3 := blk_frozen BK168.out 3
             have hfz45_4 := blk_frozen BK168.out 4
             have p174 : 0 ≤ (x5_3 : Int) := of_decide_eq_true (by first | (with_reducible assumption) | assumption)
             have q174 : x5_3 < (l0_4.length : Int) := of_decide_eq_true (by first | (with_reducible assumption) | assumption)
             obtain ⟨ad174, e174, hx174_0, hx174_1⟩ := at_T61 HR0_4.out x5_3 p174 q174
             cases e174
             replace hx174_0 := (HB.out.cell (World.block_lt_of_cell? w _ hx174_0)).trans hx174_0
             replace hx174_1 := (HB.out.cell (World.block_lt_of_cell? w _ hx174_1)).trans hx174_1
             replace p174 := eq_true p174
             replace q174 := eq_true q174
             go_wp2_with (first | ((with_reducible refine gate_callee (f := 35) rfl ?_); refine goesL_ (some 75) rfl rfl Try.func35 (by kernel_rfl) rfl #[.int .i64 ((rd_T61 l0_4 x5_3).f0), .int .i64 0, .int .i64 2147483647] rfl (by (try simp only [List.map_toArray, List.map_cons, List.map_nil]); first | done | rfl | (simp only [List.length_drop, List.length_take]; rfl)) ?_; (with_reducible refine (cutroomref18_within.calls ((rd_T61 l0_4 x5_3).f0) 0 2147483647 true _ A41.out).mono ?_); rintro e w' ⟨rfl, ⟨nd, rfl⟩⟩; refine ⟨_, rfl, ?_⟩; have p176 : 0 ≤ (x5_3 : Int) := of_decide_eq_true (by first | (with_reducible assumption) | assumption); have q176 : x5_3 < (l0_4.length : Int) := of_decide_eq_true (by first | (with_reducible assumption) | assumption); obtain ⟨ad176, e176, hx176_0, hx176_1⟩ := at_T61 HR0_4.out x5_3 p176 q176; obtain rfl : ad174 = ad176 := (by injection e176); replace hx176_0 := (HB.out.cell (World.block_lt_of_cell? w _ hx176_0)).trans hx176_0; replace hx176_1 := (HB.out.cell (World.block_lt_of_cell? w _ hx176_1)).trans hx176_1; replace p176 := eq_true p176; replace q176 := eq_true q176) | (go_at_call 35; (with_reducible refine (cutroomref18_within.calls ((rd_T61 l0_4 x5_3).f1) (-1) 2147483647 true _ A43.out).mono ?_); rintro e w' ⟨rfl, ⟨nd, rfl⟩⟩))
             go_roundg k3
             case measure => have := HJ1.out; have := HK2.out; have := HK3.out; omega
             case rel => exact ⟨(wrap64 (x5_3 + 1)), (by first | rfl | (simp; done) | (simp [*]; done)), H', ⟨by have := HJ1.out; have := HK2.out; have := HK3.out; omega⟩, ⟨by (with_reducible repeat (first | refine blk_drewN ?_ _ | refine blk_drew ?_ | refine blk_alloc ?_ _)); exact BK168.out⟩, ⟨by repeat (first | (with_reducible first | exact HB.out | apply below_alloc | apply pw_below_drewN | apply below_drew1 | refine below_set ?_ GE168.out) | exact HB.out)⟩⟩
            ·replace c44 := Bool.eq_false_iff.mpr c44
             subst c44
             have H1 : (some false) = some r := by rw [if_neg (show ¬ (false = true) by decide)] at H; exact H
             clear H
             have H := H1
             clear H1
             obtain rfl := Option.some.inj H
             have hcz46_0 : wr.cell? ⟨gb168, 0, none⟩ = some (.string a0_0) := (blk_cell BK168.out 0).trans rfl
             have hcz46_1 : wr.cell? ⟨gb168, 1, none⟩ = some (.int .i64 a0_1) := (blk_cell BK168.out 1).trans rfl
             have hcz46_2 : wr.cell? ⟨gb168, 2, none⟩ = some (.slice A0_2 l0_2.length c0_2) := (blk_cell BK168.out 2).trans rfl
             have hcz46_3 : wr.cell? ⟨gb168, 3, none⟩ = some (.slice A0_3 l0_3.length c0_3) := (blk_cell BK168.out 3).trans rfl
             have hcz46_4 : wr.cell? ⟨gb168, 4, none⟩ = some (.slice A0_4 l0_4.length c0_4) := (blk_cell BK168.out 4).trans rfl
             have hfz46_0 := blk_frozen BK168.out 0
             have hfz46_1 := blk_frozen BK168.out 1
             have hfz46_2 := blk_frozen BK168.out 2
             have hfz46_3 := blk_frozen BK168.out 3
             have hfz46_4 := blk_frozen BK168.out 4
             have p174 : 0 ≤ (x5_3 : Int) := of_decide_eq_true (by first | (with_reducible assumption) | assumption)
             have q174 : x5_3 < (l0_4.length : Int) := of_decide_eq_true (by first | (with_reducible assumption) | assumption)
             obtain ⟨ad174, e174, hx174_0, hx174_1⟩ := at_T61 HR0_4.out x5_3 p174 q174
             cases e174
             replace hx174_0 := (HB.out.cell (World.block_lt_of_cell? w _ hx174_0)).trans hx174_0
             replace hx174_1 := (HB.out.cell (World.block_lt_of_cell? w _ hx174_1)).trans hx174_1
             replace p174 := eq_true p174
             replace q174 := eq_true q174
             go_wp2_with (first | ((with_reducible refine gate_callee (f := 35) rfl ?_); refine goesL_ (some 75) rfl rfl Try.func35 (by kernel_rfl) rfl #[.int .i64 ((rd_T61 l0_4 x5_3).f0), .int .i64 0, .int .i64 2147483647] rfl (by (try simp only [List.map_toArray, List.map_cons, List.map_nil]); first | done | rfl | (simp only [List.length_drop, List.length_take]; rfl)) ?_; (with_reducible refine (cutroomref18_within.calls ((rd_T61 l0_4 x5_3).f0) 0 2147483647 true _ A41.out).mono ?_); rintro e w' ⟨rfl, ⟨nd, rfl⟩⟩; refine ⟨_, rfl, ?_⟩; have p176 : 0 ≤ (x5_3 : Int) := of_decide_eq_true (by first | (with_reducible assumption) | assumption); have q176 : x5_3 < (l0_4.length : Int) := of_decide_eq_true (by first | (with_reducible assumption) | assumption); obtain ⟨ad176, e176, hx176_0, hx176_1⟩ := at_T61 HR0_4.out x5_3 p176 q176; obtain rfl : ad174 = ad176 := (by injection e176); replace hx176_0 := (HB.out.cell (World.block_lt_of_cell? w _ hx176_0)).trans hx176_0; replace hx176_1 := (HB.out.cell (World.block_lt_of_cell? w _ hx176_1)).trans hx176_1; replace p176 := eq_true p176; replace q176 := eq_true q176) | (go_at_call 35; (with_reducible refine (cutroomref18_within.calls ((rd_T61 l0_4 x5_3).f1) (-1) 2147483647 false _ A43.out).mono ?_); rintro e w' ⟨rfl, ⟨nd, rfl⟩⟩))
             go_ret
             exact ⟨by first | rfl | (simp [errW_none, errW_some] <;> rfl) | (simp [*, errW_none, errW_some] <;> rfl), by repeat (first | (with_reducible first | exact HB.out | apply below_alloc | apply pw_below_drewN | apply below_drew1 | refine below_set ?_ GE168.out) | exact HB.out)⟩
           ·replace c42 := Bool.eq_false_iff.mpr c42
            subst c42
            have H1 : (some false) = some r := by rw [if_neg (show ¬ (false = true) by decide)] at H; exact H
            clear H
            have H := H1
            clear H1
            obtain rfl := Option.some.inj H
            have hcz47_0 : wr.cell? ⟨gb168, 0, none⟩ = some (.string a0_0) := (blk_cell BK168.out 0).trans rfl
            have hcz47_1 : wr.cell? ⟨gb168, 1, none⟩ = some (.int .i64 a0_1) := (blk_cell BK168.out 1).trans rfl
            have hcz47_2 : wr.cell? ⟨gb168, 2, none⟩ = some (.slice A0_2 l0_2.length c0_2) := (blk_cell BK168.out 2).trans rfl
            have hcz47_3 : wr.cell? ⟨gb168, 3, none⟩ = some (.slice A0_3 l0_3.length c0_3) := (blk_cell BK168.out 3).trans rfl
            have hcz47_4 : wr.cell? ⟨gb168, 4, none⟩ = some (.slice A0_4 l0_4.length c0_4) := (blk_cell BK168.out 4).trans rfl
            have hfz47_0 := blk_frozen BK168.out 0
            have hfz47_1 := blk_frozen BK168.out 1
            have hfz47_2 := blk_frozen BK168.out 2
            have hfz47_3 := blk_frozen BK168.out 3
            have hfz47_4 := blk_frozen BK168.out 4
            have p174 : 0 ≤ (x5_3 : Int) := of_decide_eq_true (by first | (with_reducible assumption) | assumption)
            have q174 : x5_3 < (l0_4.length : Int) := of_decide_eq_true (by first | (with_reducible assumption) | assumption)
            obtain ⟨ad174, e174, hx174_0, hx174_1⟩ := at_T61 HR0_4.out x5_3 p174 q174
            cases e174
            replace hx174_0 := (HB.out.cell (World.block_lt_of_cell? w _ hx174_0)).trans hx174_0
            replace hx174_1 := (HB.out.cell (World.block_lt_of_cell? w _ hx174_1)).trans hx174_1
            replace p174 := eq_true p174
            replace q174 := eq_true q174
            go_wp2_with (first | ((with_reducible refine gate_callee (f := 35) rfl ?_); refine goesL_ (some 75) rfl rfl Try.func35 (by kernel_rfl) rfl #[.int .i64 ((rd_T61 l0_4 x5_3).f0), .int .i64 0, .int .i64 2147483647] rfl (by (try simp only [List.map_toArray, List.map_cons, List.map_nil]); first | done | rfl | (simp only [List.length_drop, List.length_take]; rfl)) ?_; (with_reducible refine (cutroomref18_within.calls ((rd_T61 l0_4 x5_3).f0) 0 2147483647 false _ A41.out).mono ?_); rintro e w' ⟨rfl, ⟨nd, rfl⟩⟩; refine ⟨_, rfl, ?_⟩))
            go_ret
            exact ⟨by first | rfl | (simp [errW_none, errW_some] <;> rfl) | (simp [*, errW_none, errW_some] <;> rfl), by repeat (first | (with_reducible first | exact HB.out | apply below_alloc | apply pw_below_drewN | apply below_drew1 | refine below_set ?_ GE168.out) | exact HB.out)⟩
          ·rw [if_neg c40] at H
           exact absurd H (by simp)
         ·rw [if_neg c39] at H
          have c39b0 : decide (x5_3 < (l0_4.length : Int)) = false := decide_eq_false c39
          clear c39
          obtain rfl := Option.some.inj H
          have hcz48_0 : wr.cell? ⟨gb168, 0, none⟩ = some (.string a0_0) := (blk_cell BK168.out 0).trans rfl
          have hcz48_1 : wr.cell? ⟨gb168, 1, none⟩ = some (.int .i64 a0_1) := (blk_cell BK168.out 1).trans rfl
          have hcz48_2 : wr.cell? ⟨gb168, 2, none⟩ = some (.slice A0_2 l0_2.length c0_2) := (blk_cell BK168.out 2).trans rfl
          have hcz48_3 : wr.cell? ⟨gb168, 3, none⟩ = some (.slice A0_3 l0_3.length c0_3) := (blk_cell BK168.out 3).trans rfl
          have hcz48_4 : wr.cell? ⟨gb168, 4, none⟩ = some (.slice A0_4 l0_4.length c0_4) := (blk_cell BK168.out 4).trans rfl
          have hfz48_0 := blk_frozen BK168.out 0
          have hfz48_1 := blk_frozen BK168.out 1
          have hfz48_2 := blk_frozen BK168.out 2
          have hfz48_3 := blk_frozen BK168.out 3
          have hfz48_4 := blk_frozen BK168.out 4
          go_wp2
          go_ret
          exact ⟨by first | rfl | (simp [errW_none, errW_some] <;> rfl) | (simp [*, errW_none, errW_some] <;> rfl), by repeat (first | (with_reducible first | exact HB.out | apply below_alloc | apply pw_below_drewN | apply below_drew1 | refine below_set ?_ GE168.out) | exact HB.out)⟩

end Go.Proofs.Ytbpmkcgpgdbbkaa.P
