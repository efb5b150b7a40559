-- Written by this session's own program (wip/tools/myprint.py), which runs the kit's print with turns of its own: not a text of the kit's print.sh.
import Derived.Test.YtbpmkcgpgdbbkaaPx0
import Derived.Test.YtbpmkcgpgdbbkaaPx32
namespace Go.Proofs.Ytbpmkcgpgdbbkaa.P
open Go.RowKit Go.Proofs.YtbpmkcgpgdbbkaaW.PrintWords Go.Proofs.YtbpmkcgpgdbbkaaW.PrintLast Go.Proofs.YtbpmkcgpgdbbkaaW.PrintMore
attribute [local go_sem] max2_int min2_int max_two min_two max_three min_three max_four min_four   -- for this text's walks alone
set_option linter.unusedVariables false
set_option linter.unusedSimpArgs false

/-! ### cutroomref18_Locate: function 16 -/
mutual
def cutroomref18_Locate.l0 : Nat → Int → Int → Int → Int → ByteArray → Int → List Int → List (S74) → List (S61) → Option (Int)
 | 0, _, _, _, _, _, _, _, _, _ => none
 | k + 1, x1, x5, x6, x7, x179000, x179001, x179002, x179003, x179004 => if x7 < (x179003.length : Int) then ((cutroomref18_validTrack.f k x179000 x179001 x179002 x179003 x179004).bind fun t179 => (cutroomref18_Locate.j1 k x1 x5 x6 x7 t179 x179000 x179001 x179002 x179003 x179004)) else (cutroomref18_Locate.j1 k x1 x5 x6 x7 false x179000 x179001 x179002 x179003 x179004)
def cutroomref18_Locate.j1 : Nat → Int → Int → Int → Int → Bool → ByteArray → Int → List Int → List (S74) → List (S61) → Option (Int)
 | 0, _, _, _, _, _, _, _, _, _, _ => none
 | k + 1, x1, x5, x6, x7, x16, x179000, x179001, x179002, x179003, x179004 => if x16 = true then (if 0 ≤ x7 then (if x7 < (x179003.length : Int) then (if (rd_T74 x179003 x7).f3 = true then (if x5 ≤ x1 then (cutroomref18_Locate.l0 k x1 (wrap64 (x5 + ((rd_T74 x179003 x7).f1))) x7 (wrap64 (x7 + 1)) x179000 x179001 x179002 x179003 x179004) else (cutroomref18_Locate.l0 k x1 (wrap64 (x5 + ((rd_T74 x179003 x7).f1))) x6 (wrap64 (x7 + 1)) x179000 x179001 x179002 x179003 x179004)) else (cutroomref18_Locate.l0 k x1 (wrap64 (x5 + ((rd_T74 x179003 x7).f1))) x6 (wrap64 (x7 + 1)) x179000 x179001 x179002 x179003 x179004)) else (none)) else (none)) else (some x6)
end
def cutroomref18_Locate.f (k : Nat) (a0_0 : ByteArray) (a0_1 : Int) (l0_2 : List Int) (l0_3 : List (S74)) (l0_4 : List (S61)) (a1 : Int) : Option (Int) := cutroomref18_Locate.l0 k a1 0 (-1) 0 a0_0 a0_1 l0_2 l0_3 l0_4
theorem cutroomref18_Locate.mono_l : ∀ k, (∀ y0 y1 y2 y3 y4 y5 y6 y7 y8, LeO (cutroomref18_Locate.l0 k y0 y1 y2 y3 y4 y5 y6 y7 y8) (cutroomref18_Locate.l0 (k + 1) y0 y1 y2 y3 y4 y5 y6 y7 y8)) ∧ (∀ y0 y1 y2 y3 y4 y5 y6 y7 y8 y9, LeO (cutroomref18_Locate.j1 k y0 y1 y2 y3 y4 y5 y6 y7 y8 y9) (cutroomref18_Locate.j1 (k + 1) y0 y1 y2 y3 y4 y5 y6 y7 y8 y9))
 | 0 => ⟨fun _ _ _ _ _ _ _ _ _ r h => by simp [cutroomref18_Locate.l0] at h, fun _ _ _ _ _ _ _ _ _ _ r h => by simp [cutroomref18_Locate.j1] at h⟩
 | k + 1 => by
  obtain ⟨ih0, ih1⟩ := cutroomref18_Locate.mono_l k
  refine ⟨?_, ?_⟩
  ·intro y0 y1 y2 y3 y4 y5 y6 y7 y8
   unfold cutroomref18_Locate.l0
   repeat' first
   | (with_reducible exact ih0 _ _ _ _ _ _ _ _ _)
   | (with_reducible exact ih1 _ _ _ _ _ _ _ _ _ _)
   | (with_reducible exact cutroomref18_validTrack.mono _ _ _ _ _ _)
   | (with_reducible exact LeO.refl _)
   | (with_reducible exact LeO.none _)
   | (with_reducible refine LeO.ite ?_ ?_)
   | (with_reducible refine LeO.bind ?_ (fun _ => ?_))
   | exact ih0 _ _ _ _ _ _ _ _ _
   | exact ih1 _ _ _ _ _ _ _ _ _ _
   | exact cutroomref18_validTrack.mono _ _ _ _ _ _
   | exact LeO.none _
   | refine LeO.ite ?_ ?_
   | refine LeO.bind ?_ (fun _ => ?_)
  ·intro y0 y1 y2 y3 y4 y5 y6 y7 y8 y9
   unfold cutroomref18_Locate.j1
   repeat' first
   | (with_reducible exact ih0 _ _ _ _ _ _ _ _ _)
   | (with_reducible exact ih1 _ _ _ _ _ _ _ _ _ _)
   | (with_reducible exact cutroomref18_validTrack.mono _ _ _ _ _ _)
   | (with_reducible exact LeO.refl _)
   | (with_reducible exact LeO.none _)
   | (with_reducible refine LeO.ite ?_ ?_)
   | (with_reducible refine LeO.bind ?_ (fun _ => ?_))
   | exact ih0 _ _ _ _ _ _ _ _ _
   | exact ih1 _ _ _ _ _ _ _ _ _ _
   | exact cutroomref18_validTrack.mono _ _ _ _ _ _
   | exact LeO.none _
   | refine LeO.ite ?_ ?_
   | refine LeO.bind ?_ (fun _ => ?_)
theorem cutroomref18_Locate.mono : ∀ a0 a1 a2 a3 a4 a5 k, LeO (cutroomref18_Locate.f k a0 a1 a2 a3 a4 a5) (cutroomref18_Locate.f (k + 1) a0 a1 a2 a3 a4 a5) := by
 intro a0 a1 a2 a3 a4 a5 k
 obtain ⟨ih0, ih1⟩ := cutroomref18_Locate.mono_l k
 unfold cutroomref18_Locate.f
 repeat' first
   | (with_reducible exact ih0 _ _ _ _ _ _ _ _ _)
   | (with_reducible exact ih1 _ _ _ _ _ _ _ _ _ _)
   | (with_reducible exact cutroomref18_validTrack.mono _ _ _ _ _ _)
   | (with_reducible exact LeO.refl _)
   | (with_reducible exact LeO.none _)
   | (with_reducible refine LeO.ite ?_ ?_)
   | (with_reducible refine LeO.bind ?_ (fun _ => ?_))
   | exact ih0 _ _ _ _ _ _ _ _ _
   | exact ih1 _ _ _ _ _ _ _ _ _ _
   | exact cutroomref18_validTrack.mono _ _ _ _ _ _
   | exact LeO.none _
   | refine LeO.ite ?_ ?_
   | refine LeO.bind ?_ (fun _ => ?_)
set_option maxHeartbeats 8000000 in
set_option maxRecDepth 100000 in
theorem cutroomref18_Locate.calls (k : Nat) (a0_0 : ByteArray) (a0_1 : Int) (A0_2 : Option Addr) (c0_2 : Nat) (l0_2 : List Int) (A0_3 : Option Addr) (c0_3 : Nat) (l0_3 : List (S74)) (A0_4 : Option Addr) (c0_4 : Nat) (l0_4 : List (S61)) (a1 : Int) (r : Int) (w : World) (hr0_2 : Kd.C (Kd.int .u8) w A0_2 l0_2.length l0_2) (hc0_2 : l0_2.length ≤ c0_2) (hr0_3 : Kd.C k74 w A0_3 l0_3.length l0_3) (hc0_3 : l0_3.length ≤ c0_3) (hr0_4 : Kd.C k61 w A0_4 l0_4.length l0_4) (hc0_4 : l0_4.length ≤ c0_4) (h : cutroomref18_Locate.f k a0_0 a0_1 l0_2 l0_3 l0_4 a1 = some r) :
  Calls Try.prog 16 #[.agg #[.string a0_0, .int .i64 a0_1, .slice A0_2 l0_2.length c0_2, .slice A0_3 l0_3.length c0_3, .slice A0_4 l0_4.length c0_4], .int .i64 a1] w fun e w' => e = .returned (.int .i64 r) ∧ Below w.heap.size w w' := by
 have hu48 := Try.underlying48
 have HR0_2 := Aside0.mk hr0_2
 have HC0_2 := Aside0.mk hc0_2
 clear hr0_2 hc0_2
 have HR0_3 := Aside0.mk hr0_3
 have HC0_3 := Aside0.mk hc0_3
 clear hr0_3 hc0_3
 have HR0_4 := Aside0.mk hr0_4
 have HC0_4 := Aside0.mk hc0_4
 clear hr0_4 hc0_4
 have HB := Aside0.mk (Below.refl w.heap.size w)
 have H : (cutroomref18_Locate.l0 k a1 0 (-1) 0 a0_0 a0_1 l0_2 l0_3 l0_4) = some r := h
 clear h
 have H' := Aside0.mk H
 clear H
 go_enter Try.func16, Try.ntmps16
 go_wp2_with (first | ((with_reducible refine gate_dst (N := 2) rfl ?_); refine box_event ?hg (N := 2) ?hd (cs := #[.string a0_0, .int .i64 a0_1, .slice A0_2 l0_2.length c0_2, .slice A0_3 l0_3.length c0_3, .slice A0_4 l0_4.length c0_4]) (t := 48) ?hr ?_; (case hd => rfl); (case hg => rfl); (case hr => first | (go_simp; done) | (go_simp; rfl)); intro gb178 hg w3 hbox hb; have n0_ := Aside0.mk (below_step (by repeat (first | (with_reducible first | exact HB.out | apply below_alloc | apply pw_below_drewN | apply below_drew1) | exact HB.out)) hb); have n1_ := Aside0.mk (hbox); have n2_ := Aside0.mk ((by rw [hg]; exact (below_size (by repeat (first | (with_reducible first | exact HB.out | apply below_alloc | apply pw_below_drewN | apply below_drew1) | exact HB.out))) : w.heap.size ≤ gb178)); have n3_ := Aside0.mk ((by rw [hg]; exact (below_size (by repeat (first | (with_reducible first | exact HB.out | apply below_alloc | apply pw_below_drewN | apply below_drew1) | exact HB.out))) : w.heap.size ≤ gb178)); clear HB; have HB := n0_; have BK178 := n1_; have GW178 := n2_; have GE178 := n3_; clear n0_ n1_ n2_ n3_; clear hb hbox hg))
 go_loopg [5, 6, 7] k (fun kq v5 v6 v7 w' => ∃ (x5_1 : Int) (x6_1 : Int) (x7_1 : Int), v5 = .int .i64 x5_1 ∧ v6 = .int .i64 x6_1 ∧ v7 = .int .i64 x7_1 ∧ Aside0 (cutroomref18_Locate.l0 kq a1 x5_1 x6_1 x7_1 a0_0 a0_1 l0_2 l0_3 l0_4 = some r) ∧ Aside0 (kq ≤ k) ∧ Aside0 (w'.heap[gb178]? = some (.cells #[.string a0_0, .int .i64 a0_1, (.slice A0_2 l0_2.length c0_2), (.slice A0_3 l0_3.length c0_3), (.slice A0_4 l0_4.length c0_4)] 48 (0, 0))) ∧ Aside0 (Below w.heap.size w w'))
 case atStart => exact ⟨(0), ((-1)), (0), (by first | rfl | (simp; done) | (simp [*]; done)), (by first | rfl | (simp; done) | (simp [*]; done)), (by first | rfl | (simp; done) | (simp [*]; done)), H', ⟨Nat.le_refl _⟩, ⟨by (with_reducible repeat (first | refine blk_drewN ?_ _ | refine blk_drew ?_ | refine blk_alloc ?_ _)); exact BK178.out⟩, ⟨by repeat (first | (with_reducible first | exact HB.out | apply below_alloc | apply pw_below_drewN | apply below_drew1 | refine below_set ?_ GE178.out) | exact HB.out)⟩⟩
 case round =>
  clear H'
  (try clear c1);(try clear p2)
  obtain ⟨x5_1, x6_1, x7_1, rfl, rfl, rfl, HA, HK1, BK178, HB⟩ := hrel
  cases gk with
  | zero => exact absurd HA.out (by simp [cutroomref18_Locate.l0])
  | succ k1 =>
   have H := HA.out
   clear HA
   simp only [cutroomref18_Locate.l0] at H
   have HC4 := Aside0.mk H
   clear H
   go_upto_region 3 with (fail)
   go_cut [16] (fun v16 wc => ∃ (kq : Nat) (x16_3 : Bool), v16 = .bool x16_3 ∧ Aside0 (cutroomref18_Locate.j1 kq a1 x5_1 x6_1 x7_1 x16_3 a0_0 a0_1 l0_2 l0_3 l0_4 = some r) ∧ Aside0 (kq ≤ k1) ∧ Aside0 (wc.heap[gb178]? = some (.cells #[.string a0_0, .int .i64 a0_1, (.slice A0_2 l0_2.length c0_2), (.slice A0_3 l0_3.length c0_3), (.slice A0_4 l0_4.length c0_4)] 48 (0, 0))) ∧ Aside0 (Below w.heap.size w wc))
   case first =>
    have H := HC4.out
    clear HC4
    by_cases c5 : x7_1 < (l0_3.length : Int)
    ·rw [if_pos c5] at H
     have c5b0 : decide (x7_1 < (l0_3.length : Int)) = true := decide_eq_true c5
     clear c5
     (first | rw [c5b0] | (simp only [i64_w, i32_w]; rw [c5b0]) | skip)
     replace H := Option.bind_eq_some_iff.mp H
     obtain ⟨t179, A60, H⟩ := H
     replace H : (cutroomref18_Locate.j1 k1 a1 x5_1 x6_1 x7_1 t179 a0_0 a0_1 l0_2 l0_3 l0_4) = some r := H
     have A6 := Aside0.mk A60
     clear A60
     have H' := Aside0.mk H
     clear H
     have hcz7_0 : wr.cell? ⟨gb178, 0, none⟩ = some (.string a0_0) := (blk_cell BK178.out 0).trans rfl
     have hcz7_1 : wr.cell? ⟨gb178, 1, none⟩ = some (.int .i64 a0_1) := (blk_cell BK178.out 1).trans rfl
     have hcz7_2 : wr.cell? ⟨gb178, 2, none⟩ = some (.slice A0_2 l0_2.length c0_2) := (blk_cell BK178.out 2).trans rfl
     have hcz7_3 : wr.cell? ⟨gb178, 3, none⟩ = some (.slice A0_3 l0_3.length c0_3) := (blk_cell BK178.out 3).trans rfl
     have hcz7_4 : wr.cell? ⟨gb178, 4, none⟩ = some (.slice A0_4 l0_4.length c0_4) := (blk_cell BK178.out 4).trans rfl
     have hfz7_0 := blk_frozen BK178.out 0
     have hfz7_1 := blk_frozen BK178.out 1
     have hfz7_2 := blk_frozen BK178.out 2
     have hfz7_3 := blk_frozen BK178.out 3
     have hfz7_4 := blk_frozen BK178.out 4
     go_wp2_with (first | (go_at_call 31; (with_reducible refine (cutroomref18_validTrack.calls k1 a0_0 a0_1 _ _ l0_2 _ _ l0_3 _ _ l0_4 t179 _ ?side1 ?side2 ?side3 ?side4 ?side5 ?side6 A6.out).mono ?_); (case side1 => repeat (first | exact (Kd.C_below HR0_2.out HB.out) | (with_reducible refine Kd.C_alloc ?_ _) | (with_reducible refine Kd.C_drewN ?_ _) | (with_reducible refine Kd.C_drew ?_))); (case side2 => exact HC0_2.out); (case side3 => repeat (first | exact (Kd.C_below HR0_3.out HB.out) | (with_reducible refine Kd.C_alloc ?_ _) | (with_reducible refine Kd.C_drewN ?_ _) | (with_reducible refine Kd.C_drew ?_))); (case side4 => exact HC0_3.out); (case side5 => repeat (first | exact (Kd.C_below HR0_4.out HB.out) | (with_reducible refine Kd.C_alloc ?_ _) | (with_reducible refine Kd.C_drewN ?_ _) | (with_reducible refine Kd.C_drew ?_))); (case side6 => exact HC0_4.out); rintro e w8 ⟨rfl, hb⟩; have n0_ := Aside0.mk (blk_below (g := gb178) (o := .cells #[.string a0_0, .int .i64 a0_1, .slice A0_2 l0_2.length c0_2, .slice A0_3 l0_3.length c0_3, .slice A0_4 l0_4.length c0_4] 48 (0, 0)) (by (with_reducible repeat (first | refine blk_drewN ?_ _ | refine blk_drew ?_ | refine blk_alloc ?_ _)); exact BK178.out) hb); have n1_ := Aside0.mk (below_step (by repeat (first | (with_reducible first | exact HB.out | apply below_alloc | apply pw_below_drewN | apply below_drew1 | refine below_set ?_ GE178.out) | exact HB.out)) hb); clear BK178; clear HB; have BK178 := n0_; have HB := n1_; clear n0_ n1_; (try clear hb); (try clear hb2); (try clear hk); (try clear hi)))
     go_meet
     case rel => exact ⟨_, (t179), (by first | rfl | (simp; done) | (simp [*]; done)), H', ⟨by have := HK1.out; first | omega | exact Nat.le_refl _⟩, ⟨by (with_reducible repeat (first | refine blk_drewN ?_ _ | refine blk_drew ?_ | refine blk_alloc ?_ _)); exact BK178.out⟩, ⟨by repeat (first | (with_reducible first | exact HB.out | apply below_alloc | apply pw_below_drewN | apply below_drew1 | refine below_set ?_ GE178.out) | exact HB.out)⟩⟩
    ·rw [if_neg c5] at H
     have c5b0 : decide (x7_1 < (l0_3.length : Int)) = false := decide_eq_false c5
     clear c5
     (first | rw [c5b0] | (simp only [i64_w, i32_w]; rw [c5b0]) | skip)
     have H' := Aside0.mk H
     clear H
     have hcz9_0 : wr.cell? ⟨gb178, 0, none⟩ = some (.string a0_0) := (blk_cell BK178.out 0).trans rfl
     have hcz9_1 : wr.cell? ⟨gb178, 1, none⟩ = some (.int .i64 a0_1) := (blk_cell BK178.out 1).trans rfl
     have hcz9_2 : wr.cell? ⟨gb178, 2, none⟩ = some (.slice A0_2 l0_2.length c0_2) := (blk_cell BK178.out 2).trans rfl
     have hcz9_3 : wr.cell? ⟨gb178, 3, none⟩ = some (.slice A0_3 l0_3.length c0_3) := (blk_cell BK178.out 3).trans rfl
     have hcz9_4 : wr.cell? ⟨gb178, 4, none⟩ = some (.slice A0_4 l0_4.length c0_4) := (blk_cell BK178.out 4).trans rfl
     have hfz9_0 := blk_frozen BK178.out 0
     have hfz9_1 := blk_frozen BK178.out 1
     have hfz9_2 := blk_frozen BK178.out 2
     have hfz9_3 := blk_frozen BK178.out 3
     have hfz9_4 := blk_frozen BK178.out 4
     go_wp2
     go_meet
     case rel => exact ⟨_, (false), (by first | rfl | (simp; done) | (simp [*]; done)), H', ⟨by have := HK1.out; first | omega | exact Nat.le_refl _⟩, ⟨by (with_reducible repeat (first | refine blk_drewN ?_ _ | refine blk_drew ?_ | refine blk_alloc ?_ _)); exact BK178.out⟩, ⟨by repeat (first | (with_reducible first | exact HB.out | apply below_alloc | apply pw_below_drewN | apply below_drew1 | refine below_set ?_ GE178.out) | exact HB.out)⟩⟩
   case rest =>
    clear HC4
    (try clear c1);(try clear p2);(try clear c5);(try clear c5b0);(try clear hcz7_0);(try clear hcz7_1);(try clear hcz7_2);(try clear hcz7_3);(try clear hcz7_4);(try clear hcz9_0);(try clear hcz9_1);(try clear hcz9_2);(try clear hcz9_3);(try clear hcz9_4);(try clear hfz7_0);(try clear hfz7_1);(try clear hfz7_2);(try clear hfz7_3);(try clear hfz7_4);(try clear hfz9_0);(try clear hfz9_1);(try clear hfz9_2);(try clear hfz9_3);(try clear hfz9_4);(try clear p2)
    obtain ⟨kq, x16_3, rfl, HA, HJ3, BK178, HB⟩ := hcut
    cases kq with
    | zero => exact absurd HA.out (by simp [cutroomref18_Locate.j1])
    | succ kj3 =>
     have H := HA.out
     clear HA
     simp only [cutroomref18_Locate.j1] at H
     by_cases c10 : x16_3 = true
     ·subst c10
      have H1 : (if 0 ≤ x7_1 then (if x7_1 < (l0_3.length : Int) then (if (rd_T74 l0_3 x7_1).f3 = true then (if x5_1 ≤ a1 then (cutroomref18_Locate.l0 kj3 a1 (wrap64 (x5_1 + ((rd_T74 l0_3 x7_1).f1))) x7_1 (wrap64 (x7_1 + 1)) a0_0 a0_1 l0_2 l0_3 l0_4) else (cutroomref18_Locate.l0 kj3 a1 (wrap64 (x5_1 + ((rd_T74 l0_3 x7_1).f1))) x6_1 (wrap64 (x7_1 + 1)) a0_0 a0_1 l0_2 l0_3 l0_4)) else (cutroomref18_Locate.l0 kj3 a1 (wrap64 (x5_1 + ((rd_T74 l0_3 x7_1).f1))) x6_1 (wrap64 (x7_1 + 1)) a0_0 a0_1 l0_2 l0_3 l0_4)) else (none)) else (none)) = some r := by rw [if_pos rfl] at H; exact H
      clear H
      have H := H1
      clear H1
      by_cases c11 : 0 ≤ x7_1
      ·rw [if_pos c11] at H
       have c11b0 : decide (0 ≤ x7_1) = true := decide_eq_true c11
       clear c11
       by_cases c12 : x7_1 < (l0_3.length : Int)
       ·rw [if_pos c12] at H
        have c12b0 : decide (x7_1 < (l0_3.length : Int)) = true := decide_eq_true c12
        clear c12
        obtain ⟨bq13, hbq13⟩ : ∃ b_ : Bool, b_ = ((rd_T74 l0_3 x7_1).f3) := ⟨_, rfl⟩
        replace H : (if bq13 = true then (if x5_1 ≤ a1 then (cutroomref18_Locate.l0 kj3 a1 (wrap64 (x5_1 + ((rd_T74 l0_3 x7_1).f1))) x7_1 (wrap64 (x7_1 + 1)) a0_0 a0_1 l0_2 l0_3 l0_4) else (cutroomref18_Locate.l0 kj3 a1 (wrap64 (x5_1 + ((rd_T74 l0_3 x7_1).f1))) x6_1 (wrap64 (x7_1 + 1)) a0_0 a0_1 l0_2 l0_3 l0_4)) else (cutroomref18_Locate.l0 kj3 a1 (wrap64 (x5_1 + ((rd_T74 l0_3 x7_1).f1))) x6_1 (wrap64 (x7_1 + 1)) a0_0 a0_1 l0_2 l0_3 l0_4)) = some r := by rw [← hbq13] at H; exact H
        have Nbq13 := Aside0.mk hbq13
        clear hbq13
        by_cases c14 : bq13 = true
        ·subst c14
         have H1 : (if x5_1 ≤ a1 then (cutroomref18_Locate.l0 kj3 a1 (wrap64 (x5_1 + ((rd_T74 l0_3 x7_1).f1))) x7_1 (wrap64 (x7_1 + 1)) a0_0 a0_1 l0_2 l0_3 l0_4) else (cutroomref18_Locate.l0 kj3 a1 (wrap64 (x5_1 + ((rd_T74 l0_3 x7_1).f1))) x6_1 (wrap64 (x7_1 + 1)) a0_0 a0_1 l0_2 l0_3 l0_4)) = some r := by rw [if_pos rfl] at H; exact H
         clear H
         have H := H1
         clear H1
         by_cases c15 : x5_1 ≤ a1
         ·rw [if_pos c15] at H
          have c15b0 : decide (x5_1 ≤ a1) = true := decide_eq_true c15
          clear c15
          have H' := Aside0.mk H
          clear H
          have hcz16_0 : wc.cell? ⟨gb178, 0, none⟩ = some (.string a0_0) := (blk_cell BK178.out 0).trans rfl
          have hcz16_1 : wc.cell? ⟨gb178, 1, none⟩ = some (.int .i64 a0_1) := (blk_cell BK178.out 1).trans rfl
          have hcz16_2 : wc.cell? ⟨gb178, 2, none⟩ = some (.slice A0_2 l0_2.length c0_2) := (blk_cell BK178.out 2).trans rfl
          have hcz16_3 : wc.cell? ⟨gb178, 3, none⟩ = some (.slice A0_3 l0_3.length c0_3) := (blk_cell BK178.out 3).trans rfl
          have hcz16_4 : wc.cell? ⟨gb178, 4, none⟩ = some (.slice A0_4 l0_4.length c0_4) := (blk_cell BK178.out 4).trans rfl
          have hfz16_0 := blk_frozen BK178.out 0
          have hfz16_1 := blk_frozen BK178.out 1
          have hfz16_2 := blk_frozen BK178.out 2
          have hfz16_3 := blk_frozen BK178.out 3
          have hfz16_4 := blk_frozen BK178.out 4
          have p180 : 0 ≤ (x7_1 : Int) := of_decide_eq_true (by first | (with_reducible assumption) | assumption)
          have q180 : x7_1 < (l0_3.length : Int) := of_decide_eq_true (by first | (with_reducible assumption) | assumption)
          obtain ⟨ad180, A180_0, c180_0, e180, hx180_0, hx180_1, hx180_2, hx180_3, hl180_0, hi180_0⟩ := at_T74 HR0_3.out x7_1 p180 q180
          (try rw [← Nbq13.out] at hx180_3)
          cases e180
          replace hx180_0 := (HB.out.cell (World.block_lt_of_cell? w _ hx180_0)).trans hx180_0
          replace hx180_1 := (HB.out.cell (World.block_lt_of_cell? w _ hx180_1)).trans hx180_1
          replace hx180_2 := (HB.out.cell (World.block_lt_of_cell? w _ hx180_2)).trans hx180_2
          replace hx180_3 := (HB.out.cell (World.block_lt_of_cell? w _ hx180_3)).trans hx180_3
          have HR180_0 := Aside0.mk hi180_0
          have HC180_0 := Aside0.mk hl180_0
          clear hi180_0 hl180_0
          replace p180 := eq_true p180
          replace q180 := eq_true q180
          have p181 : 0 ≤ (x7_1 : Int) := of_decide_eq_true (by first | (with_reducible assumption) | assumption)
          have q181 : x7_1 < (l0_3.length : Int) := of_decide_eq_true (by first | (with_reducible assumption) | assumption)
          obtain ⟨ad181, A181_0, c181_0, e181, hx181_0, hx181_1, hx181_2, hx181_3, hl181_0, hi181_0⟩ := at_T74 HR0_3.out x7_1 p181 q181
          (try rw [← Nbq13.out] at hx181_3)
          obtain rfl : ad180 = ad181 := (by injection e181)
          replace hx181_0 := (HB.out.cell (World.block_lt_of_cell? w _ hx181_0)).trans hx181_0
          replace hx181_1 := (HB.out.cell (World.block_lt_of_cell? w _ hx181_1)).trans hx181_1
          replace hx181_2 := (HB.out.cell (World.block_lt_of_cell? w _ hx181_2)).trans hx181_2
          replace hx181_3 := (HB.out.cell (World.block_lt_of_cell? w _ hx181_3)).trans hx181_3
          have HR181_0 := Aside0.mk hi181_0
          have HC181_0 := Aside0.mk hl181_0
          clear hi181_0 hl181_0
          replace p181 := eq_true p181
          replace q181 := eq_true q181
          have ea_ := Option.some.inj (hx180_0.symm.trans hx181_0)
          injection ea_ with ea_ en_ ec_
          subst ea_
          subst ec_
          clear en_
          go_wp2
          go_roundg kj3
          case measure => have := HK1.out; have := HJ3.out; omega
          case rel => exact ⟨(wrap64 (x5_1 + ((rd_T74 l0_3 x7_1).f1))), (x7_1), (wrap64 (x7_1 + 1)), (by first | rfl | (simp; done) | (simp [*]; done)), (by first | rfl | (simp; done) | (simp [*]; done)), (by first | rfl | (simp; done) | (simp [*]; done)), H', ⟨by have := HK1.out; have := HJ3.out; omega⟩, ⟨by (with_reducible repeat (first | refine blk_drewN ?_ _ | refine blk_drew ?_ | refine blk_alloc ?_ _)); exact BK178.out⟩, ⟨by repeat (first | (with_reducible first | exact HB.out | apply below_alloc | apply pw_below_drewN | apply below_drew1 | refine below_set ?_ GE178.out) | exact HB.out)⟩⟩
         ·rw [if_neg c15] at H
          have c15b0 : decide (x5_1 ≤ a1) = false := decide_eq_false c15
          clear c15
          have H' := Aside0.mk H
          clear H
          have hcz17_0 : wc.cell? ⟨gb178, 0, none⟩ = some (.string a0_0) := (blk_cell BK178.out 0).trans rfl
          have hcz17_1 : wc.cell? ⟨gb178, 1, none⟩ = some (.int .i64 a0_1) := (blk_cell BK178.out 1).trans rfl
          have hcz17_2 : wc.cell? ⟨gb178, 2, none⟩ = some (.slice A0_2 l0_2.length c0_2) := (blk_cell BK178.out 2).trans rfl
          have hcz17_3 : wc.cell? ⟨gb178, 3, none⟩ = some (.slice A0_3 l0_3.length c0_3) := (blk_cell BK178.out 3).trans rfl
          have hcz17_4 : wc.cell? ⟨gb178, 4, none⟩ = some (.slice A0_4 l0_4.length c0_4) := (blk_cell BK178.out 4).trans rfl
          have hfz17_0 := blk_frozen BK178.out 0
          have hfz17_1 := blk_frozen BK178.out 1
          have hfz17_2 := blk_frozen BK178.out 2
          have hfz17_3 := blk_frozen BK178.out 3
          have hfz17_4 := blk_frozen BK178.out 4
          have p180 : 0 ≤ (x7_1 : Int) := of_decide_eq_true (by first | (with_reducible assumption) | assumption)
          have q180 : x7_1 < (l0_3.length : Int) := of_decide_eq_true (by first | (with_reducible assumption) | assumption)
          obtain ⟨ad180, A180_0, c180_0, e180, hx180_0, hx180_1, hx180_2, hx180_3, hl180_0, hi180_0⟩ := at_T74 HR0_3.out x7_1 p180 q180
          (try rw [← Nbq13.out] at hx180_3)
          cases e180
          replace hx180_0 := (HB.out.cell (World.block_lt_of_cell? w _ hx180_0)).trans hx180_0
          replace hx180_1 := (HB.out.cell (World.block_lt_of_cell? w _ hx180_1)).trans hx180_1
          replace hx180_2 := (HB.out.cell (World.block_lt_of_cell? w _ hx180_2)).trans hx180_2
          replace hx180_3 := (HB.out.cell (World.block_lt_of_cell? w _ hx180_3)).trans hx180_3
          have HR180_0 := Aside0.mk hi180_0
          have HC180_0 := Aside0.mk hl180_0
          clear hi180_0 hl180_0
          replace p180 := eq_true p180
          replace q180 := eq_true q180
          have p182 : 0 ≤ (x7_1 : Int) := of_decide_eq_true (by first | (with_reducible assumption) | assumption)
          have q182 : x7_1 < (l0_3.length : Int) := of_decide_eq_true (by first | (with_reducible assumption) | assumption)
          obtain ⟨ad182, A182_0, c182_0, e182, hx182_0, hx182_1, hx182_2, hx182_3, hl182_0, hi182_0⟩ := at_T74 HR0_3.out x7_1 p182 q182
          (try rw [← Nbq13.out] at hx182_3)
          obtain rfl : ad180 = ad182 := (by injection e182)
          replace hx182_0 := (HB.out.cell (World.block_lt_of_cell? w _ hx182_0)).trans hx182_0
          replace hx182_1 := (HB.out.cell (World.block_lt_of_cell? w _ hx182_1)).trans hx182_1
          replace hx182_2 := (HB.out.cell (World.block_lt_of_cell? w _ hx182_2)).trans hx182_2
          replace hx182_3 := (HB.out.cell (World.block_lt_of_cell? w _ hx182_3)).trans hx182_3
          have HR182_0 := Aside0.mk hi182_0
          have HC182_0 := Aside0.mk hl182_0
          clear hi182_0 hl182_0
          replace p182 := eq_true p182
          replace q182 := eq_true q182
          have ea_ := Option.some.inj (hx180_0.symm.trans hx182_0)
          injection ea_ with ea_ en_ ec_
          subst ea_
          subst ec_
          clear en_
          go_wp2
          go_roundg kj3
          case measure => have := HK1.out; have := HJ3.out; omega
          case rel => exact ⟨(wrap64 (x5_1 + ((rd_T74 l0_3 x7_1).f1))), (x6_1), (wrap64 (x7_1 + 1)), (by first | rfl | (simp; done) | (simp [*]; done)), (by first | rfl | (simp; done) | (simp [*]; done)), (by first | rfl | (simp; done) | (simp [*]; done)), H', ⟨by have := HK1.out; have := HJ3.out; omega⟩, ⟨by (with_reducible repeat (first | refine blk_drewN ?_ _ | refine blk_drew ?_ | refine blk_alloc ?_ _)); exact BK178.out⟩, ⟨by repeat (first | (with_reducible first | exact HB.out | apply below_alloc | apply pw_below_drewN | apply below_drew1 | refine below_set ?_ GE178.out) | exact HB.out)⟩⟩
        ·replace c14 := Bool.eq_false_iff.mpr c14
         subst c14
         have H1 : (cutroomref18_Locate.l0 kj3 a1 (wrap64 (x5_1 + ((rd_T74 l0_3 x7_1).f1))) x6_1 (wrap64 (x7_1 + 1)) a0_0 a0_1 l0_2 l0_3 l0_4) = some r := by rw [if_neg (show ¬ (false = true) by decide)] at H; exact H
         clear H
         have H := H1
         clear H1
         have H' := Aside0.mk H
         clear H
         have hcz18_0 : wc.cell? ⟨gb178, 0, none⟩ = some (.string a0_0) := (blk_cell BK178.out 0).trans rfl
         have hcz18_1 : wc.cell? ⟨gb178, 1, none⟩ = some (.int .i64 a0_1) := (blk_cell BK178.out 1).trans rfl
         have hcz18_2 : wc.cell? ⟨gb178, 2, none⟩ = some (.slice A0_2 l0_2.length c0_2) := (blk_cell BK178.out 2).trans rfl
         have hcz18_3 : wc.cell? ⟨gb178, 3, none⟩ = some (.slice A0_3 l0_3.length c0_3) := (blk_cell BK178.out 3).trans rfl
         have hcz18_4 : wc.cell? ⟨gb178, 4, none⟩ = some (.slice A0_4 l0_4.length c0_4) := (blk_cell BK178.out 4).trans rfl
         have hfz18_0 := blk_frozen BK178.out 0
         have hfz18_1 := blk_frozen BK178.out 1
         have hfz18_2 := blk_frozen BK178.out 2
         have hfz18_3 := blk_frozen BK178.out 3
         have hfz18_4 := blk_frozen BK178.out 4
         have p180 : 0 ≤ (x7_1 : Int) := of_decide_eq_true (by first | (with_reducible assumption) | assumption)
         have q180 : x7_1 < (l0_3.length : Int) := of_decide_eq_true (by first | (with_reducible assumption) | assumption)
         obtain ⟨ad180, A180_0, c180_0, e180, hx180_0, hx180_1, hx180_2, hx180_3, hl180_0, hi180_0⟩ := at_T74 HR0_3.out x7_1 p180 q180
         (try rw [← Nbq13.out] at hx180_3)
         cases e180
         replace hx180_0 := (HB.out.cell (World.block_lt_of_cell? w _ hx180_0)).trans hx180_0
         replace hx180_1 := (HB.out.cell (World.block_lt_of_cell? w _ hx180_1)).trans hx180_1
         replace hx180_2 := (HB.out.cell (World.block_lt_of_cell? w _ hx180_2)).trans hx180_2
         replace hx180_3 := (HB.out.cell (World.block_lt_of_cell? w _ hx180_3)).trans hx180_3
         have HR180_0 := Aside0.mk hi180_0
         have HC180_0 := Aside0.mk hl180_0
         clear hi180_0 hl180_0
         replace p180 := eq_true p180
         replace q180 := eq_true q180
         have p183 : 0 ≤ (x7_1 : Int) := of_decide_eq_true (by first | (with_reducible assumption) | assumption)
         have q183 : x7_1 < (l0_3.length : Int) := of_decide_eq_true (by first | (with_reducible assumption) | assumption)
         obtain ⟨ad183, A183_0, c183_0, e183, hx183_0, hx183_1, hx183_2, hx183_3, hl183_0, hi183_0⟩ := at_T74 HR0_3.out x7_1 p183 q183
         (try rw [← Nbq13.out] at hx183_3)
         obtain rfl : ad180 = ad183 := (by injection e183)
         replace hx183_0 := (HB.out.cell (World.block_lt_of_cell? w _ hx183_0)).trans hx183_0
         replace hx183_1 := (HB.out.cell (World.block_lt_of_cell? w _ hx183_1)).trans hx183_1
         replace hx183_2 := (HB.out.cell (World.block_lt_of_cell? w _ hx183_2)).trans hx183_2
         replace hx183_3 := (HB.out.cell (World.block_lt_of_cell? w _ hx183_3)).trans hx183_3
         have HR183_0 := Aside0.mk hi183_0
         have HC183_0 := Aside0.mk hl183_0
         clear hi183_0 hl183_0
         replace p183 := eq_true p183
         replace q183 := eq_true q183
         have ea_ := Option.some.inj (hx180_0.symm.trans hx183_0)
         injection ea_ with ea_ en_ ec_
         subst ea_
         subst ec_
         clear en_
         go_wp2
         go_roundg kj3
         case measure => have := HK1.out; have := HJ3.out; omega
         case rel => exact ⟨(wrap64 (x5_1 + ((rd_T74 l0_3 x7_1).f1))), (x6_1), (wrap64 (x7_1 + 1)), (by first | rfl | (simp; done) | (simp [*]; done)), (by first | rfl | (simp; done) | (simp [*]; done)), (by first | rfl | (simp; done) | (simp [*]; done)), H', ⟨by have := HK1.out; have := HJ3.out; omega⟩, ⟨by (with_reducible repeat (first | refine blk_drewN ?_ _ | refine blk_drew ?_ | refine blk_alloc ?_ _)); exact BK178.out⟩, ⟨by repeat (first | (with_reducible first | exact HB.out | apply below_alloc | apply pw_below_drewN | apply below_drew1 | refine below_set ?_ GE178.out) | exact HB.out)⟩⟩
       ·rw [if_neg c12] at H
        exact absurd H (by simp)
      ·rw [if_neg c11] at H
       exact absurd H (by simp)
     ·replace c10 := Bool.eq_false_iff.mpr c10
      subst c10
      have H1 : (some x6_1) = some r := by rw [if_neg (show ¬ (false = true) by decide)] at H; exact H
      clear H
      have H := H1
      clear H1
      obtain rfl := Option.some.inj H
      go_wp2
      go_ret
      exact ⟨by first | rfl | (simp [errW_none, errW_some] <;> rfl) | (simp [*, errW_none, errW_some] <;> rfl), by repeat (first | (with_reducible first | exact HB.out | apply below_alloc | apply pw_below_drewN | apply below_drew1 | refine below_set ?_ GE178.out) | exact HB.out)⟩

end Go.Proofs.Ytbpmkcgpgdbbkaa.P
