-- Written by this session's own program (wip/tools/myprint.py), which runs the kit's print with turns of its own: not a text of the kit's print.sh.
import Derived.Test.YtcofjbbflcnaaaaPx0
namespace Go.Proofs.Ytcofjbbflcnaaaa.P
open Go.RowKit Go.Proofs.YtcofjbbflcnaaaaW.PrintWords Go.Proofs.YtcofjbbflcnaaaaW.PrintLast Go.Proofs.YtcofjbbflcnaaaaW.PrintMore
open List renaming setIfInBounds_toArray → sA, set_cons_zero → sZ, set_cons_succ → sS
open Bool renaming true → T', false → F'
open Go.Proofs.YtcofjbbflcnaaaaW.PrintWords renaming below_alloc → zA, pw_below_drewN → zN, below_drew1 → zD, blk_drewN → yN, blk_drew → yD, blk_alloc → yA, below_size → zS, below_step → zT, blk_below → yB, below_set → zP, cell_far → xF, add_block → xB, gate_callee → xC, gate_dst → xD
attribute [local go_sem] max2_int min2_int max_two min_two max_three min_three max_four min_four   -- for this text's walks alone
set_option linter.unusedVariables false
set_option linter.unusedSimpArgs false

/-! ### cadence_named: function 63 -/
def cadence_named.f (a0 : Int) : Option (Bool) := if a0 ≥ 0 then (some (decide (a0 < 256))) else (some false)
set_option maxHeartbeats 8000000 in
set_option maxRecDepth 100000 in
theorem cadence_named.calls (a0 : Int) (r : Bool) (w : World) (h : cadence_named.f a0 = some r) :
    Calls Try.prog 63 #[.int .i64 a0] w fun e w' => e = .returned (.bool r) ∧ Drawn0 w w' := by
  have H : (if a0 ≥ 0 then (some (decide (a0 < 256))) else (some false)) = some r := h
  clear h
  by_cases c2 : a0 ≥ 0
  · rw [if_pos c2] at H
    have c2b0 : decide (0 ≤ a0) = true := decide_eq_true c2
    clear c2
    obtain rfl := Option.some.inj H
    go_enter Try.func63, Try.ntmps63
    go_wp2
    go_ret
    exact ⟨by first | rfl | (simp; done) | (simp [*]; done), by repeat (first | exact Drawn0.refl _ | apply Drawn0.step)⟩
  · rw [if_neg c2] at H
    have c2b0 : decide (0 ≤ a0) = false := decide_eq_false c2
    clear c2
    obtain rfl := Option.some.inj H
    go_enter Try.func63, Try.ntmps63
    go_wp2
    go_ret
    exact ⟨by first | rfl | (simp; done) | (simp [*]; done), by repeat (first | exact Drawn0.refl _ | apply Drawn0.step)⟩

/-! ### cadence_find: function 64 -/
mutual
def cadence_find.l0 : Nat → Int → Int → Int → List (S43) → Int → Int → Option (Int × Int)
 | 0, _, _, _, _, _, _ => none
 | k + 1, x1, x6, x7, x10, x11, x12 => if x12 < x11 then (if 0 ≤ x12 then (if x12 < (x10.length : Int) then (if ((rd_T43 x10 x12).f0) = x1 then (cadence_find.j1 k x1 x6 x7 x12 x10 x11 x12 (decide (x6 < 0)) ((rd_T43 x10 x12).f0) ((rd_T43 x10 x12).f1)) else (cadence_find.j1 k x1 x6 x7 x12 x10 x11 x12 false ((rd_T43 x10 x12).f0) ((rd_T43 x10 x12).f1))) else (none)) else (none)) else (some (x6, x7))
def cadence_find.j1 : Nat → Int → Int → Int → Int → List (S43) → Int → Int → Bool → Int → Int → Option (Int × Int)
 | 0, _, _, _, _, _, _, _, _, _, _ => none
 | k + 1, x1, x6, x7, x8, x10, x11, x12, x24, x306000, x306001 => if x24 = true then (if x306001 = x1 then (if x7 < 0 then (cadence_find.l0 k x1 x8 x8 x10 x11 (wrap64 (x12 + 1))) else (cadence_find.l0 k x1 x8 x7 x10 x11 (wrap64 (x12 + 1)))) else (cadence_find.l0 k x1 x8 x7 x10 x11 (wrap64 (x12 + 1)))) else (if x306001 = x1 then (if x7 < 0 then (cadence_find.l0 k x1 x6 x8 x10 x11 (wrap64 (x12 + 1))) else (cadence_find.l0 k x1 x6 x7 x10 x11 (wrap64 (x12 + 1)))) else (cadence_find.l0 k x1 x6 x7 x10 x11 (wrap64 (x12 + 1))))
end
def cadence_find.f (k : Nat) (l0 : List (S43)) (a1 : Int) : Option (Int × Int) := cadence_find.l0 k a1 (-1) (-1) l0 (l0.length : Int) 0
theorem cadence_find.mono_l : ∀ k, (∀ y0 y1 y2 y3 y4 y5, LeO (cadence_find.l0 k y0 y1 y2 y3 y4 y5) (cadence_find.l0 (k + 1) y0 y1 y2 y3 y4 y5)) ∧ (∀ y0 y1 y2 y3 y4 y5 y6 y7 y8 y9, LeO (cadence_find.j1 k y0 y1 y2 y3 y4 y5 y6 y7 y8 y9) (cadence_find.j1 (k + 1) y0 y1 y2 y3 y4 y5 y6 y7 y8 y9))
 | 0 => ⟨fun _ _ _ _ _ _ r h => by simp [cadence_find.l0] at h, fun _ _ _ _ _ _ _ _ _ _ r h => by simp [cadence_find.j1] at h⟩
 | k + 1 => by
  obtain ⟨ih0, ih1⟩ := cadence_find.mono_l k
  refine ⟨?_, ?_⟩
  ·intro y0 y1 y2 y3 y4 y5
   unfold cadence_find.l0
   repeat' first
   | (with_reducible exact ih0 _ _ _ _ _ _)
   | (with_reducible exact ih1 _ _ _ _ _ _ _ _ _ _)
   | (with_reducible exact LeO.refl _)
   | (with_reducible exact LeO.none _)
   | (with_reducible refine LeO.ite ?_ ?_)
   | (with_reducible refine LeO.bind ?_ (fun _ => ?_))
   | exact ih0 _ _ _ _ _ _
   | exact ih1 _ _ _ _ _ _ _ _ _ _
   | exact LeO.none _
   | refine LeO.ite ?_ ?_
   | refine LeO.bind ?_ (fun _ => ?_)
  ·intro y0 y1 y2 y3 y4 y5 y6 y7 y8 y9
   unfold cadence_find.j1
   repeat' first
   | (with_reducible exact ih0 _ _ _ _ _ _)
   | (with_reducible exact ih1 _ _ _ _ _ _ _ _ _ _)
   | (with_reducible exact LeO.refl _)
   | (with_reducible exact LeO.none _)
   | (with_reducible refine LeO.ite ?_ ?_)
   | (with_reducible refine LeO.bind ?_ (fun _ => ?_))
   | exact ih0 _ _ _ _ _ _
   | exact ih1 _ _ _ _ _ _ _ _ _ _
   | exact LeO.none _
   | refine LeO.ite ?_ ?_
   | refine LeO.bind ?_ (fun _ => ?_)
theorem cadence_find.mono : ∀ a0 a1 k, LeO (cadence_find.f k a0 a1) (cadence_find.f (k + 1) a0 a1) := by
 intro a0 a1 k
 obtain ⟨ih0, ih1⟩ := cadence_find.mono_l k
 unfold cadence_find.f
 repeat' first
   | (with_reducible exact ih0 _ _ _ _ _ _)
   | (with_reducible exact ih1 _ _ _ _ _ _ _ _ _ _)
   | (with_reducible exact LeO.refl _)
   | (with_reducible exact LeO.none _)
   | (with_reducible refine LeO.ite ?_ ?_)
   | (with_reducible refine LeO.bind ?_ (fun _ => ?_))
   | exact ih0 _ _ _ _ _ _
   | exact ih1 _ _ _ _ _ _ _ _ _ _
   | exact LeO.none _
   | refine LeO.ite ?_ ?_
   | refine LeO.bind ?_ (fun _ => ?_)
set_option maxHeartbeats 8000000 in
set_option maxRecDepth 100000 in
theorem cadence_find.calls (k : Nat) (A0 : Option Addr) (c0 : Nat) (l0 : List (S43)) (a1 : Int) (r1 : Int) (r2 : Int) (w : World) (hr0 : Kd.C k43 w A0 l0.length l0) (hc0 : l0.length ≤ c0) (h : cadence_find.f k l0 a1 = some (r1, r2)) :
  Calls Try.prog 64 #[.slice A0 l0.length c0, .int .i64 a1] w fun e w' => e = .returned (.tuple #[.int .i64 r1, .int .i64 r2]) ∧ Below w.heap.size w w' := by
 have hu43 := Try.underlying43
 have HR0 := Aside0.mk hr0
 have HC0 := Aside0.mk hc0
 clear hr0 hc0
 have HB := Aside0.mk (Below.refl w.heap.size w)
 have H : (cadence_find.l0 k a1 (-1) (-1) l0 (l0.length : Int) 0) = some (r1, r2) := h
 clear h
 have H' := Aside0.mk H
 clear H
 go_enter Try.func64, Try.ntmps64
 go_wp2
 go_loopg [6, 7, 12] k (fun kq v6 v7 v12 w' => ∃ (x6_1 : Int) (x7_1 : Int) (x12_1 : Int), v6 = .int .i64 x6_1 ∧ v7 = .int .i64 x7_1 ∧ v12 = .int .i64 x12_1 ∧ Aside0 (cadence_find.l0 kq a1 x6_1 x7_1 l0 (l0.length : Int) x12_1 = some (r1, r2)) ∧ Aside0 (kq ≤ k) ∧ Aside0 (Below w.heap.size w w'))
 case atStart => exact ⟨((-1)), ((-1)), (0), (by first | rfl | (simp; done) | (simp [*]; done)), (by first | rfl | (simp; done) | (simp [*]; done)), (by first | rfl | (simp; done) | (simp [*]; done)), H', ⟨Nat.le_refl _⟩, ⟨by repeat (first | (with_reducible first | exact HB.out | apply zA | apply zN | apply zD) | exact HB.out)⟩⟩
 case round =>
  clear H'
  (try clear p2)
  obtain ⟨x6_1, x7_1, x12_1, rfl, rfl, rfl, HA, HK1, HB⟩ := hrel
  cases gk with
  | zero => exact absurd HA.out (by simp [cadence_find.l0])
  | succ k1 =>
   have H := HA.out
   clear HA
   simp only [cadence_find.l0] at H
   by_cases c3 : x12_1 < (l0.length : Int)
   ·rw [if_pos c3] at H
    have c3b0 : decide (x12_1 < (l0.length : Int)) = true := decide_eq_true c3
    clear c3
    by_cases c4 : 0 ≤ x12_1
    ·rw [if_pos c4] at H
     have c4b0 : decide (0 ≤ x12_1) = true := decide_eq_true c4
     clear c4
     by_cases c5 : x12_1 < (l0.length : Int)
     ·rw [if_pos c5] at H
      have c5b0 : decide (x12_1 < (l0.length : Int)) = true := decide_eq_true c5
      clear c5
      have HC6 := Aside0.mk H
      clear H
      have p304 : 0 ≤ (x12_1 : Int) := of_decide_eq_true (by first | (with_reducible assumption) | assumption)
      have q304 : x12_1 < (l0.length : Int) := of_decide_eq_true (by first | (with_reducible assumption) | assumption)
      obtain ⟨ad304, e304, hx304_0, hx304_1⟩ := at_T43 HR0.out x12_1 p304 q304
      cases e304
      replace hx304_0 := (HB.out.cell (World.block_lt_of_cell? w _ hx304_0)).trans hx304_0
      replace hx304_1 := (HB.out.cell (World.block_lt_of_cell? w _ hx304_1)).trans hx304_1
      replace p304 := eq_true p304
      replace q304 := eq_true q304
      go_upto_region 5 with (first | ((with_reducible refine xD (N := 9) rfl ?_); refine box_event ?hg (N := 9) ?hd (cs := #[.int .i64 0, .int .i64 0]) (t := 43) ?hr ?_; (case hd => rfl); (case hg => rfl); (case hr => first | (go_simp; done) | (go_simp; rfl)); intro gb305 hg w7 hbox hb; have n0_ := Aside0.mk (zT (by repeat (first | (with_reducible first | exact HB.out | apply zA | apply zN | apply zD) | exact HB.out)) hb); have n1_ := Aside0.mk (hbox); have n2_ := Aside0.mk ((by rw [hg]; exact (zS (by repeat (first | (with_reducible first | exact HB.out | apply zA | apply zN | apply zD) | exact HB.out))) : w.heap.size ≤ gb305)); have n3_ := n2_; clear HB; have HB := n0_; have BK305 := n1_; have GW305 := n2_; have GE305 := n3_; clear n0_ n1_ n2_ n3_; clear hb hbox hg; have hcz8_0 : w7.cell? ⟨gb305, 0, none⟩ = some (.int .i64 0) := (blk_cell BK305.out 0).trans rfl; have hcz8_1 : w7.cell? ⟨gb305, 1, none⟩ = some (.int .i64 0) := (blk_cell BK305.out 1).trans rfl; have hfz8_0 := blk_frozen BK305.out 0; have hfz8_1 := blk_frozen BK305.out 1))
      (try simp only [Act.put, sA, sZ, sS])
      go_cut [24] (fun v24 wc => ∃ (kq : Nat) (x24_5 : Bool), v24 = .bool x24_5 ∧ Aside0 (cadence_find.j1 kq a1 x6_1 x7_1 x12_1 l0 (l0.length : Int) x12_1 x24_5 ((rd_T43 l0 x12_1).f0) ((rd_T43 l0 x12_1).f1) = some (r1, r2)) ∧ Aside0 (kq ≤ k1) ∧ Aside0 (wc.heap[gb305]? = some (.cells #[.int .i64 ((rd_T43 l0 x12_1).f0), .int .i64 ((rd_T43 l0 x12_1).f1)] 43 (0, 0))) ∧ Aside0 (Below w.heap.size w wc))
      case first =>
       have H := HC6.out
       clear HC6
       by_cases c9 : ((rd_T43 l0 x12_1).f0) = a1
       ·rw [if_pos c9] at H
        have c9b0 : (((rd_T43 l0 x12_1).f0) == a1) = true := beq_iff_eq.mpr c9
        have c9b1 : (((rd_T43 l0 x12_1).f0) != a1) = false := bne_eq_false_iff_eq.mpr c9
        clear c9
        (first | rw [c9b0] | (simp only [i64_w, i32_w]; rw [c9b0]) | skip)
        have H' := Aside0.mk H
        clear H
        have hcz10_0 : w7.cell? ⟨gb305, 0, none⟩ = some (.int .i64 0) := (blk_cell BK305.out 0).trans rfl
        have hcz10_1 : w7.cell? ⟨gb305, 1, none⟩ = some (.int .i64 0) := (blk_cell BK305.out 1).trans rfl
        have hfz10_0 := blk_frozen BK305.out 0
        have hfz10_1 := blk_frozen BK305.out 1
        go_wp2
        go_meet
        case rel => exact ⟨_, (decide (x6_1 < 0)), (by first | rfl | (simp; done) | (simp [*]; done)), H', ⟨by have := HK1.out; first | omega | exact Nat.le_refl _⟩, ⟨by (with_reducible repeat (first | refine yN ?_ _ | refine yD ?_ | refine yA ?_ _)); refine blk_put (cs := #[.int .i64 ((rd_T43 l0 x12_1).f0), .int .i64 0]) ?_ 1 _ rfl; (with_reducible repeat (first | refine yN ?_ _ | refine yD ?_ | refine yA ?_ _)); refine blk_put (cs := #[.int .i64 0, .int .i64 0]) ?_ 0 _ rfl; (with_reducible repeat (first | refine yN ?_ _ | refine yD ?_ | refine yA ?_ _)); exact BK305.out⟩, ⟨by repeat (first | (with_reducible first | exact HB.out | apply zA | apply zN | apply zD | refine zP ?_ GE305.out) | exact HB.out)⟩⟩
       ·rw [if_neg c9] at H
        have c9b0 : (((rd_T43 l0 x12_1).f0) == a1) = false := beq_eq_false_iff_ne.mpr c9
        have c9b1 : (((rd_T43 l0 x12_1).f0) != a1) = true := bne_iff_ne.mpr c9
        (first | rw [c9b0] | (simp only [i64_w, i32_w]; rw [c9b0]) | skip)
        have H' := Aside0.mk H
        clear H
        have hcz11_0 : w7.cell? ⟨gb305, 0, none⟩ = some (.int .i64 0) := (blk_cell BK305.out 0).trans rfl
        have hcz11_1 : w7.cell? ⟨gb305, 1, none⟩ = some (.int .i64 0) := (blk_cell BK305.out 1).trans rfl
        have hfz11_0 := blk_frozen BK305.out 0
        have hfz11_1 := blk_frozen BK305.out 1
        go_wp2
        go_meet
        case rel => exact ⟨_, (false), (by first | rfl | (simp; done) | (simp [*]; done)), H', ⟨by have := HK1.out; first | omega | exact Nat.le_refl _⟩, ⟨by (with_reducible repeat (first | refine yN ?_ _ | refine yD ?_ | refine yA ?_ _)); refine blk_put (cs := #[.int .i64 ((rd_T43 l0 x12_1).f0), .int .i64 0]) ?_ 1 _ rfl; (with_reducible repeat (first | refine yN ?_ _ | refine yD ?_ | refine yA ?_ _)); refine blk_put (cs := #[.int .i64 0, .int .i64 0]) ?_ 0 _ rfl; (with_reducible repeat (first | refine yN ?_ _ | refine yD ?_ | refine yA ?_ _)); exact BK305.out⟩, ⟨by repeat (first | (with_reducible first | exact HB.out | apply zA | apply zN | apply zD | refine zP ?_ GE305.out) | exact HB.out)⟩⟩
      case rest =>
       clear HC6
       (try clear p2);(try clear c3);(try clear c3b0);(try clear p3);(try clear q3);(try clear hx3);(try clear c4);(try clear c4b0);(try clear c5);(try clear c5b0);(try clear c6);(try clear c9);(try clear c9b0);(try clear c9b1);(try clear hcz10_0);(try clear hcz10_1);(try clear hcz11_0);(try clear hcz11_1);(try clear hcz8_0);(try clear hcz8_1);(try clear hfz10_0);(try clear hfz10_1);(try clear hfz11_0);(try clear hfz11_1);(try clear hfz8_0);(try clear hfz8_1);(try clear hx304_0);(try clear hx304_1);(try clear p2);(try clear p304);(try clear q304)
       obtain ⟨kq, x24_5, rfl, HA, HJ5, BK305, HB⟩ := hcut
       cases kq with
       | zero => exact absurd HA.out (by simp [cadence_find.j1])
       | succ kj5 =>
        have H := HA.out
        clear HA
        simp only [cadence_find.j1] at H
        by_cases c12 : x24_5 = true
        ·subst c12
         have H1 : (if ((rd_T43 l0 x12_1).f1) = a1 then (if x7_1 < 0 then (cadence_find.l0 kj5 a1 x12_1 x12_1 l0 (l0.length : Int) (wrap64 (x12_1 + 1))) else (cadence_find.l0 kj5 a1 x12_1 x7_1 l0 (l0.length : Int) (wrap64 (x12_1 + 1)))) else (cadence_find.l0 kj5 a1 x12_1 x7_1 l0 (l0.length : Int) (wrap64 (x12_1 + 1)))) = some (r1, r2) := by rw [if_pos rfl] at H; exact H
         clear H
         have H := H1
         clear H1
         by_cases c13 : ((rd_T43 l0 x12_1).f1) = a1
         ·rw [if_pos c13] at H
          have c13b0 : (((rd_T43 l0 x12_1).f1) == a1) = true := beq_iff_eq.mpr c13
          have c13b1 : (((rd_T43 l0 x12_1).f1) != a1) = false := bne_eq_false_iff_eq.mpr c13
          clear c13
          by_cases c14 : x7_1 < 0
          ·rw [if_pos c14] at H
           have c14b0 : decide (x7_1 < 0) = true := decide_eq_true c14
           clear c14
           have H' := Aside0.mk H
           clear H
           have hcz15_0 : wc.cell? ⟨gb305, 0, none⟩ = some (.int .i64 ((rd_T43 l0 x12_1).f0)) := (blk_cell BK305.out 0).trans rfl
           have hcz15_1 : wc.cell? ⟨gb305, 1, none⟩ = some (.int .i64 ((rd_T43 l0 x12_1).f1)) := (blk_cell BK305.out 1).trans rfl
           have hfz15_0 := blk_frozen BK305.out 0
           have hfz15_1 := blk_frozen BK305.out 1
           go_wp2
           go_roundg kj5
           case measure => have := HK1.out; have := HJ5.out; omega
           case rel => exact ⟨(x12_1), (x12_1), (wrap64 (x12_1 + 1)), (by first | rfl | (simp; done) | (simp [*]; done)), (by first | rfl | (simp; done) | (simp [*]; done)), (by first | rfl | (simp; done) | (simp [*]; done)), H', ⟨by have := HK1.out; have := HJ5.out; omega⟩, ⟨by repeat (first | (with_reducible first | exact HB.out | apply zA | apply zN | apply zD | refine zP ?_ GE305.out) | exact HB.out)⟩⟩
          ·rw [if_neg c14] at H
           have c14b0 : decide (x7_1 < 0) = false := decide_eq_false c14
           clear c14
           have H' := Aside0.mk H
           clear H
           have hcz16_0 : wc.cell? ⟨gb305, 0, none⟩ = some (.int .i64 ((rd_T43 l0 x12_1).f0)) := (blk_cell BK305.out 0).trans rfl
           have hcz16_1 : wc.cell? ⟨gb305, 1, none⟩ = some (.int .i64 ((rd_T43 l0 x12_1).f1)) := (blk_cell BK305.out 1).trans rfl
           have hfz16_0 := blk_frozen BK305.out 0
           have hfz16_1 := blk_frozen BK305.out 1
           go_wp2
           go_roundg kj5
           case measure => have := HK1.out; have := HJ5.out; omega
           case rel => exact ⟨(x12_1), (x7_1), (wrap64 (x12_1 + 1)), (by first | rfl | (simp; done) | (simp [*]; done)), (by first | rfl | (simp; done) | (simp [*]; done)), (by first | rfl | (simp; done) | (simp [*]; done)), H', ⟨by have := HK1.out; have := HJ5.out; omega⟩, ⟨by repeat (first | (with_reducible first | exact HB.out | apply zA | apply zN | apply zD | refine zP ?_ GE305.out) | exact HB.out)⟩⟩
         ·rw [if_neg c13] at H
          have c13b0 : (((rd_T43 l0 x12_1).f1) == a1) = false := beq_eq_false_iff_ne.mpr c13
          have c13b1 : (((rd_T43 l0 x12_1).f1) != a1) = true := bne_iff_ne.mpr c13
          have H' := Aside0.mk H
          clear H
          have hcz17_0 : wc.cell? ⟨gb305, 0, none⟩ = some (.int .i64 ((rd_T43 l0 x12_1).f0)) := (blk_cell BK305.out 0).trans rfl
          have hcz17_1 : wc.cell? ⟨gb305, 1, none⟩ = some (.int .i64 ((rd_T43 l0 x12_1).f1)) := (blk_cell BK305.out 1).trans rfl
          have hfz17_0 := blk_frozen BK305.out 0
          have hfz17_1 := blk_frozen BK305.out 1
          go_wp2
          go_roundg kj5
          case measure => have := HK1.out; have := HJ5.out; omega
          case rel => exact ⟨(x12_1), (x7_1), (wrap64 (x12_1 + 1)), (by first | rfl | (simp; done) | (simp [*]; done)), (by first | rfl | (simp; done) | (simp [*]; done)), (by first | rfl | (simp; done) | (simp [*]; done)), H', ⟨by have := HK1.out; have := HJ5.out; omega⟩, ⟨by repeat (first | (with_reducible first | exact HB.out | apply zA | apply zN | apply zD | refine zP ?_ GE305.out) | exact HB.out)⟩⟩
        ·replace c12 := Bool.eq_false_iff.mpr c12
         subst c12
         have H1 : (if ((rd_T43 l0 x12_1).f1) = a1 then (if x7_1 < 0 then (cadence_find.l0 kj5 a1 x6_1 x12_1 l0 (l0.length : Int) (wrap64 (x12_1 + 1))) else (cadence_find.l0 kj5 a1 x6_1 x7_1 l0 (l0.length : Int) (wrap64 (x12_1 + 1)))) else (cadence_find.l0 kj5 a1 x6_1 x7_1 l0 (l0.length : Int) (wrap64 (x12_1 + 1)))) = some (r1, r2) := by rw [if_neg (show ¬ (false = true) by decide)] at H; exact H
         clear H
         have H := H1
         clear H1
         by_cases c18 : ((rd_T43 l0 x12_1).f1) = a1
         ·rw [if_pos c18] at H
          have c18b0 : (((rd_T43 l0 x12_1).f1) == a1) = true := beq_iff_eq.mpr c18
          have c18b1 : (((rd_T43 l0 x12_1).f1) != a1) = false := bne_eq_false_iff_eq.mpr c18
          clear c18
          by_cases c19 : x7_1 < 0
          ·rw [if_pos c19] at H
           have c19b0 : decide (x7_1 < 0) = true := decide_eq_true c19
           clear c19
           have H' := Aside0.mk H
           clear H
           have hcz20_0 : wc.cell? ⟨gb305, 0, none⟩ = some (.int .i64 ((rd_T43 l0 x12_1).f0)) := (blk_cell BK305.out 0).trans rfl
           have hcz20_1 : wc.cell? ⟨gb305, 1, none⟩ = some (.int .i64 ((rd_T43 l0 x12_1).f1)) := (blk_cell BK305.out 1).trans rfl
           have hfz20_0 := blk_frozen BK305.out 0
           have hfz20_1 := blk_frozen BK305.out 1
           go_wp2
           go_roundg kj5
           case measure => have := HK1.out; have := HJ5.out; omega
           case rel => exact ⟨(x6_1), (x12_1), (wrap64 (x12_1 + 1)), (by first | rfl | (simp; done) | (simp [*]; done)), (by first | rfl | (simp; done) | (simp [*]; done)), (by first | rfl | (simp; done) | (simp [*]; done)), H', ⟨by have := HK1.out; have := HJ5.out; omega⟩, ⟨by repeat (first | (with_reducible first | exact HB.out | apply zA | apply zN | apply zD | refine zP ?_ GE305.out) | exact HB.out)⟩⟩
          ·rw [if_neg c19] at H
           have c19b0 : decide (x7_1 < 0) = false := decide_eq_false c19
           clear c19
           have H' := Aside0.mk H
           clear H
           have hcz21_0 : wc.cell? ⟨gb305, 0, none⟩ = some (.int .i64 ((rd_T43 l0 x12_1).f0)) := (blk_cell BK305.out 0).trans rfl
           have hcz21_1 : wc.cell? ⟨gb305, 1, none⟩ = some (.int .i64 ((rd_T43 l0 x12_1).f1)) := (blk_cell BK305.out 1).trans rfl
           have hfz21_0 := blk_frozen BK305.out 0
           have hfz21_1 := blk_frozen BK305.out 1
           go_wp2
           go_roundg kj5
           case measure => have := HK1.out; have := HJ5.out; omega
           case rel => exact ⟨(x6_1), (x7_1), (wrap64 (x12_1 + 1)), (by first | rfl | (simp; done) | (simp [*]; done)), (by first | rfl | (simp; done) | (simp [*]; done)), (by first | rfl | (simp; done) | (simp [*]; done)), H', ⟨by have := HK1.out; have := HJ5.out; omega⟩, ⟨by repeat (first | (with_reducible first | exact HB.out | apply zA | apply zN | apply zD | refine zP ?_ GE305.out) | exact HB.out)⟩⟩
         ·rw [if_neg c18] at H
          have c18b0 : (((rd_T43 l0 x12_1).f1) == a1) = false := beq_eq_false_iff_ne.mpr c18
          have c18b1 : (((rd_T43 l0 x12_1).f1) != a1) = true := bne_iff_ne.mpr c18
          have H' := Aside0.mk H
          clear H
          have hcz22_0 : wc.cell? ⟨gb305, 0, none⟩ = some (.int .i64 ((rd_T43 l0 x12_1).f0)) := (blk_cell BK305.out 0).trans rfl
          have hcz22_1 : wc.cell? ⟨gb305, 1, none⟩ = some (.int .i64 ((rd_T43 l0 x12_1).f1)) := (blk_cell BK305.out 1).trans rfl
          have hfz22_0 := blk_frozen BK305.out 0
          have hfz22_1 := blk_frozen BK305.out 1
          go_wp2
          go_roundg kj5
          case measure => have := HK1.out; have := HJ5.out; omega
          case rel => exact ⟨(x6_1), (x7_1), (wrap64 (x12_1 + 1)), (by first | rfl | (simp; done) | (simp [*]; done)), (by first | rfl | (simp; done) | (simp [*]; done)), (by first | rfl | (simp; done) | (simp [*]; done)), H', ⟨by have := HK1.out; have := HJ5.out; omega⟩, ⟨by repeat (first | (with_reducible first | exact HB.out | apply zA | apply zN | apply zD | refine zP ?_ GE305.out) | exact HB.out)⟩⟩
     ·rw [if_neg c5] at H
      exact absurd H (by simp)
    ·rw [if_neg c4] at H
     exact absurd H (by simp)
   ·rw [if_neg c3] at H
    have c3b0 : decide (x12_1 < (l0.length : Int)) = false := decide_eq_false c3
    clear c3
    simp only [Option.some.injEq, Prod.mk.injEq] at H
    obtain ⟨rfl, rfl⟩ := H
    go_wp2
    go_ret2
    exact ⟨by first | rfl | (simp [errW_none, errW_some] <;> rfl) | (simp [*, errW_none, errW_some] <;> rfl), by repeat (first | (with_reducible first | exact HB.out | apply zA | apply zN | apply zD) | exact HB.out)⟩

end Go.Proofs.Ytcofjbbflcnaaaa.P
