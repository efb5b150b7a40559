-- Written by this session's own program (wip/tools/myprint.py), which runs the kit's print with turns of its own: not a text of the kit's print.sh.
import Derived.Test.YtcofjbbflcnaaaaPx0
import Derived.Test.YtcofjbbflcnaaaaPx78
import Derived.Test.YtcofjbbflcnaaaaAbb
namespace Go.Proofs.Ytcofjbbflcnaaaa.P
open Go.RowKit Go.Proofs.YtcofjbbflcnaaaaW.PrintWords Go.Proofs.YtcofjbbflcnaaaaW.PrintLast Go.Proofs.YtcofjbbflcnaaaaW.PrintMore
open List renaming setIfInBounds_toArray → sA, set_cons_zero → sZ, set_cons_succ → sS
open Bool renaming true → T', false → F'
open Go.Proofs.YtcofjbbflcnaaaaW.PrintWords renaming below_alloc → zA, pw_below_drewN → zN, below_drew1 → zD, blk_drewN → yN, blk_drew → yD, blk_alloc → yA, below_size → zS, below_step → zT, blk_below → yB, below_set → zP, cell_far → xF, add_block → xB, gate_callee → xC, gate_dst → xD
attribute [local go_sem] max2_int min2_int max_two min_two max_three min_three max_four min_four   -- for this text's walks alone
set_option linter.unusedVariables false
set_option linter.unusedSimpArgs false

/-! ### cadence_alike: function 59 -/
def cadence_alike.l0 : Nat → List (S52) → List (S52) → Int → Int → Option (Bool)
 | 0, _, _, _, _ => none
 | k + 1, x0, x5, x6, x7 => if x7 < x6 then (if 0 ≤ x7 then (if x7 < (x5.length : Int) then ((cadence_valid.f ((rd_T52 x5 x7).f0) ((rd_T52 x5 x7).f1) ((rd_T52 x5 x7).f2) ((rd_T52 x5 x7).f3) ((rd_T52 x5 x7).f4)).bind fun t226 => (if t226 = true then (if 0 < (x0.length : Int) then (if ((rd_T52 x5 x7).f0) = ((rd_T52 x0 0).f0) then (if ((rd_T52 x5 x7).f1) = ((rd_T52 x0 0).f1) then (cadence_alike.l0 k x0 x5 x6 (wrap64 (x7 + 1))) else (some false)) else (some false)) else (none)) else (some false))) else (none)) else (none)) else (some true)
def cadence_alike.f (k : Nat) (l0 : List (S52)) : Option (Bool) := cadence_alike.l0 k l0 l0 (l0.length : Int) 0
theorem cadence_alike.mono_l : ∀ k, (∀ y0 y1 y2 y3, LeO (cadence_alike.l0 k y0 y1 y2 y3) (cadence_alike.l0 (k + 1) y0 y1 y2 y3))
 | 0 => fun _ _ _ _ r h => by simp [cadence_alike.l0] at h
 | k + 1 => by
  have ih0 := cadence_alike.mono_l k
  ·intro y0 y1 y2 y3
   unfold cadence_alike.l0
   repeat' first
   | (with_reducible exact ih0 _ _ _ _)
   | (with_reducible exact LeO.refl _)
   | (with_reducible exact LeO.none _)
   | (with_reducible refine LeO.ite ?_ ?_)
   | (with_reducible refine LeO.bind ?_ (fun _ => ?_))
   | exact ih0 _ _ _ _
   | exact LeO.none _
   | refine LeO.ite ?_ ?_
   | refine LeO.bind ?_ (fun _ => ?_)
theorem cadence_alike.mono : ∀ a0 k, LeO (cadence_alike.f k a0) (cadence_alike.f (k + 1) a0) := by
 intro a0 k
 have ih0 := cadence_alike.mono_l k
 unfold cadence_alike.f
 repeat' first
   | (with_reducible exact ih0 _ _ _ _)
   | (with_reducible exact LeO.refl _)
   | (with_reducible exact LeO.none _)
   | (with_reducible refine LeO.ite ?_ ?_)
   | (with_reducible refine LeO.bind ?_ (fun _ => ?_))
   | exact ih0 _ _ _ _
   | exact LeO.none _
   | refine LeO.ite ?_ ?_
   | refine LeO.bind ?_ (fun _ => ?_)
def cadence_alike.T4 : Bool × List (List Nat × List Nat) := (true, [([], []), ([0], [0]), ([1], [1]), ([2, 1], [2]), ([3], [3]), ([4, 3], [3, 4]), ([3], [3]), ([6, 3], [3, 6]), ([7, 3], [3, 7]), ([8, 3], [3, 8]), ([5, 9, 3], [3, 5, 9]), ([3, 10], [3, 10]), ([11, 3], [11]), ([12], [12]), ([13, 12], [12, 13]), ([12], [12]), ([15, 12], [12, 15]), ([16, 12], [12, 16]), ([17, 12], [12, 17]), ([14, 18, 12], [12, 14, 18]), ([12, 19], [12, 19])])
def cadence_alike.B4 : List Nat := [0, 1, 3, 7, 15, 31, 15, 79, 207, 463, 1023, 2047, 4095, 8191, 16383, 8191, 40959, 106495, 237567, 524287, 1048575]
theorem cadence_alike.tab4 : rtab .any (opsOf Try.f59 4) = cadence_alike.T4 := by kernel_rfl
theorem cadence_alike.bits4 : waitsOk cadence_alike.T4.2 cadence_alike.B4 = true := by kernel_rfl
set_option maxHeartbeats 8000000 in
set_option maxRecDepth 100000 in
theorem cadence_alike.calls (k : Nat) (A0 : Option Addr) (c0 : Nat) (l0 : List (S52)) (r : Bool) (w : World) (hr0 : Kd.C k52 w A0 l0.length l0) (hc0 : l0.length ≤ c0) (h : cadence_alike.f k l0 = some r) :
  Calls Try.prog 59 #[.slice A0 l0.length c0] w fun e w' => e = .returned (.bool r) ∧ Below w.heap.size w w' := by
 have hu52 := Try.underlying52
 have HR0 := Aside0.mk hr0
 have HC0 := Aside0.mk hc0
 clear hr0 hc0
 have HB := Aside0.mk (Below.refl w.heap.size w)
 have H : (cadence_alike.l0 k l0 l0 (l0.length : Int) 0) = some r := h
 clear h
 have H' := Aside0.mk H
 clear H
 go_enter Try.func59, Try.ntmps59
 go_wp2
 go_loopg [7] k (fun kq v7 w' => ∃ (x7_1 : Int), v7 = .int .i64 x7_1 ∧ Aside0 (cadence_alike.l0 kq l0 l0 (l0.length : Int) x7_1 = some r) ∧ Aside0 (kq ≤ k) ∧ Aside0 (Below w.heap.size w w'))
 case atStart => exact ⟨(0), (by first | rfl | (simp; done) | (simp [*]; done)), H', ⟨Nat.le_refl _⟩, ⟨by repeat (first | (with_reducible first | exact HB.out | apply zA | apply zN | apply zD) | exact HB.out)⟩⟩
 case round =>
  clear H'
  obtain ⟨x7_1, rfl, HA, HK1, HB⟩ := hrel
  cases gk with
  | zero => exact absurd HA.out (by simp [cadence_alike.l0])
  | succ k1 =>
   have H := HA.out
   clear HA
   simp only [cadence_alike.l0] at H
   by_cases c2 : x7_1 < (l0.length : Int)
   ·rw [if_pos c2] at H
    have c2b0 : decide (x7_1 < (l0.length : Int)) = true := decide_eq_true c2
    clear c2
    by_cases c3 : 0 ≤ x7_1
    ·rw [if_pos c3] at H
     have c3b0 : decide (0 ≤ x7_1) = true := decide_eq_true c3
     clear c3
     by_cases c4 : x7_1 < (l0.length : Int)
     ·rw [if_pos c4] at H
      have c4b0 : decide (x7_1 < (l0.length : Int)) = true := decide_eq_true c4
      clear c4
      replace H := Option.bind_eq_some_iff.mp H
      obtain ⟨t226, A50, H⟩ := H
      replace H : (if t226 = true then (if 0 < (l0.length : Int) then (if ((rd_T52 l0 x7_1).f0) = ((rd_T52 l0 0).f0) then (if ((rd_T52 l0 x7_1).f1) = ((rd_T52 l0 0).f1) then (cadence_alike.l0 k1 l0 l0 (l0.length : Int) (wrap64 (x7_1 + 1))) else (some false)) else (some false)) else (none)) else (some false)) = some r := H
      have A5 := Aside0.mk A50
      clear A50
      by_cases c6 : t226 = true
      ·subst c6
       have H1 : (if 0 < (l0.length : Int) then (if ((rd_T52 l0 x7_1).f0) = ((rd_T52 l0 0).f0) then (if ((rd_T52 l0 x7_1).f1) = ((rd_T52 l0 0).f1) then (cadence_alike.l0 k1 l0 l0 (l0.length : Int) (wrap64 (x7_1 + 1))) else (some false)) else (some false)) else (none)) = some r := by rw [if_pos rfl] at H; exact H
       clear H
       have H := H1
       clear H1
       by_cases c7 : 0 < (l0.length : Int)
       ·rw [if_pos c7] at H
        have c7b0 : decide (0 < (l0.length : Int)) = true := decide_eq_true c7
        have c7b1 : decide (0 < l0.length) = true := decide_eq_true (by omega)
        clear c7
        by_cases c8 : ((rd_T52 l0 x7_1).f0) = ((rd_T52 l0 0).f0)
        ·rw [if_pos c8] at H
         have c8b0 : (((rd_T52 l0 x7_1).f0) == ((rd_T52 l0 0).f0)) = true := beq_iff_eq.mpr c8
         have c8b1 : (((rd_T52 l0 x7_1).f0) != ((rd_T52 l0 0).f0)) = false := bne_eq_false_iff_eq.mpr c8
         clear c8
         by_cases c9 : ((rd_T52 l0 x7_1).f1) = ((rd_T52 l0 0).f1)
         ·rw [if_pos c9] at H
          have c9b0 : (((rd_T52 l0 x7_1).f1) == ((rd_T52 l0 0).f1)) = true := beq_iff_eq.mpr c9
          have c9b1 : (((rd_T52 l0 x7_1).f1) != ((rd_T52 l0 0).f1)) = false := bne_eq_false_iff_eq.mpr c9
          clear c9
          have H' := Aside0.mk H
          clear H
          have p224 : 0 ≤ (x7_1 : Int) := of_decide_eq_true (by first | (with_reducible assumption) | assumption)
          have q224 : x7_1 < (l0.length : Int) := of_decide_eq_true (by first | (with_reducible assumption) | assumption)
          obtain ⟨ad224, A224_2, c224_2, A224_3, c224_3, A224_4, c224_4, e224, hx224_0, hx224_1, hx224_2, hx224_3, hx224_4, hl224_2, hi224_2, hl224_3, hi224_3, hl224_4, hi224_4⟩ := at_T52 HR0.out x7_1 p224 q224
          cases e224
          replace hx224_0 := (HB.out.cell (World.block_lt_of_cell? w _ hx224_0)).trans hx224_0
          replace hx224_1 := (HB.out.cell (World.block_lt_of_cell? w _ hx224_1)).trans hx224_1
          replace hx224_2 := (HB.out.cell (World.block_lt_of_cell? w _ hx224_2)).trans hx224_2
          replace hx224_3 := (HB.out.cell (World.block_lt_of_cell? w _ hx224_3)).trans hx224_3
          replace hx224_4 := (HB.out.cell (World.block_lt_of_cell? w _ hx224_4)).trans hx224_4
          have HR224_2 := Aside0.mk hi224_2
          have HC224_2 := Aside0.mk hl224_2
          clear hi224_2 hl224_2
          have HR224_3 := Aside0.mk hi224_3
          have HC224_3 := Aside0.mk hl224_3
          clear hi224_3 hl224_3
          have HR224_4 := Aside0.mk hi224_4
          have HC224_4 := Aside0.mk hl224_4
          clear hi224_4 hl224_4
          replace p224 := eq_true p224
          replace q224 := eq_true q224
          try go_wp2_with (first | ((with_reducible refine xD (N := 4) rfl ?_); refine box_event ?hg (N := 4) ?hd (cs := #[.int .i64 0, .int .i64 0, .slice none 0 0, .slice none 0 0, .slice none 0 0]) (t := 52) ?hr ?_; (case hd => rfl); (case hg => rfl); (case hr => first | (go_simp; done) | (go_simp; rfl)); intro gb225 hg w10 hbox hb; have n0_ := Aside0.mk (zT (by repeat (first | (with_reducible first | exact HB.out | apply zA | apply zN | apply zD) | exact HB.out)) hb); have n1_ := Aside0.mk (hbox); have n2_ := Aside0.mk ((by rw [hg]; exact (zS (by repeat (first | (with_reducible first | exact HB.out | apply zA | apply zN | apply zD) | exact HB.out))) : w.heap.size ≤ gb225)); have n3_ := n2_; clear HB; have HB := n0_; have BK225 := n1_; have GW225 := n2_; have GE225 := n3_; clear n0_ n1_ n2_ n3_; clear hb hbox hg; have hcz11_0 : w10.cell? ⟨gb225, 0, none⟩ = some (.int .i64 0) := (blk_cell BK225.out 0).trans rfl; have hcz11_1 : w10.cell? ⟨gb225, 1, none⟩ = some (.int .i64 0) := (blk_cell BK225.out 1).trans rfl; have hcz11_2 : w10.cell? ⟨gb225, 2, none⟩ = some (.slice none 0 0) := (blk_cell BK225.out 2).trans rfl; have hcz11_3 : w10.cell? ⟨gb225, 3, none⟩ = some (.slice none 0 0) := (blk_cell BK225.out 3).trans rfl; have hcz11_4 : w10.cell? ⟨gb225, 4, none⟩ = some (.slice none 0 0) := (blk_cell BK225.out 4).trans rfl; have hfz11_0 := blk_frozen BK225.out 0; have hfz11_1 := blk_frozen BK225.out 1; have hfz11_2 := blk_frozen BK225.out 2; have hfz11_3 := blk_frozen BK225.out 3; have hfz11_4 := blk_frozen BK225.out 4))
          have n0_ : Aside0 ((((((w10.setCell ⟨gb225, 0, none⟩ (.int .i64 ((rd_T52 l0 x7_1).f0))).setCell ⟨gb225, 1, none⟩ (.int .i64 ((rd_T52 l0 x7_1).f1))).setCell ⟨gb225, 2, none⟩ (.slice A224_2 ((rd_T52 l0 x7_1).f2).length c224_2)).setCell ⟨gb225, 3, none⟩ (.slice A224_3 ((rd_T52 l0 x7_1).f3).length c224_3)).setCell ⟨gb225, 4, none⟩ (.slice A224_4 ((rd_T52 l0 x7_1).f4).length c224_4)).heap[gb225]? = some (.cells #[.int .i64 ((rd_T52 l0 x7_1).f0), .int .i64 ((rd_T52 l0 x7_1).f1), .slice A224_2 ((rd_T52 l0 x7_1).f2).length c224_2, .slice A224_3 ((rd_T52 l0 x7_1).f3).length c224_3, .slice A224_4 ((rd_T52 l0 x7_1).f4).length c224_4] 52 (0, 0))) := ⟨by (with_reducible repeat (first | refine yN ?_ _ | refine yD ?_ | refine yA ?_ _)); refine blk_put (cs := #[.int .i64 ((rd_T52 l0 x7_1).f0), .int .i64 ((rd_T52 l0 x7_1).f1), .slice A224_2 ((rd_T52 l0 x7_1).f2).length c224_2, .slice A224_3 ((rd_T52 l0 x7_1).f3).length c224_3, .slice none 0 0]) ?_ 4 _ rfl; (with_reducible repeat (first | refine yN ?_ _ | refine yD ?_ | refine yA ?_ _)); refine blk_put (cs := #[.int .i64 ((rd_T52 l0 x7_1).f0), .int .i64 ((rd_T52 l0 x7_1).f1), .slice A224_2 ((rd_T52 l0 x7_1).f2).length c224_2, .slice none 0 0, .slice none 0 0]) ?_ 3 _ rfl; (with_reducible repeat (first | refine yN ?_ _ | refine yD ?_ | refine yA ?_ _)); refine blk_put (cs := #[.int .i64 ((rd_T52 l0 x7_1).f0), .int .i64 ((rd_T52 l0 x7_1).f1), .slice none 0 0, .slice none 0 0, .slice none 0 0]) ?_ 2 _ rfl; (with_reducible repeat (first | refine yN ?_ _ | refine yD ?_ | refine yA ?_ _)); refine blk_put (cs := #[.int .i64 ((rd_T52 l0 x7_1).f0), .int .i64 0, .slice none 0 0, .slice none 0 0, .slice none 0 0]) ?_ 1 _ rfl; (with_reducible repeat (first | refine yN ?_ _ | refine yD ?_ | refine yA ?_ _)); refine blk_put (cs := #[.int .i64 0, .int .i64 0, .slice none 0 0, .slice none 0 0, .slice none 0 0]) ?_ 0 _ rfl; (with_reducible repeat (first | refine yN ?_ _ | refine yD ?_ | refine yA ?_ _)); exact BK225.out⟩
          have n1_ : Aside0 (Below w.heap.size w (((((w10.setCell ⟨gb225, 0, none⟩ (.int .i64 ((rd_T52 l0 x7_1).f0))).setCell ⟨gb225, 1, none⟩ (.int .i64 ((rd_T52 l0 x7_1).f1))).setCell ⟨gb225, 2, none⟩ (.slice A224_2 ((rd_T52 l0 x7_1).f2).length c224_2)).setCell ⟨gb225, 3, none⟩ (.slice A224_3 ((rd_T52 l0 x7_1).f3).length c224_3)).setCell ⟨gb225, 4, none⟩ (.slice A224_4 ((rd_T52 l0 x7_1).f4).length c224_4))) := ⟨by repeat (first | (with_reducible first | exact HB.out | apply zA | apply zN | apply zD | refine zP ?_ GE225.out) | exact HB.out)⟩
          (try clear BK225)
          (try clear HB)
          generalize (((((w10.setCell ⟨gb225, 0, none⟩ (.int .i64 ((rd_T52 l0 x7_1).f0))).setCell ⟨gb225, 1, none⟩ (.int .i64 ((rd_T52 l0 x7_1).f1))).setCell ⟨gb225, 2, none⟩ (.slice A224_2 ((rd_T52 l0 x7_1).f2).length c224_2)).setCell ⟨gb225, 3, none⟩ (.slice A224_3 ((rd_T52 l0 x7_1).f3).length c224_3)).setCell ⟨gb225, 4, none⟩ (.slice A224_4 ((rd_T52 l0 x7_1).f4).length c224_4)) = w12 at n0_ n1_ ⊢
          have BK225 := n0_
          have HB := n1_
          clear n0_ n1_
          have n0_ := Aside0.mk (yD BK225.out)
          have n1_ := Aside0.mk (zD HB.out)
          clear BK225
          clear HB
          have BK225 := n0_
          have HB := n1_
          clear n0_ n1_
          have p227 : 0 ≤ (0 : Int) := (by omega)
          have q227 : 0 < (l0.length : Int) := of_decide_eq_true (by first | (with_reducible assumption) | assumption)
          obtain ⟨ad227, A227_2, c227_2, A227_3, c227_3, A227_4, c227_4, e227, hx227_0, hx227_1, hx227_2, hx227_3, hx227_4, hl227_2, hi227_2, hl227_3, hi227_3, hl227_4, hi227_4⟩ := at_T52 HR0.out 0 p227 q227
          have hw227_4 := hx227_4
          (try rw [show ((0 : Int)).toNat = 0 from rfl] at hw227_4)
          (try rw [show 0 * 5 = 0 from rfl] at hw227_4)
          (try rw [Addr.add_zero'] at hw227_4)
          have hw227_3 := hx227_3
          (try rw [show ((0 : Int)).toNat = 0 from rfl] at hw227_3)
          (try rw [show 0 * 5 = 0 from rfl] at hw227_3)
          (try rw [Addr.add_zero'] at hw227_3)
          have hw227_2 := hx227_2
          (try rw [show ((0 : Int)).toNat = 0 from rfl] at hw227_2)
          (try rw [show 0 * 5 = 0 from rfl] at hw227_2)
          (try rw [Addr.add_zero'] at hw227_2)
          have hw227_1 := hx227_1
          (try rw [show ((0 : Int)).toNat = 0 from rfl] at hw227_1)
          (try rw [show 0 * 5 = 0 from rfl] at hw227_1)
          (try rw [Addr.add_zero'] at hw227_1)
          have hw227_0 := hx227_0
          (try rw [show ((0 : Int)).toNat = 0 from rfl] at hw227_0)
          (try rw [show 0 * 5 = 0 from rfl] at hw227_0)
          (try rw [Addr.add_zero'] at hw227_0)
          obtain rfl : ad224 = ad227 := (by injection e227)
          have qi227 : (0 < l0.length) = True := eq_true (by omega)
          (try rw [show ((0 : Int)).toNat = 0 from rfl] at hx227_0)
          (try rw [show 0 * 5 = 0 from rfl] at hx227_0)
          (try rw [Addr.add_zero'] at hx227_0)
          (try rw [show ((0 : Int)).toNat = 0 from rfl] at hx227_1)
          (try rw [show 0 * 5 = 0 from rfl] at hx227_1)
          (try rw [Addr.add_zero'] at hx227_1)
          (try rw [show ((0 : Int)).toNat = 0 from rfl] at hx227_2)
          (try rw [show 0 * 5 = 0 from rfl] at hx227_2)
          (try rw [Addr.add_zero'] at hx227_2)
          (try rw [show ((0 : Int)).toNat = 0 from rfl] at hx227_3)
          (try rw [show 0 * 5 = 0 from rfl] at hx227_3)
          (try rw [Addr.add_zero'] at hx227_3)
          (try rw [show ((0 : Int)).toNat = 0 from rfl] at hx227_4)
          (try rw [show 0 * 5 = 0 from rfl] at hx227_4)
          (try rw [Addr.add_zero'] at hx227_4)
          replace hx227_0 := (HB.out.cell (World.block_lt_of_cell? w _ hx227_0)).trans hx227_0
          replace hx227_1 := (HB.out.cell (World.block_lt_of_cell? w _ hx227_1)).trans hx227_1
          replace hx227_2 := (HB.out.cell (World.block_lt_of_cell? w _ hx227_2)).trans hx227_2
          replace hx227_3 := (HB.out.cell (World.block_lt_of_cell? w _ hx227_3)).trans hx227_3
          replace hx227_4 := (HB.out.cell (World.block_lt_of_cell? w _ hx227_4)).trans hx227_4
          have HR227_2 := Aside0.mk hi227_2
          have HC227_2 := Aside0.mk hl227_2
          clear hi227_2 hl227_2
          have HR227_3 := Aside0.mk hi227_3
          have HC227_3 := Aside0.mk hl227_3
          clear hi227_3 hl227_3
          have HR227_4 := Aside0.mk hi227_4
          have HC227_4 := Aside0.mk hl227_4
          clear hi227_4 hl227_4
          replace p227 := eq_true p227
          replace q227 := eq_true q227
          have p228 : 0 ≤ (0 : Int) := (by omega)
          have q228 : 0 < (l0.length : Int) := of_decide_eq_true (by first | (with_reducible assumption) | assumption)
          obtain ⟨ad228, A228_2, c228_2, A228_3, c228_3, A228_4, c228_4, e228, hx228_0, hx228_1, hx228_2, hx228_3, hx228_4, hl228_2, hi228_2, hl228_3, hi228_3, hl228_4, hi228_4⟩ := at_T52 HR0.out 0 p228 q228
          have hw228_4 := hx228_4
          (try rw [show ((0 : Int)).toNat = 0 from rfl] at hw228_4)
          (try rw [show 0 * 5 = 0 from rfl] at hw228_4)
          (try rw [Addr.add_zero'] at hw228_4)
          have hw228_3 := hx228_3
          (try rw [show ((0 : Int)).toNat = 0 from rfl] at hw228_3)
          (try rw [show 0 * 5 = 0 from rfl] at hw228_3)
          (try rw [Addr.add_zero'] at hw228_3)
          have hw228_2 := hx228_2
          (try rw [show ((0 : Int)).toNat = 0 from rfl] at hw228_2)
          (try rw [show 0 * 5 = 0 from rfl] at hw228_2)
          (try rw [Addr.add_zero'] at hw228_2)
          have hw228_1 := hx228_1
          (try rw [show ((0 : Int)).toNat = 0 from rfl] at hw228_1)
          (try rw [show 0 * 5 = 0 from rfl] at hw228_1)
          (try rw [Addr.add_zero'] at hw228_1)
          have hw228_0 := hx228_0
          (try rw [show ((0 : Int)).toNat = 0 from rfl] at hw228_0)
          (try rw [show 0 * 5 = 0 from rfl] at hw228_0)
          (try rw [Addr.add_zero'] at hw228_0)
          obtain rfl : ad224 = ad228 := (by injection e228)
          have qi228 : (0 < l0.length) = True := eq_true (by omega)
          (try rw [show ((0 : Int)).toNat = 0 from rfl] at hx228_0)
          (try rw [show 0 * 5 = 0 from rfl] at hx228_0)
          (try rw [Addr.add_zero'] at hx228_0)
          (try rw [show ((0 : Int)).toNat = 0 from rfl] at hx228_1)
          (try rw [show 0 * 5 = 0 from rfl] at hx228_1)
          (try rw [Addr.add_zero'] at hx228_1)
          (try rw [show ((0 : Int)).toNat = 0 from rfl] at hx228_2)
          (try rw [show 0 * 5 = 0 from rfl] at hx228_2)
          (try rw [Addr.add_zero'] at hx228_2)
          (try rw [show ((0 : Int)).toNat = 0 from rfl] at hx228_3)
          (try rw [show 0 * 5 = 0 from rfl] at hx228_3)
          (try rw [Addr.add_zero'] at hx228_3)
          (try rw [show ((0 : Int)).toNat = 0 from rfl] at hx228_4)
          (try rw [show 0 * 5 = 0 from rfl] at hx228_4)
          (try rw [Addr.add_zero'] at hx228_4)
          replace hx228_0 := (HB.out.cell (World.block_lt_of_cell? w _ hx228_0)).trans hx228_0
          replace hx228_1 := (HB.out.cell (World.block_lt_of_cell? w _ hx228_1)).trans hx228_1
          replace hx228_2 := (HB.out.cell (World.block_lt_of_cell? w _ hx228_2)).trans hx228_2
          replace hx228_3 := (HB.out.cell (World.block_lt_of_cell? w _ hx228_3)).trans hx228_3
          replace hx228_4 := (HB.out.cell (World.block_lt_of_cell? w _ hx228_4)).trans hx228_4
          have HR228_2 := Aside0.mk hi228_2
          have HC228_2 := Aside0.mk hl228_2
          clear hi228_2 hl228_2
          have HR228_3 := Aside0.mk hi228_3
          have HC228_3 := Aside0.mk hl228_3
          clear hi228_3 hl228_3
          have HR228_4 := Aside0.mk hi228_4
          have HC228_4 := Aside0.mk hl228_4
          clear hi228_4 hl228_4
          replace p228 := eq_true p228
          replace q228 := eq_true q228
          have ea_ := Option.some.inj (hx227_2.symm.trans hx228_2)
          injection ea_ with ea_ en_ ec_
          subst ea_
          subst ec_
          clear en_
          have ea_ := Option.some.inj (hx227_3.symm.trans hx228_3)
          injection ea_ with ea_ en_ ec_
          subst ea_
          subst ec_
          clear en_
          have ea_ := Option.some.inj (hx227_4.symm.trans hx228_4)
          injection ea_ with ea_ en_ ec_
          subst ea_
          subst ec_
          clear en_
          refine start_ (n := 21) (S := fun w' => w'.cell? ⟨gb225, 0, none⟩ = some (.int .i64 ((rd_T52 l0 x7_1).f0)) ∧ w'.cell? ⟨gb225, 1, none⟩ = some (.int .i64 ((rd_T52 l0 x7_1).f1)) ∧ w'.cell? ⟨gb225, 2, none⟩ = some (.slice A224_2 ((rd_T52 l0 x7_1).f2).length c224_2) ∧ w'.cell? ⟨gb225, 3, none⟩ = some (.slice A224_3 ((rd_T52 l0 x7_1).f3).length c224_3) ∧ w'.cell? ⟨gb225, 4, none⟩ = some (.slice A224_4 ((rd_T52 l0 x7_1).f4).length c224_4) ∧ w'.cell? ad224 = some (.int .i64 ((rd_T52 l0 0).f0)) ∧ w'.cell? ⟨ad224.block, ad224.off + 1, none⟩ = some (.int .i64 ((rd_T52 l0 0).f1)) ∧ w'.cell? ⟨ad224.block, ad224.off + 2, none⟩ = some (.slice A227_2 ((rd_T52 l0 0).f2).length c227_2) ∧ w'.cell? ⟨ad224.block, ad224.off + 3, none⟩ = some (.slice A227_3 ((rd_T52 l0 0).f3).length c227_3) ∧ w'.cell? ⟨ad224.block, ad224.off + 4, none⟩ = some (.slice A227_4 ((rd_T52 l0 0).f4).length c227_4) ∧ w'.cell? ad224 = some (.int .i64 ((rd_T52 l0 0).f0)) ∧ w'.cell? ⟨ad224.block, ad224.off + 1, none⟩ = some (.int .i64 ((rd_T52 l0 0).f1)) ∧ w'.cell? ⟨ad224.block, ad224.off + 2, none⟩ = some (.slice A227_2 ((rd_T52 l0 0).f2).length c227_2) ∧ w'.cell? ⟨ad224.block, ad224.off + 3, none⟩ = some (.slice A227_3 ((rd_T52 l0 0).f3).length c227_3) ∧ w'.cell? ⟨ad224.block, ad224.off + 4, none⟩ = some (.slice A227_4 ((rd_T52 l0 0).f4).length c227_4)) (ds := []) #[false, false, false, false, false, false, false, false, false, false, false, false, false, false, false, false, false, false, false, false, false] (by kernel_rfl) rfl rfl ⟨(blk_cell BK225.out 0).trans rfl, (blk_cell BK225.out 1).trans rfl, (blk_cell BK225.out 2).trans rfl, (blk_cell BK225.out 3).trans rfl, (blk_cell BK225.out 4).trans rfl, ((HB.out.cell (World.block_lt_of_cell? w _ hw227_0)).trans hw227_0), ((HB.out.cell (World.block_lt_of_cell? w _ hw227_1)).trans hw227_1), ((HB.out.cell (World.block_lt_of_cell? w _ hw227_2)).trans hw227_2), ((HB.out.cell (World.block_lt_of_cell? w _ hw227_3)).trans hw227_3), ((HB.out.cell (World.block_lt_of_cell? w _ hw227_4)).trans hw227_4), ((HB.out.cell (World.block_lt_of_cell? w _ hw228_0)).trans hw228_0), ((HB.out.cell (World.block_lt_of_cell? w _ hw228_1)).trans hw228_1), ((HB.out.cell (World.block_lt_of_cell? w _ hw228_2)).trans hw228_2), ((HB.out.cell (World.block_lt_of_cell? w _ hw228_3)).trans hw228_3), ((HB.out.cell (World.block_lt_of_cell? w _ hw228_4)).trans hw228_4)⟩ (fun hHeld => ?_); refine with_tabW cadence_alike.tab4 cadence_alike.bits4 (fun HT_ HW_ => ?_)
          generalize w12.drew = w13 at BK225 HB HR227_2 HR227_3 HR227_4 HR228_2 HR228_3 HR228_4 hx227_0 hx227_1 hx227_2 hx227_3 hx227_4 hx228_0 hx228_1 hx228_2 hx228_3 hx228_4 hHeld ⊢
          refine Abb.pT 0 11 #[T', F', F', F', F', F', F', F', F', F', F', F', F', F', F', F', F', F', F', F', F'] HT_ HW_ hHeld ?_
          refine one_ (i := 1) (N := some 12) #[T', T', F', F', F', F', F', F', F', F', F', F', F', F', F', F', F', F', F', F', F'] rfl rfl (one_of HT_.out (by kernel_rfl)) (by decide) (fun K hK => ?_)
          refine goes_ Try.func71 (by kernel_rfl) rfl #[.agg #[.int .i64 ((rd_T52 l0 x7_1).f0), .int .i64 ((rd_T52 l0 x7_1).f1), .slice A224_2 ((rd_T52 l0 x7_1).f2).length c224_2, .slice A224_3 ((rd_T52 l0 x7_1).f3).length c224_3, .slice A224_4 ((rd_T52 l0 x7_1).f4).length c224_4]] (by rfl) rfl rfl (by (try simp only [List.map_toArray, List.map_cons, List.map_nil]); first | done | rfl | (simp only [List.length_drop, List.length_take]; rfl)) ?_
          with_reducible refine (cadence_valid.calls ((rd_T52 l0 x7_1).f0) ((rd_T52 l0 x7_1).f1) _ _ ((rd_T52 l0 x7_1).f2) _ _ ((rd_T52 l0 x7_1).f3) _ _ ((rd_T52 l0 x7_1).f4) true _ ?side1 ?side2 ?side3 ?side4 ?side5 ?side6 A5.out).mono ?_
          (case side1 => repeat (first | exact (Kd.C_below HR224_2.out HB.out) | (with_reducible refine Kd.C_alloc ?_ _) | (with_reducible refine Kd.C_drewN ?_ _) | (with_reducible refine Kd.C_drew ?_)))
          (case side2 => exact HC224_2.out)
          (case side3 => repeat (first | exact (Kd.C_below HR224_3.out HB.out) | (with_reducible refine Kd.C_alloc ?_ _) | (with_reducible refine Kd.C_drewN ?_ _) | (with_reducible refine Kd.C_drew ?_)))
          (case side4 => exact HC224_3.out)
          (case side5 => repeat (first | exact (Kd.C_below HR224_4.out HB.out) | (with_reducible refine Kd.C_alloc ?_ _) | (with_reducible refine Kd.C_drewN ?_ _) | (with_reducible refine Kd.C_drew ?_)))
          (case side6 => exact HC224_4.out)
          rintro e w14 ⟨rfl, hb⟩
          refine ⟨_, rfl, ?_⟩
          have n0_ := Aside0.mk (yB (g := gb225) (o := .cells #[.int .i64 ((rd_T52 l0 x7_1).f0), .int .i64 ((rd_T52 l0 x7_1).f1), .slice A224_2 ((rd_T52 l0 x7_1).f2).length c224_2, .slice A224_3 ((rd_T52 l0 x7_1).f3).length c224_3, .slice A224_4 ((rd_T52 l0 x7_1).f4).length c224_4] 52 (0, 0)) (by (with_reducible repeat (first | refine yN ?_ _ | refine yD ?_ | refine yA ?_ _)); exact BK225.out) hb)
          have n1_ := Aside0.mk (zT (by repeat (first | (with_reducible first | exact HB.out | apply zA | apply zN | apply zD | refine zP ?_ GE225.out) | exact HB.out)) hb)
          clear BK225
          clear HB
          have BK225 := n0_
          have HB := n1_
          clear n0_ n1_
          (try clear hb)
          (try clear hb2)
          (try clear hk)
          (try clear hi)
          refine hK.out _ _ ⟨(blk_cell BK225.out 0).trans rfl, (blk_cell BK225.out 1).trans rfl, (blk_cell BK225.out 2).trans rfl, (blk_cell BK225.out 3).trans rfl, (blk_cell BK225.out 4).trans rfl, ((HB.out.cell (World.block_lt_of_cell? w _ hw227_0)).trans hw227_0), ((HB.out.cell (World.block_lt_of_cell? w _ hw227_1)).trans hw227_1), ((HB.out.cell (World.block_lt_of_cell? w _ hw227_2)).trans hw227_2), ((HB.out.cell (World.block_lt_of_cell? w _ hw227_3)).trans hw227_3), ((HB.out.cell (World.block_lt_of_cell? w _ hw227_4)).trans hw227_4), ((HB.out.cell (World.block_lt_of_cell? w _ hw228_0)).trans hw228_0), ((HB.out.cell (World.block_lt_of_cell? w _ hw228_1)).trans hw228_1), ((HB.out.cell (World.block_lt_of_cell? w _ hw228_2)).trans hw228_2), ((HB.out.cell (World.block_lt_of_cell? w _ hw228_3)).trans hw228_3), ((HB.out.cell (World.block_lt_of_cell? w _ hw228_4)).trans hw228_4)⟩ (fun hHeld => ?_)
          clear hK K
          refine norm_ (a' := ?_) ?_ ?_
          rotate_left
          ·show Act.put _ (some 12) _ = _
           simp only [Act.put, sA, sZ, sS, i64_w, i32_w]
           rfl
          refine Abb.pS 2 13 #[T', T', T', F', F', F', F', F', F', F', F', F', F', F', F', F', F', F', F', F', F'] HT_ ?_
          refine Abb.pS 3 14 #[T', T', T', T', F', F', F', F', F', F', F', F', F', F', F', F', F', F', F', F', F'] HT_ ?_
          refine Abb.pS 4 15 #[T', T', T', T', T', F', F', F', F', F', F', F', F', F', F', F', F', F', F', F', F'] HT_ ?_
          refine Abb.pS 6 17 #[T', T', T', T', T', F', T', F', F', F', F', F', F', F', F', F', F', F', F', F', F'] HT_ ?_
          refine Abb.pS 7 18 #[T', T', T', T', T', F', T', T', F', F', F', F', F', F', F', F', F', F', F', F', F'] HT_ ?_
          refine Abb.pS 8 19 #[T', T', T', T', T', F', T', T', T', F', F', F', F', F', F', F', F', F', F', F', F'] HT_ ?_
          refine Abb.pT 5 16 #[T', T', T', T', T', T', T', T', T', F', F', F', F', F', F', F', F', F', F', F', F'] HT_ HW_ hHeld ?_
          refine Abb.pT 9 20 #[T', T', T', T', T', T', T', T', T', T', F', F', F', F', F', F', F', F', F', F', F'] HT_ HW_ hHeld ?_
          refine Abb.pS 10 21 #[T', T', T', T', T', T', T', T', T', T', T', F', F', F', F', F', F', F', F', F', F'] HT_ ?_
          refine Abb.pS 11 22 #[T', T', T', T', T', T', T', T', T', T', T', T', F', F', F', F', F', F', F', F', F'] HT_ ?_
          refine Abb.pS 12 23 #[T', T', T', T', T', T', T', T', T', T', T', T', T', F', F', F', F', F', F', F', F'] HT_ ?_
          refine Abb.pS 13 24 #[T', T', T', T', T', T', T', T', T', T', T', T', T', T', F', F', F', F', F', F', F'] HT_ ?_
          refine Abb.pS 15 26 #[T', T', T', T', T', T', T', T', T', T', T', T', T', T', F', T', F', F', F', F', F'] HT_ ?_
          refine Abb.pS 16 27 #[T', T', T', T', T', T', T', T', T', T', T', T', T', T', F', T', T', F', F', F', F'] HT_ ?_
          refine Abb.pS 17 28 #[T', T', T', T', T', T', T', T', T', T', T', T', T', T', F', T', T', T', F', F', F'] HT_ ?_
          refine Abb.pT 14 25 #[T', T', T', T', T', T', T', T', T', T', T', T', T', T', T', T', T', T', F', F', F'] HT_ HW_ hHeld ?_
          refine Abb.pT 18 29 #[T', T', T', T', T', T', T', T', T', T', T', T', T', T', T', T', T', T', T', F', F'] HT_ HW_ hHeld ?_
          refine Abb.pS 19 30 #[T', T', T', T', T', T', T', T', T', T', T', T', T', T', T', T', T', T', T', T', F'] HT_ ?_
          refine Abb.pS 20 31 #[T', T', T', T', T', T', T', T', T', T', T', T', T', T', T', T', T', T', T', T', T'] HT_ ?_
          refine done_ (done_of HT_.out (by kernel_rfl)) ?_
          try go_wp2
          go_roundg k1
          case measure => have := HK1.out; omega
          case rel => exact ⟨(wrap64 (x7_1 + 1)), (by first | rfl | (simp; done) | (simp [*]; done)), H', ⟨by have := HK1.out; omega⟩, ⟨by repeat (first | (with_reducible first | exact HB.out | apply zA | apply zN | apply zD | refine zP ?_ GE225.out) | exact HB.out)⟩⟩
         ·rw [if_neg c9] at H
          have c9b0 : (((rd_T52 l0 x7_1).f1) == ((rd_T52 l0 0).f1)) = false := beq_eq_false_iff_ne.mpr c9
          have c9b1 : (((rd_T52 l0 x7_1).f1) != ((rd_T52 l0 0).f1)) = true := bne_iff_ne.mpr c9
          obtain rfl := Option.some.inj H
          have p224 : 0 ≤ (x7_1 : Int) := of_decide_eq_true (by first | (with_reducible assumption) | assumption)
          have q224 : x7_1 < (l0.length : Int) := of_decide_eq_true (by first | (with_reducible assumption) | assumption)
          obtain ⟨ad224, A224_2, c224_2, A224_3, c224_3, A224_4, c224_4, e224, hx224_0, hx224_1, hx224_2, hx224_3, hx224_4, hl224_2, hi224_2, hl224_3, hi224_3, hl224_4, hi224_4⟩ := at_T52 HR0.out x7_1 p224 q224
          cases e224
          replace hx224_0 := (HB.out.cell (World.block_lt_of_cell? w _ hx224_0)).trans hx224_0
          replace hx224_1 := (HB.out.cell (World.block_lt_of_cell? w _ hx224_1)).trans hx224_1
          replace hx224_2 := (HB.out.cell (World.block_lt_of_cell? w _ hx224_2)).trans hx224_2
          replace hx224_3 := (HB.out.cell (World.block_lt_of_cell? w _ hx224_3)).trans hx224_3
          replace hx224_4 := (HB.out.cell (World.block_lt_of_cell? w _ hx224_4)).trans hx224_4
          have HR224_2 := Aside0.mk hi224_2
          have HC224_2 := Aside0.mk hl224_2
          clear hi224_2 hl224_2
          have HR224_3 := Aside0.mk hi224_3
          have HC224_3 := Aside0.mk hl224_3
          clear hi224_3 hl224_3
          have HR224_4 := Aside0.mk hi224_4
          have HC224_4 := Aside0.mk hl224_4
          clear hi224_4 hl224_4
          replace p224 := eq_true p224
          replace q224 := eq_true q224
          try go_wp2_with (first | ((with_reducible refine xD (N := 4) rfl ?_); refine box_event ?hg (N := 4) ?hd (cs := #[.int .i64 0, .int .i64 0, .slice none 0 0, .slice none 0 0, .slice none 0 0]) (t := 52) ?hr ?_; (case hd => rfl); (case hg => rfl); (case hr => first | (go_simp; done) | (go_simp; rfl)); intro gb225 hg w15 hbox hb; have n0_ := Aside0.mk (zT (by repeat (first | (with_reducible first | exact HB.out | apply zA | apply zN | apply zD) | exact HB.out)) hb); have n1_ := Aside0.mk (hbox); have n2_ := Aside0.mk ((by rw [hg]; exact (zS (by repeat (first | (with_reducible first | exact HB.out | apply zA | apply zN | apply zD) | exact HB.out))) : w.heap.size ≤ gb225)); have n3_ := n2_; clear HB; have HB := n0_; have BK225 := n1_; have GW225 := n2_; have GE225 := n3_; clear n0_ n1_ n2_ n3_; clear hb hbox hg; have hcz16_0 : w15.cell? ⟨gb225, 0, none⟩ = some (.int .i64 0) := (blk_cell BK225.out 0).trans rfl; have hcz16_1 : w15.cell? ⟨gb225, 1, none⟩ = some (.int .i64 0) := (blk_cell BK225.out 1).trans rfl; have hcz16_2 : w15.cell? ⟨gb225, 2, none⟩ = some (.slice none 0 0) := (blk_cell BK225.out 2).trans rfl; have hcz16_3 : w15.cell? ⟨gb225, 3, none⟩ = some (.slice none 0 0) := (blk_cell BK225.out 3).trans rfl; have hcz16_4 : w15.cell? ⟨gb225, 4, none⟩ = some (.slice none 0 0) := (blk_cell BK225.out 4).trans rfl; have hfz16_0 := blk_frozen BK225.out 0; have hfz16_1 := blk_frozen BK225.out 1; have hfz16_2 := blk_frozen BK225.out 2; have hfz16_3 := blk_frozen BK225.out 3; have hfz16_4 := blk_frozen BK225.out 4))
          have n0_ : Aside0 ((((((w15.setCell ⟨gb225, 0, none⟩ (.int .i64 ((rd_T52 l0 x7_1).f0))).setCell ⟨gb225, 1, none⟩ (.int .i64 ((rd_T52 l0 x7_1).f1))).setCell ⟨gb225, 2, none⟩ (.slice A224_2 ((rd_T52 l0 x7_1).f2).length c224_2)).setCell ⟨gb225, 3, none⟩ (.slice A224_3 ((rd_T52 l0 x7_1).f3).length c224_3)).setCell ⟨gb225, 4, none⟩ (.slice A224_4 ((rd_T52 l0 x7_1).f4).length c224_4)).heap[gb225]? = some (.cells #[.int .i64 ((rd_T52 l0 x7_1).f0), .int .i64 ((rd_T52 l0 x7_1).f1), .slice A224_2 ((rd_T52 l0 x7_1).f2).length c224_2, .slice A224_3 ((rd_T52 l0 x7_1).f3).length c224_3, .slice A224_4 ((rd_T52 l0 x7_1).f4).length c224_4] 52 (0, 0))) := ⟨by (with_reducible repeat (first | refine yN ?_ _ | refine yD ?_ | refine yA ?_ _)); refine blk_put (cs := #[.int .i64 ((rd_T52 l0 x7_1).f0), .int .i64 ((rd_T52 l0 x7_1).f1), .slice A224_2 ((rd_T52 l0 x7_1).f2).length c224_2, .slice A224_3 ((rd_T52 l0 x7_1).f3).length c224_3, .slice none 0 0]) ?_ 4 _ rfl; (with_reducible repeat (first | refine yN ?_ _ | refine yD ?_ | refine yA ?_ _)); refine blk_put (cs := #[.int .i64 ((rd_T52 l0 x7_1).f0), .int .i64 ((rd_T52 l0 x7_1).f1), .slice A224_2 ((rd_T52 l0 x7_1).f2).length c224_2, .slice none 0 0, .slice none 0 0]) ?_ 3 _ rfl; (with_reducible repeat (first | refine yN ?_ _ | refine yD ?_ | refine yA ?_ _)); refine blk_put (cs := #[.int .i64 ((rd_T52 l0 x7_1).f0), .int .i64 ((rd_T52 l0 x7_1).f1), .slice none 0 0, .slice none 0 0, .slice none 0 0]) ?_ 2 _ rfl; (with_reducible repeat (first | refine yN ?_ _ | refine yD ?_ | refine yA ?_ _)); refine blk_put (cs := #[.int .i64 ((rd_T52 l0 x7_1).f0), .int .i64 0, .slice none 0 0, .slice none 0 0, .slice none 0 0]) ?_ 1 _ rfl; (with_reducible repeat (first | refine yN ?_ _ | refine yD ?_ | refine yA ?_ _)); refine blk_put (cs := #[.int .i64 0, .int .i64 0, .slice none 0 0, .slice none 0 0, .slice none 0 0]) ?_ 0 _ rfl; (with_reducible repeat (first | refine yN ?_ _ | refine yD ?_ | refine yA ?_ _)); exact BK225.out⟩
          have n1_ : Aside0 (Below w.heap.size w (((((w15.setCell ⟨gb225, 0, none⟩ (.int .i64 ((rd_T52 l0 x7_1).f0))).setCell ⟨gb225, 1, none⟩ (.int .i64 ((rd_T52 l0 x7_1).f1))).setCell ⟨gb225, 2, none⟩ (.slice A224_2 ((rd_T52 l0 x7_1).f2).length c224_2)).setCell ⟨gb225, 3, none⟩ (.slice A224_3 ((rd_T52 l0 x7_1).f3).length c224_3)).setCell ⟨gb225, 4, none⟩ (.slice A224_4 ((rd_T52 l0 x7_1).f4).length c224_4))) := ⟨by repeat (first | (with_reducible first | exact HB.out | apply zA | apply zN | apply zD | refine zP ?_ GE225.out) | exact HB.out)⟩
          (try clear BK225)
          (try clear HB)
          generalize (((((w15.setCell ⟨gb225, 0, none⟩ (.int .i64 ((rd_T52 l0 x7_1).f0))).setCell ⟨gb225, 1, none⟩ (.int .i64 ((rd_T52 l0 x7_1).f1))).setCell ⟨gb225, 2, none⟩ (.slice A224_2 ((rd_T52 l0 x7_1).f2).length c224_2)).setCell ⟨gb225, 3, none⟩ (.slice A224_3 ((rd_T52 l0 x7_1).f3).length c224_3)).setCell ⟨gb225, 4, none⟩ (.slice A224_4 ((rd_T52 l0 x7_1).f4).length c224_4)) = w17 at n0_ n1_ ⊢
          have BK225 := n0_
          have HB := n1_
          clear n0_ n1_
          have n0_ := Aside0.mk (yD BK225.out)
          have n1_ := Aside0.mk (zD HB.out)
          clear BK225
          clear HB
          have BK225 := n0_
          have HB := n1_
          clear n0_ n1_
          have p227 : 0 ≤ (0 : Int) := (by omega)
          have q227 : 0 < (l0.length : Int) := of_decide_eq_true (by first | (with_reducible assumption) | assumption)
          obtain ⟨ad227, A227_2, c227_2, A227_3, c227_3, A227_4, c227_4, e227, hx227_0, hx227_1, hx227_2, hx227_3, hx227_4, hl227_2, hi227_2, hl227_3, hi227_3, hl227_4, hi227_4⟩ := at_T52 HR0.out 0 p227 q227
          have hw227_4 := hx227_4
          (try rw [show ((0 : Int)).toNat = 0 from rfl] at hw227_4)
          (try rw [show 0 * 5 = 0 from rfl] at hw227_4)
          (try rw [Addr.add_zero'] at hw227_4)
          have hw227_3 := hx227_3
          (try rw [show ((0 : Int)).toNat = 0 from rfl] at hw227_3)
          (try rw [show 0 * 5 = 0 from rfl] at hw227_3)
          (try rw [Addr.add_zero'] at hw227_3)
          have hw227_2 := hx227_2
          (try rw [show ((0 : Int)).toNat = 0 from rfl] at hw227_2)
          (try rw [show 0 * 5 = 0 from rfl] at hw227_2)
          (try rw [Addr.add_zero'] at hw227_2)
          have hw227_1 := hx227_1
          (try rw [show ((0 : Int)).toNat = 0 from rfl] at hw227_1)
          (try rw [show 0 * 5 = 0 from rfl] at hw227_1)
          (try rw [Addr.add_zero'] at hw227_1)
          have hw227_0 := hx227_0
          (try rw [show ((0 : Int)).toNat = 0 from rfl] at hw227_0)
          (try rw [show 0 * 5 = 0 from rfl] at hw227_0)
          (try rw [Addr.add_zero'] at hw227_0)
          obtain rfl : ad224 = ad227 := (by injection e227)
          have qi227 : (0 < l0.length) = True := eq_true (by omega)
          (try rw [show ((0 : Int)).toNat = 0 from rfl] at hx227_0)
          (try rw [show 0 * 5 = 0 from rfl] at hx227_0)
          (try rw [Addr.add_zero'] at hx227_0)
          (try rw [show ((0 : Int)).toNat = 0 from rfl] at hx227_1)
          (try rw [show 0 * 5 = 0 from rfl] at hx227_1)
          (try rw [Addr.add_zero'] at hx227_1)
          (try rw [show ((0 : Int)).toNat = 0 from rfl] at hx227_2)
          (try rw [show 0 * 5 = 0 from rfl] at hx227_2)
          (try rw [Addr.add_zero'] at hx227_2)
          (try rw [show ((0 : Int)).toNat = 0 from rfl] at hx227_3)
          (try rw [show 0 * 5 = 0 from rfl] at hx227_3)
          (try rw [Addr.add_zero'] at hx227_3)
          (try rw [show ((0 : Int)).toNat = 0 from rfl] at hx227_4)
          (try rw [show 0 * 5 = 0 from rfl] at hx227_4)
          (try rw [Addr.add_zero'] at hx227_4)
          replace hx227_0 := (HB.out.cell (World.block_lt_of_cell? w _ hx227_0)).trans hx227_0
          replace hx227_1 := (HB.out.cell (World.block_lt_of_cell? w _ hx227_1)).trans hx227_1
          replace hx227_2 := (HB.out.cell (World.block_lt_of_cell? w _ hx227_2)).trans hx227_2
          replace hx227_3 := (HB.out.cell (World.block_lt_of_cell? w _ hx227_3)).trans hx227_3
          replace hx227_4 := (HB.out.cell (World.block_lt_of_cell? w _ hx227_4)).trans hx227_4
          have HR227_2 := Aside0.mk hi227_2
          have HC227_2 := Aside0.mk hl227_2
          clear hi227_2 hl227_2
          have HR227_3 := Aside0.mk hi227_3
          have HC227_3 := Aside0.mk hl227_3
          clear hi227_3 hl227_3
          have HR227_4 := Aside0.mk hi227_4
          have HC227_4 := Aside0.mk hl227_4
          clear hi227_4 hl227_4
          replace p227 := eq_true p227
          replace q227 := eq_true q227
          have p228 : 0 ≤ (0 : Int) := (by omega)
          have q228 : 0 < (l0.length : Int) := of_decide_eq_true (by first | (with_reducible assumption) | assumption)
          obtain ⟨ad228, A228_2, c228_2, A228_3, c228_3, A228_4, c228_4, e228, hx228_0, hx228_1, hx228_2, hx228_3, hx228_4, hl228_2, hi228_2, hl228_3, hi228_3, hl228_4, hi228_4⟩ := at_T52 HR0.out 0 p228 q228
          have hw228_4 := hx228_4
          (try rw [show ((0 : Int)).toNat = 0 from rfl] at hw228_4)
          (try rw [show 0 * 5 = 0 from rfl] at hw228_4)
          (try rw [Addr.add_zero'] at hw228_4)
          have hw228_3 := hx228_3
          (try rw [show ((0 : Int)).toNat = 0 from rfl] at hw228_3)
          (try rw [show 0 * 5 = 0 from rfl] at hw228_3)
          (try rw [Addr.add_zero'] at hw228_3)
          have hw228_2 := hx228_2
          (try rw [show ((0 : Int)).toNat = 0 from rfl] at hw228_2)
          (try rw [show 0 * 5 = 0 from rfl] at hw228_2)
          (try rw [Addr.add_zero'] at hw228_2)
          have hw228_1 := hx228_1
          (try rw [show ((0 : Int)).toNat = 0 from rfl] at hw228_1)
          (try rw [show 0 * 5 = 0 from rfl] at hw228_1)
          (try rw [Addr.add_zero'] at hw228_1)
          have hw228_0 := hx228_0
          (try rw [show ((0 : Int)).toNat = 0 from rfl] at hw228_0)
          (try rw [show 0 * 5 = 0 from rfl] at hw228_0)
          (try rw [Addr.add_zero'] at hw228_0)
          obtain rfl : ad224 = ad228 := (by injection e228)
          have qi228 : (0 < l0.length) = True := eq_true (by omega)
          (try rw [show ((0 : Int)).toNat = 0 from rfl] at hx228_0)
          (try rw [show 0 * 5 = 0 from rfl] at hx228_0)
          (try rw [Addr.add_zero'] at hx228_0)
          (try rw [show ((0 : Int)).toNat = 0 from rfl] at hx228_1)
          (try rw [show 0 * 5 = 0 from rfl] at hx228_1)
          (try rw [Addr.add_zero'] at hx228_1)
          (try rw [show ((0 : Int)).toNat = 0 from rfl] at hx228_2)
          (try rw [show 0 * 5 = 0 from rfl] at hx228_2)
          (try rw [Addr.add_zero'] at hx228_2)
          (try rw [show ((0 : Int)).toNat = 0 from rfl] at hx228_3)
          (try rw [show 0 * 5 = 0 from rfl] at hx228_3)
          (try rw [Addr.add_zero'] at hx228_3)
          (try rw [show ((0 : Int)).toNat = 0 from rfl] at hx228_4)
          (try rw [show 0 * 5 = 0 from rfl] at hx228_4)
          (try rw [Addr.add_zero'] at hx228_4)
          replace hx228_0 := (HB.out.cell (World.block_lt_of_cell? w _ hx228_0)).trans hx228_0
          replace hx228_1 := (HB.out.cell (World.block_lt_of_cell? w _ hx228_1)).trans hx228_1
          replace hx228_2 := (HB.out.cell (World.block_lt_of_cell? w _ hx228_2)).trans hx228_2
          replace hx228_3 := (HB.out.cell (World.block_lt_of_cell? w _ hx228_3)).trans hx228_3
          replace hx228_4 := (HB.out.cell (World.block_lt_of_cell? w _ hx228_4)).trans hx228_4
          have HR228_2 := Aside0.mk hi228_2
          have HC228_2 := Aside0.mk hl228_2
          clear hi228_2 hl228_2
          have HR228_3 := Aside0.mk hi228_3
          have HC228_3 := Aside0.mk hl228_3
          clear hi228_3 hl228_3
          have HR228_4 := Aside0.mk hi228_4
          have HC228_4 := Aside0.mk hl228_4
          clear hi228_4 hl228_4
          replace p228 := eq_true p228
          replace q228 := eq_true q228
          have ea_ := Option.some.inj (hx227_2.symm.trans hx228_2)
          injection ea_ with ea_ en_ ec_
          subst ea_
          subst ec_
          clear en_
          have ea_ := Option.some.inj (hx227_3.symm.trans hx228_3)
          injection ea_ with ea_ en_ ec_
          subst ea_
          subst ec_
          clear en_
          have ea_ := Option.some.inj (hx227_4.symm.trans hx228_4)
          injection ea_ with ea_ en_ ec_
          subst ea_
          subst ec_
          clear en_
          refine start_ (n := 21) (S := fun w' => w'.cell? ⟨gb225, 0, none⟩ = some (.int .i64 ((rd_T52 l0 x7_1).f0)) ∧ w'.cell? ⟨gb225, 1, none⟩ = some (.int .i64 ((rd_T52 l0 x7_1).f1)) ∧ w'.cell? ⟨gb225, 2, none⟩ = some (.slice A224_2 ((rd_T52 l0 x7_1).f2).length c224_2) ∧ w'.cell? ⟨gb225, 3, none⟩ = some (.slice A224_3 ((rd_T52 l0 x7_1).f3).length c224_3) ∧ w'.cell? ⟨gb225, 4, none⟩ = some (.slice A224_4 ((rd_T52 l0 x7_1).f4).length c224_4) ∧ w'.cell? ad224 = some (.int .i64 ((rd_T52 l0 0).f0)) ∧ w'.cell? ⟨ad224.block, ad224.off + 1, none⟩ = some (.int .i64 ((rd_T52 l0 0).f1)) ∧ w'.cell? ⟨ad224.block, ad224.off + 2, none⟩ = some (.slice A227_2 ((rd_T52 l0 0).f2).length c227_2) ∧ w'.cell? ⟨ad224.block, ad224.off + 3, none⟩ = some (.slice A227_3 ((rd_T52 l0 0).f3).length c227_3) ∧ w'.cell? ⟨ad224.block, ad224.off + 4, none⟩ = some (.slice A227_4 ((rd_T52 l0 0).f4).length c227_4) ∧ w'.cell? ad224 = some (.int .i64 ((rd_T52 l0 0).f0)) ∧ w'.cell? ⟨ad224.block, ad224.off + 1, none⟩ = some (.int .i64 ((rd_T52 l0 0).f1)) ∧ w'.cell? ⟨ad224.block, ad224.off + 2, none⟩ = some (.slice A227_2 ((rd_T52 l0 0).f2).length c227_2) ∧ w'.cell? ⟨ad224.block, ad224.off + 3, none⟩ = some (.slice A227_3 ((rd_T52 l0 0).f3).length c227_3) ∧ w'.cell? ⟨ad224.block, ad224.off + 4, none⟩ = some (.slice A227_4 ((rd_T52 l0 0).f4).length c227_4)) (ds := []) #[false, false, false, false, false, false, false, false, false, false, false, false, false, false, false, false, false, false, false, false, false] (by kernel_rfl) rfl rfl ⟨(blk_cell BK225.out 0).trans rfl, (blk_cell BK225.out 1).trans rfl, (blk_cell BK225.out 2).trans rfl, (blk_cell BK225.out 3).trans rfl, (blk_cell BK225.out 4).trans rfl, ((HB.out.cell (World.block_lt_of_cell? w _ hw227_0)).trans hw227_0), ((HB.out.cell (World.block_lt_of_cell? w _ hw227_1)).trans hw227_1), ((HB.out.cell (World.block_lt_of_cell? w _ hw227_2)).trans hw227_2), ((HB.out.cell (World.block_lt_of_cell? w _ hw227_3)).trans hw227_3), ((HB.out.cell (World.block_lt_of_cell? w _ hw227_4)).trans hw227_4), ((HB.out.cell (World.block_lt_of_cell? w _ hw228_0)).trans hw228_0), ((HB.out.cell (World.block_lt_of_cell? w _ hw228_1)).trans hw228_1), ((HB.out.cell (World.block_lt_of_cell? w _ hw228_2)).trans hw228_2), ((HB.out.cell (World.block_lt_of_cell? w _ hw228_3)).trans hw228_3), ((HB.out.cell (World.block_lt_of_cell? w _ hw228_4)).trans hw228_4)⟩ (fun hHeld => ?_); refine with_tabW cadence_alike.tab4 cadence_alike.bits4 (fun HT_ HW_ => ?_)
          generalize w17.drew = w18 at BK225 HB HR227_2 HR227_3 HR227_4 HR228_2 HR228_3 HR228_4 hx227_0 hx227_1 hx227_2 hx227_3 hx227_4 hx228_0 hx228_1 hx228_2 hx228_3 hx228_4 hHeld ⊢
          refine Abb.pT 0 11 #[T', F', F', F', F', F', F', F', F', F', F', F', F', F', F', F', F', F', F', F', F'] HT_ HW_ hHeld ?_
          refine one_ (i := 1) (N := some 12) #[T', T', F', F', F', F', F', F', F', F', F', F', F', F', F', F', F', F', F', F', F'] rfl rfl (one_of HT_.out (by kernel_rfl)) (by decide) (fun K hK => ?_)
          refine goes_ Try.func71 (by kernel_rfl) rfl #[.agg #[.int .i64 ((rd_T52 l0 x7_1).f0), .int .i64 ((rd_T52 l0 x7_1).f1), .slice A224_2 ((rd_T52 l0 x7_1).f2).length c224_2, .slice A224_3 ((rd_T52 l0 x7_1).f3).length c224_3, .slice A224_4 ((rd_T52 l0 x7_1).f4).length c224_4]] (by rfl) rfl rfl (by (try simp only [List.map_toArray, List.map_cons, List.map_nil]); first | done | rfl | (simp only [List.length_drop, List.length_take]; rfl)) ?_
          with_reducible refine (cadence_valid.calls ((rd_T52 l0 x7_1).f0) ((rd_T52 l0 x7_1).f1) _ _ ((rd_T52 l0 x7_1).f2) _ _ ((rd_T52 l0 x7_1).f3) _ _ ((rd_T52 l0 x7_1).f4) true _ ?side1 ?side2 ?side3 ?side4 ?side5 ?side6 A5.out).mono ?_
          (case side1 => repeat (first | exact (Kd.C_below HR224_2.out HB.out) | (with_reducible refine Kd.C_alloc ?_ _) | (with_reducible refine Kd.C_drewN ?_ _) | (with_reducible refine Kd.C_drew ?_)))
          (case side2 => exact HC224_2.out)
          (case side3 => repeat (first | exact (Kd.C_below HR224_3.out HB.out) | (with_reducible refine Kd.C_alloc ?_ _) | (with_reducible refine Kd.C_drewN ?_ _) | (with_reducible refine Kd.C_drew ?_)))
          (case side4 => exact HC224_3.out)
          (case side5 => repeat (first | exact (Kd.C_below HR224_4.out HB.out) | (with_reducible refine Kd.C_alloc ?_ _) | (with_reducible refine Kd.C_drewN ?_ _) | (with_reducible refine Kd.C_drew ?_)))
          (case side6 => exact HC224_4.out)
          rintro e w19 ⟨rfl, hb⟩
          refine ⟨_, rfl, ?_⟩
          have n0_ := Aside0.mk (yB (g := gb225) (o := .cells #[.int .i64 ((rd_T52 l0 x7_1).f0), .int .i64 ((rd_T52 l0 x7_1).f1), .slice A224_2 ((rd_T52 l0 x7_1).f2).length c224_2, .slice A224_3 ((rd_T52 l0 x7_1).f3).length c224_3, .slice A224_4 ((rd_T52 l0 x7_1).f4).length c224_4] 52 (0, 0)) (by (with_reducible repeat (first | refine yN ?_ _ | refine yD ?_ | refine yA ?_ _)); exact BK225.out) hb)
          have n1_ := Aside0.mk (zT (by repeat (first | (with_reducible first | exact HB.out | apply zA | apply zN | apply zD | refine zP ?_ GE225.out) | exact HB.out)) hb)
          clear BK225
          clear HB
          have BK225 := n0_
          have HB := n1_
          clear n0_ n1_
          (try clear hb)
          (try clear hb2)
          (try clear hk)
          (try clear hi)
          refine hK.out _ _ ⟨(blk_cell BK225.out 0).trans rfl, (blk_cell BK225.out 1).trans rfl, (blk_cell BK225.out 2).trans rfl, (blk_cell BK225.out 3).trans rfl, (blk_cell BK225.out 4).trans rfl, ((HB.out.cell (World.block_lt_of_cell? w _ hw227_0)).trans hw227_0), ((HB.out.cell (World.block_lt_of_cell? w _ hw227_1)).trans hw227_1), ((HB.out.cell (World.block_lt_of_cell? w _ hw227_2)).trans hw227_2), ((HB.out.cell (World.block_lt_of_cell? w _ hw227_3)).trans hw227_3), ((HB.out.cell (World.block_lt_of_cell? w _ hw227_4)).trans hw227_4), ((HB.out.cell (World.block_lt_of_cell? w _ hw228_0)).trans hw228_0), ((HB.out.cell (World.block_lt_of_cell? w _ hw228_1)).trans hw228_1), ((HB.out.cell (World.block_lt_of_cell? w _ hw228_2)).trans hw228_2), ((HB.out.cell (World.block_lt_of_cell? w _ hw228_3)).trans hw228_3), ((HB.out.cell (World.block_lt_of_cell? w _ hw228_4)).trans hw228_4)⟩ (fun hHeld => ?_)
          clear hK K
          refine norm_ (a' := ?_) ?_ ?_
          rotate_left
          ·show Act.put _ (some 12) _ = _
           simp only [Act.put, sA, sZ, sS, i64_w, i32_w]
           rfl
          refine Abb.pS 2 13 #[T', T', T', F', F', F', F', F', F', F', F', F', F', F', F', F', F', F', F', F', F'] HT_ ?_
          refine Abb.pS 3 14 #[T', T', T', T', F', F', F', F', F', F', F', F', F', F', F', F', F', F', F', F', F'] HT_ ?_
          refine Abb.pS 4 15 #[T', T', T', T', T', F', F', F', F', F', F', F', F', F', F', F', F', F', F', F', F'] HT_ ?_
          refine Abb.pS 6 17 #[T', T', T', T', T', F', T', F', F', F', F', F', F', F', F', F', F', F', F', F', F'] HT_ ?_
          refine Abb.pS 7 18 #[T', T', T', T', T', F', T', T', F', F', F', F', F', F', F', F', F', F', F', F', F'] HT_ ?_
          refine Abb.pS 8 19 #[T', T', T', T', T', F', T', T', T', F', F', F', F', F', F', F', F', F', F', F', F'] HT_ ?_
          refine Abb.pT 5 16 #[T', T', T', T', T', T', T', T', T', F', F', F', F', F', F', F', F', F', F', F', F'] HT_ HW_ hHeld ?_
          refine Abb.pT 9 20 #[T', T', T', T', T', T', T', T', T', T', F', F', F', F', F', F', F', F', F', F', F'] HT_ HW_ hHeld ?_
          refine Abb.pS 10 21 #[T', T', T', T', T', T', T', T', T', T', T', F', F', F', F', F', F', F', F', F', F'] HT_ ?_
          refine Abb.pS 11 22 #[T', T', T', T', T', T', T', T', T', T', T', T', F', F', F', F', F', F', F', F', F'] HT_ ?_
          refine Abb.pS 12 23 #[T', T', T', T', T', T', T', T', T', T', T', T', T', F', F', F', F', F', F', F', F'] HT_ ?_
          refine Abb.pS 13 24 #[T', T', T', T', T', T', T', T', T', T', T', T', T', T', F', F', F', F', F', F', F'] HT_ ?_
          refine Abb.pS 15 26 #[T', T', T', T', T', T', T', T', T', T', T', T', T', T', F', T', F', F', F', F', F'] HT_ ?_
          refine Abb.pS 16 27 #[T', T', T', T', T', T', T', T', T', T', T', T', T', T', F', T', T', F', F', F', F'] HT_ ?_
          refine Abb.pS 17 28 #[T', T', T', T', T', T', T', T', T', T', T', T', T', T', F', T', T', T', F', F', F'] HT_ ?_
          refine Abb.pT 14 25 #[T', T', T', T', T', T', T', T', T', T', T', T', T', T', T', T', T', T', F', F', F'] HT_ HW_ hHeld ?_
          refine Abb.pT 18 29 #[T', T', T', T', T', T', T', T', T', T', T', T', T', T', T', T', T', T', T', F', F'] HT_ HW_ hHeld ?_
          refine Abb.pS 19 30 #[T', T', T', T', T', T', T', T', T', T', T', T', T', T', T', T', T', T', T', T', F'] HT_ ?_
          refine Abb.pS 20 31 #[T', T', T', T', T', T', T', T', T', T', T', T', T', T', T', T', T', T', T', T', T'] HT_ ?_
          refine done_ (done_of HT_.out (by kernel_rfl)) ?_
          try go_wp2
          go_ret
          exact ⟨by first | rfl | (simp [errW_none, errW_some] <;> rfl) | (simp [*, errW_none, errW_some] <;> rfl), by repeat (first | (with_reducible first | exact HB.out | apply zA | apply zN | apply zD | refine zP ?_ GE225.out) | exact HB.out)⟩
        ·rw [if_neg c8] at H
         have c8b0 : (((rd_T52 l0 x7_1).f0) == ((rd_T52 l0 0).f0)) = false := beq_eq_false_iff_ne.mpr c8
         have c8b1 : (((rd_T52 l0 x7_1).f0) != ((rd_T52 l0 0).f0)) = true := bne_iff_ne.mpr c8
         obtain rfl := Option.some.inj H
         have p224 : 0 ≤ (x7_1 : Int) := of_decide_eq_true (by first | (with_reducible assumption) | assumption)
         have q224 : x7_1 < (l0.length : Int) := of_decide_eq_true (by first | (with_reducible assumption) | assumption)
         obtain ⟨ad224, A224_2, c224_2, A224_3, c224_3, A224_4, c224_4, e224, hx224_0, hx224_1, hx224_2, hx224_3, hx224_4, hl224_2, hi224_2, hl224_3, hi224_3, hl224_4, hi224_4⟩ := at_T52 HR0.out x7_1 p224 q224
         cases e224
         replace hx224_0 := (HB.out.cell (World.block_lt_of_cell? w _ hx224_0)).trans hx224_0
         replace hx224_1 := (HB.out.cell (World.block_lt_of_cell? w _ hx224_1)).trans hx224_1
         replace hx224_2 := (HB.out.cell (World.block_lt_of_cell? w _ hx224_2)).trans hx224_2
         replace hx224_3 := (HB.out.cell (World.block_lt_of_cell? w _ hx224_3)).trans hx224_3
         replace hx224_4 := (HB.out.cell (World.block_lt_of_cell? w _ hx224_4)).trans hx224_4
         have HR224_2 := Aside0.mk hi224_2
         have HC224_2 := Aside0.mk hl224_2
         clear hi224_2 hl224_2
         have HR224_3 := Aside0.mk hi224_3
         have HC224_3 := Aside0.mk hl224_3
         clear hi224_3 hl224_3
         have HR224_4 := Aside0.mk hi224_4
         have HC224_4 := Aside0.mk hl224_4
         clear hi224_4 hl224_4
         replace p224 := eq_true p224
         replace q224 := eq_true q224
         try go_wp2_with (first | ((with_reducible refine xD (N := 4) rfl ?_); refine box_event ?hg (N := 4) ?hd (cs := #[.int .i64 0, .int .i64 0, .slice none 0 0, .slice none 0 0, .slice none 0 0]) (t := 52) ?hr ?_; (case hd => rfl); (case hg => rfl); (case hr => first | (go_simp; done) | (go_simp; rfl)); intro gb225 hg w20 hbox hb; have n0_ := Aside0.mk (zT (by repeat (first | (with_reducible first | exact HB.out | apply zA | apply zN | apply zD) | exact HB.out)) hb); have n1_ := Aside0.mk (hbox); have n2_ := Aside0.mk ((by rw [hg]; exact (zS (by repeat (first | (with_reducible first | exact HB.out | apply zA | apply zN | apply zD) | exact HB.out))) : w.heap.size ≤ gb225)); have n3_ := n2_; clear HB; have HB := n0_; have BK225 := n1_; have GW225 := n2_; have GE225 := n3_; clear n0_ n1_ n2_ n3_; clear hb hbox hg; have hcz21_0 : w20.cell? ⟨gb225, 0, none⟩ = some (.int .i64 0) := (blk_cell BK225.out 0).trans rfl; have hcz21_1 : w20.cell? ⟨gb225, 1, none⟩ = some (.int .i64 0) := (blk_cell BK225.out 1).trans rfl; have hcz21_2 : w20.cell? ⟨gb225, 2, none⟩ = some (.slice none 0 0) := (blk_cell BK225.out 2).trans rfl; have hcz21_3 : w20.cell? ⟨gb225, 3, none⟩ = some (.slice none 0 0) := (blk_cell BK225.out 3).trans rfl; have hcz21_4 : w20.cell? ⟨gb225, 4, none⟩ = some (.slice none 0 0) := (blk_cell BK225.out 4).trans rfl; have hfz21_0 := blk_frozen BK225.out 0; have hfz21_1 := blk_frozen BK225.out 1; have hfz21_2 := blk_frozen BK225.out 2; have hfz21_3 := blk_frozen BK225.out 3; have hfz21_4 := blk_frozen BK225.out 4))
         have n0_ : Aside0 ((((((w20.setCell ⟨gb225, 0, none⟩ (.int .i64 ((rd_T52 l0 x7_1).f0))).setCell ⟨gb225, 1, none⟩ (.int .i64 ((rd_T52 l0 x7_1).f1))).setCell ⟨gb225, 2, none⟩ (.slice A224_2 ((rd_T52 l0 x7_1).f2).length c224_2)).setCell ⟨gb225, 3, none⟩ (.slice A224_3 ((rd_T52 l0 x7_1).f3).length c224_3)).setCell ⟨gb225, 4, none⟩ (.slice A224_4 ((rd_T52 l0 x7_1).f4).length c224_4)).heap[gb225]? = some (.cells #[.int .i64 ((rd_T52 l0 x7_1).f0), .int .i64 ((rd_T52 l0 x7_1).f1), .slice A224_2 ((rd_T52 l0 x7_1).f2).length c224_2, .slice A224_3 ((rd_T52 l0 x7_1).f3).length c224_3, .slice A224_4 ((rd_T52 l0 x7_1).f4).length c224_4] 52 (0, 0))) := ⟨by (with_reducible repeat (first | refine yN ?_ _ | refine yD ?_ | refine yA ?_ _)); refine blk_put (cs := #[.int .i64 ((rd_T52 l0 x7_1).f0), .int .i64 ((rd_T52 l0 x7_1).f1), .slice A224_2 ((rd_T52 l0 x7_1).f2).length c224_2, .slice A224_3 ((rd_T52 l0 x7_1).f3).length c224_3, .slice none 0 0]) ?_ 4 _ rfl; (with_reducible repeat (first | refine yN ?_ _ | refine yD ?_ | refine yA ?_ _)); refine blk_put (cs := #[.int .i64 ((rd_T52 l0 x7_1).f0), .int .i64 ((rd_T52 l0 x7_1).f1), .slice A224_2 ((rd_T52 l0 x7_1).f2).length c224_2, .slice none 0 0, .slice none 0 0]) ?_ 3 _ rfl; (with_reducible repeat (first | refine yN ?_ _ | refine yD ?_ | refine yA ?_ _)); refine blk_put (cs := #[.int .i64 ((rd_T52 l0 x7_1).f0), .int .i64 ((rd_T52 l0 x7_1).f1), .slice none 0 0, .slice none 0 0, .slice none 0 0]) ?_ 2 _ rfl; (with_reducible repeat (first | refine yN ?_ _ | refine yD ?_ | refine yA ?_ _)); refine blk_put (cs := #[.int .i64 ((rd_T52 l0 x7_1).f0), .int .i64 0, .slice none 0 0, .slice none 0 0, .slice none 0 0]) ?_ 1 _ rfl; (with_reducible repeat (first | refine yN ?_ _ | refine yD ?_ | refine yA ?_ _)); refine blk_put (cs := #[.int .i64 0, .int .i64 0, .slice none 0 0, .slice none 0 0, .slice none 0 0]) ?_ 0 _ rfl; (with_reducible repeat (first | refine yN ?_ _ | refine yD ?_ | refine yA ?_ _)); exact BK225.out⟩
         have n1_ : Aside0 (Below w.heap.size w (((((w20.setCell ⟨gb225, 0, none⟩ (.int .i64 ((rd_T52 l0 x7_1).f0))).setCell ⟨gb225, 1, none⟩ (.int .i64 ((rd_T52 l0 x7_1).f1))).setCell ⟨gb225, 2, none⟩ (.slice A224_2 ((rd_T52 l0 x7_1).f2).length c224_2)).setCell ⟨gb225, 3, none⟩ (.slice A224_3 ((rd_T52 l0 x7_1).f3).length c224_3)).setCell ⟨gb225, 4, none⟩ (.slice A224_4 ((rd_T52 l0 x7_1).f4).length c224_4))) := ⟨by repeat (first | (with_reducible first | exact HB.out | apply zA | apply zN | apply zD | refine zP ?_ GE225.out) | exact HB.out)⟩
         (try clear BK225)
         (try clear HB)
         generalize (((((w20.setCell ⟨gb225, 0, none⟩ (.int .i64 ((rd_T52 l0 x7_1).f0))).setCell ⟨gb225, 1, none⟩ (.int .i64 ((rd_T52 l0 x7_1).f1))).setCell ⟨gb225, 2, none⟩ (.slice A224_2 ((rd_T52 l0 x7_1).f2).length c224_2)).setCell ⟨gb225, 3, none⟩ (.slice A224_3 ((rd_T52 l0 x7_1).f3).length c224_3)).setCell ⟨gb225, 4, none⟩ (.slice A224_4 ((rd_T52 l0 x7_1).f4).length c224_4)) = w22 at n0_ n1_ ⊢
         have BK225 := n0_
         have HB := n1_
         clear n0_ n1_
         have n0_ := Aside0.mk (yD BK225.out)
         have n1_ := Aside0.mk (zD HB.out)
         clear BK225
         clear HB
         have BK225 := n0_
         have HB := n1_
         clear n0_ n1_
         have p227 : 0 ≤ (0 : Int) := (by omega)
         have q227 : 0 < (l0.length : Int) := of_decide_eq_true (by first | (with_reducible assumption) | assumption)
         obtain ⟨ad227, A227_2, c227_2, A227_3, c227_3, A227_4, c227_4, e227, hx227_0, hx227_1, hx227_2, hx227_3, hx227_4, hl227_2, hi227_2, hl227_3, hi227_3, hl227_4, hi227_4⟩ := at_T52 HR0.out 0 p227 q227
         have hw227_4 := hx227_4
         (try rw [show ((0 : Int)).toNat = 0 from rfl] at hw227_4)
         (try rw [show 0 * 5 = 0 from rfl] at hw227_4)
         (try rw [Addr.add_zero'] at hw227_4)
         have hw227_3 := hx227_3
         (try rw [show ((0 : Int)).toNat = 0 from rfl] at hw227_3)
         (try rw [show 0 * 5 = 0 from rfl] at hw227_3)
         (try rw [Addr.add_zero'] at hw227_3)
         have hw227_2 := hx227_2
         (try rw [show ((0 : Int)).toNat = 0 from rfl] at hw227_2)
         (try rw [show 0 * 5 = 0 from rfl] at hw227_2)
         (try rw [Addr.add_zero'] at hw227_2)
         have hw227_1 := hx227_1
         (try rw [show ((0 : Int)).toNat = 0 from rfl] at hw227_1)
         (try rw [show 0 * 5 = 0 from rfl] at hw227_1)
         (try rw [Addr.add_zero'] at hw227_1)
         have hw227_0 := hx227_0
         (try rw [show ((0 : Int)).toNat = 0 from rfl] at hw227_0)
         (try rw [show 0 * 5 = 0 from rfl] at hw227_0)
         (try rw [Addr.add_zero'] at hw227_0)
         obtain rfl : ad224 = ad227 := (by injection e227)
         have qi227 : (0 < l0.length) = True := eq_true (by omega)
         (try rw [show ((0 : Int)).toNat = 0 from rfl] at hx227_0)
         (try rw [show 0 * 5 = 0 from rfl] at hx227_0)
         (try rw [Addr.add_zero'] at hx227_0)
         (try rw [show ((0 : Int)).toNat = 0 from rfl] at hx227_1)
         (try rw [show 0 * 5 = 0 from rfl] at hx227_1)
         (try rw [Addr.add_zero'] at hx227_1)
         (try rw [show ((0 : Int)).toNat = 0 from rfl] at hx227_2)
         (try rw [show 0 * 5 = 0 from rfl] at hx227_2)
         (try rw [Addr.add_zero'] at hx227_2)
         (try rw [show ((0 : Int)).toNat = 0 from rfl] at hx227_3)
         (try rw [show 0 * 5 = 0 from rfl] at hx227_3)
         (try rw [Addr.add_zero'] at hx227_3)
         (try rw [show ((0 : Int)).toNat = 0 from rfl] at hx227_4)
         (try rw [show 0 * 5 = 0 from rfl] at hx227_4)
         (try rw [Addr.add_zero'] at hx227_4)
         replace hx227_0 := (HB.out.cell (World.block_lt_of_cell? w _ hx227_0)).trans hx227_0
         replace hx227_1 := (HB.out.cell (World.block_lt_of_cell? w _ hx227_1)).trans hx227_1
         replace hx227_2 := (HB.out.cell (World.block_lt_of_cell? w _ hx227_2)).trans hx227_2
         replace hx227_3 := (HB.out.cell (World.block_lt_of_cell? w _ hx227_3)).trans hx227_3
         replace hx227_4 := (HB.out.cell (World.block_lt_of_cell? w _ hx227_4)).trans hx227_4
         have HR227_2 := Aside0.mk hi227_2
         have HC227_2 := Aside0.mk hl227_2
         clear hi227_2 hl227_2
         have HR227_3 := Aside0.mk hi227_3
         have HC227_3 := Aside0.mk hl227_3
         clear hi227_3 hl227_3
         have HR227_4 := Aside0.mk hi227_4
         have HC227_4 := Aside0.mk hl227_4
         clear hi227_4 hl227_4
         replace p227 := eq_true p227
         replace q227 := eq_true q227
         refine start_ (n := 21) (S := fun w' => w'.cell? ⟨gb225, 0, none⟩ = some (.int .i64 ((rd_T52 l0 x7_1).f0)) ∧ w'.cell? ⟨gb225, 1, none⟩ = some (.int .i64 ((rd_T52 l0 x7_1).f1)) ∧ w'.cell? ⟨gb225, 2, none⟩ = some (.slice A224_2 ((rd_T52 l0 x7_1).f2).length c224_2) ∧ w'.cell? ⟨gb225, 3, none⟩ = some (.slice A224_3 ((rd_T52 l0 x7_1).f3).length c224_3) ∧ w'.cell? ⟨gb225, 4, none⟩ = some (.slice A224_4 ((rd_T52 l0 x7_1).f4).length c224_4) ∧ w'.cell? ad224 = some (.int .i64 ((rd_T52 l0 0).f0)) ∧ w'.cell? ⟨ad224.block, ad224.off + 1, none⟩ = some (.int .i64 ((rd_T52 l0 0).f1)) ∧ w'.cell? ⟨ad224.block, ad224.off + 2, none⟩ = some (.slice A227_2 ((rd_T52 l0 0).f2).length c227_2) ∧ w'.cell? ⟨ad224.block, ad224.off + 3, none⟩ = some (.slice A227_3 ((rd_T52 l0 0).f3).length c227_3) ∧ w'.cell? ⟨ad224.block, ad224.off + 4, none⟩ = some (.slice A227_4 ((rd_T52 l0 0).f4).length c227_4)) (ds := []) #[false, false, false, false, false, false, false, false, false, false, false, false, false, false, false, false, false, false, false, false, false] (by kernel_rfl) rfl rfl ⟨(blk_cell BK225.out 0).trans rfl, (blk_cell BK225.out 1).trans rfl, (blk_cell BK225.out 2).trans rfl, (blk_cell BK225.out 3).trans rfl, (blk_cell BK225.out 4).trans rfl, ((HB.out.cell (World.block_lt_of_cell? w _ hw227_0)).trans hw227_0), ((HB.out.cell (World.block_lt_of_cell? w _ hw227_1)).trans hw227_1), ((HB.out.cell (World.block_lt_of_cell? w _ hw227_2)).trans hw227_2), ((HB.out.cell (World.block_lt_of_cell? w _ hw227_3)).trans hw227_3), ((HB.out.cell (World.block_lt_of_cell? w _ hw227_4)).trans hw227_4)⟩ (fun hHeld => ?_); refine with_tabW cadence_alike.tab4 cadence_alike.bits4 (fun HT_ HW_ => ?_)
         generalize w22.drew = w23 at BK225 HB HR227_2 HR227_3 HR227_4 hx227_0 hx227_1 hx227_2 hx227_3 hx227_4 hHeld ⊢
         refine Abb.pT 0 11 #[T', F', F', F', F', F', F', F', F', F', F', F', F', F', F', F', F', F', F', F', F'] HT_ HW_ hHeld ?_
         refine one_ (i := 1) (N := some 12) #[T', T', F', F', F', F', F', F', F', F', F', F', F', F', F', F', F', F', F', F', F'] rfl rfl (one_of HT_.out (by kernel_rfl)) (by decide) (fun K hK => ?_)
         refine goes_ Try.func71 (by kernel_rfl) rfl #[.agg #[.int .i64 ((rd_T52 l0 x7_1).f0), .int .i64 ((rd_T52 l0 x7_1).f1), .slice A224_2 ((rd_T52 l0 x7_1).f2).length c224_2, .slice A224_3 ((rd_T52 l0 x7_1).f3).length c224_3, .slice A224_4 ((rd_T52 l0 x7_1).f4).length c224_4]] (by rfl) rfl rfl (by (try simp only [List.map_toArray, List.map_cons, List.map_nil]); first | done | rfl | (simp only [List.length_drop, List.length_take]; rfl)) ?_
         with_reducible refine (cadence_valid.calls ((rd_T52 l0 x7_1).f0) ((rd_T52 l0 x7_1).f1) _ _ ((rd_T52 l0 x7_1).f2) _ _ ((rd_T52 l0 x7_1).f3) _ _ ((rd_T52 l0 x7_1).f4) true _ ?side1 ?side2 ?side3 ?side4 ?side5 ?side6 A5.out).mono ?_
         (case side1 => repeat (first | exact (Kd.C_below HR224_2.out HB.out) | (with_reducible refine Kd.C_alloc ?_ _) | (with_reducible refine Kd.C_drewN ?_ _) | (with_reducible refine Kd.C_drew ?_)))
         (case side2 => exact HC224_2.out)
         (case side3 => repeat (first | exact (Kd.C_below HR224_3.out HB.out) | (with_reducible refine Kd.C_alloc ?_ _) | (with_reducible refine Kd.C_drewN ?_ _) | (with_reducible refine Kd.C_drew ?_)))
         (case side4 => exact HC224_3.out)
         (case side5 => repeat (first | exact (Kd.C_below HR224_4.out HB.out) | (with_reducible refine Kd.C_alloc ?_ _) | (with_reducible refine Kd.C_drewN ?_ _) | (with_reducible refine Kd.C_drew ?_)))
         (case side6 => exact HC224_4.out)
         rintro e w24 ⟨rfl, hb⟩
         refine ⟨_, rfl, ?_⟩
         have n0_ := Aside0.mk (yB (g := gb225) (o := .cells #[.int .i64 ((rd_T52 l0 x7_1).f0), .int .i64 ((rd_T52 l0 x7_1).f1), .slice A224_2 ((rd_T52 l0 x7_1).f2).length c224_2, .slice A224_3 ((rd_T52 l0 x7_1).f3).length c224_3, .slice A224_4 ((rd_T52 l0 x7_1).f4).length c224_4] 52 (0, 0)) (by (with_reducible repeat (first | refine yN ?_ _ | refine yD ?_ | refine yA ?_ _)); exact BK225.out) hb)
         have n1_ := Aside0.mk (zT (by repeat (first | (with_reducible first | exact HB.out | apply zA | apply zN | apply zD | refine zP ?_ GE225.out) | exact HB.out)) hb)
         clear BK225
         clear HB
         have BK225 := n0_
         have HB := n1_
         clear n0_ n1_
         (try clear hb)
         (try clear hb2)
         (try clear hk)
         (try clear hi)
         refine hK.out _ _ ⟨(blk_cell BK225.out 0).trans rfl, (blk_cell BK225.out 1).trans rfl, (blk_cell BK225.out 2).trans rfl, (blk_cell BK225.out 3).trans rfl, (blk_cell BK225.out 4).trans rfl, ((HB.out.cell (World.block_lt_of_cell? w _ hw227_0)).trans hw227_0), ((HB.out.cell (World.block_lt_of_cell? w _ hw227_1)).trans hw227_1), ((HB.out.cell (World.block_lt_of_cell? w _ hw227_2)).trans hw227_2), ((HB.out.cell (World.block_lt_of_cell? w _ hw227_3)).trans hw227_3), ((HB.out.cell (World.block_lt_of_cell? w _ hw227_4)).trans hw227_4)⟩ (fun hHeld => ?_)
         clear hK K
         refine norm_ (a' := ?_) ?_ ?_
         rotate_left
         ·show Act.put _ (some 12) _ = _
          simp only [Act.put, sA, sZ, sS, i64_w, i32_w]
          rfl
         refine Abb.pS 2 13 #[T', T', T', F', F', F', F', F', F', F', F', F', F', F', F', F', F', F', F', F', F'] HT_ ?_
         refine Abb.pS 3 14 #[T', T', T', T', F', F', F', F', F', F', F', F', F', F', F', F', F', F', F', F', F'] HT_ ?_
         refine Abb.pS 4 15 #[T', T', T', T', T', F', F', F', F', F', F', F', F', F', F', F', F', F', F', F', F'] HT_ ?_
         refine Abb.pS 6 17 #[T', T', T', T', T', F', T', F', F', F', F', F', F', F', F', F', F', F', F', F', F'] HT_ ?_
         refine Abb.pS 7 18 #[T', T', T', T', T', F', T', T', F', F', F', F', F', F', F', F', F', F', F', F', F'] HT_ ?_
         refine Abb.pS 8 19 #[T', T', T', T', T', F', T', T', T', F', F', F', F', F', F', F', F', F', F', F', F'] HT_ ?_
         refine Abb.pT 5 16 #[T', T', T', T', T', T', T', T', T', F', F', F', F', F', F', F', F', F', F', F', F'] HT_ HW_ hHeld ?_
         refine Abb.pT 9 20 #[T', T', T', T', T', T', T', T', T', T', F', F', F', F', F', F', F', F', F', F', F'] HT_ HW_ hHeld ?_
         refine Abb.pS 10 21 #[T', T', T', T', T', T', T', T', T', T', T', F', F', F', F', F', F', F', F', F', F'] HT_ ?_
         refine Abb.pS 11 22 #[T', T', T', T', T', T', T', T', T', T', T', T', F', F', F', F', F', F', F', F', F'] HT_ ?_
         refine Abb.pS 12 23 #[T', T', T', T', T', T', T', T', T', T', T', T', T', F', F', F', F', F', F', F', F'] HT_ ?_
         refine pure_ (i := 13) (N := some 24) (v := undef) (a' := ?_) #[T', T', T', T', T', T', T', T', T', T', T', T', T', T', F', F', F', F', F', F', F'] rfl rfl (any_of HT_.out (by kernel_rfl)) (fun _ _ _ h => h) (Or.inr ⟨by rfl, rfl⟩) ?_ ?_
         rotate_left
         ·simp only [Act.put, sA, sZ, sS, i64_w, i32_w]
          rfl
         refine pure_ (i := 14) (N := some 25) (v := undef) (a' := ?_) #[T', T', T', T', T', T', T', T', T', T', T', T', T', T', T', F', F', F', F', F', F'] rfl rfl (any_of HT_.out (by kernel_rfl)) (fun _ _ _ h => h) (Or.inr ⟨by rfl, rfl⟩) ?_ ?_
         rotate_left
         ·simp only [Act.put, sA, sZ, sS, i64_w, i32_w]
          rfl
         refine pure_ (i := 15) (N := some 26) (v := undef) (a' := ?_) #[T', T', T', T', T', T', T', T', T', T', T', T', T', T', T', T', F', F', F', F', F'] rfl rfl (any_of HT_.out (by kernel_rfl)) (fun _ _ _ h => h) (Or.inr ⟨by rfl, rfl⟩) ?_ ?_
         rotate_left
         ·simp only [Act.put, sA, sZ, sS, i64_w, i32_w]
          rfl
         refine pure_ (i := 16) (N := some 27) (v := undef) (a' := ?_) #[T', T', T', T', T', T', T', T', T', T', T', T', T', T', T', T', T', F', F', F', F'] rfl rfl (any_of HT_.out (by kernel_rfl)) (fun _ _ _ h => h) (Or.inr ⟨by rfl, rfl⟩) ?_ ?_
         rotate_left
         ·simp only [Act.put, sA, sZ, sS, i64_w, i32_w]
          rfl
         refine pure_ (i := 17) (N := some 28) (v := undef) (a' := ?_) #[T', T', T', T', T', T', T', T', T', T', T', T', T', T', T', T', T', T', F', F', F'] rfl rfl (any_of HT_.out (by kernel_rfl)) (fun _ _ _ h => h) (Or.inr ⟨by rfl, rfl⟩) ?_ ?_
         rotate_left
         ·simp only [Act.put, sA, sZ, sS, i64_w, i32_w]
          rfl
         refine pure_ (i := 18) (N := some 29) (v := undef) (a' := ?_) #[T', T', T', T', T', T', T', T', T', T', T', T', T', T', T', T', T', T', T', F', F'] rfl rfl (any_of HT_.out (by kernel_rfl)) (fun _ _ _ h => h) (Or.inr ⟨by rfl, rfl⟩) ?_ ?_
         rotate_left
         ·simp only [Act.put, sA, sZ, sS, i64_w, i32_w]
          rfl
         refine pure_ (i := 19) (N := some 30) (v := undef) (a' := ?_) #[T', T', T', T', T', T', T', T', T', T', T', T', T', T', T', T', T', T', T', T', F'] rfl rfl (any_of HT_.out (by kernel_rfl)) (fun _ _ _ h => h) (Or.inr ⟨by rfl, rfl⟩) ?_ ?_
         rotate_left
         ·simp only [Act.put, sA, sZ, sS, i64_w, i32_w]
          rfl
         refine Abb.pS 20 31 #[T', T', T', T', T', T', T', T', T', T', T', T', T', T', T', T', T', T', T', T', T'] HT_ ?_
         refine done_ (done_of HT_.out (by kernel_rfl)) ?_
         try go_wp2
         go_ret
         exact ⟨by first | rfl | (simp [errW_none, errW_some] <;> rfl) | (simp [*, errW_none, errW_some] <;> rfl), by repeat (first | (with_reducible first | exact HB.out | apply zA | apply zN | apply zD | refine zP ?_ GE225.out) | exact HB.out)⟩
       ·rw [if_neg c7] at H
        exact absurd H (by simp)
      ·replace c6 := Bool.eq_false_iff.mpr c6
       subst c6
       have H1 : (some false) = some r := by rw [if_neg (show ¬ (false = true) by decide)] at H; exact H
       clear H
       have H := H1
       clear H1
       obtain rfl := Option.some.inj H
       have p224 : 0 ≤ (x7_1 : Int) := of_decide_eq_true (by first | (with_reducible assumption) | assumption)
       have q224 : x7_1 < (l0.length : Int) := of_decide_eq_true (by first | (with_reducible assumption) | assumption)
       obtain ⟨ad224, A224_2, c224_2, A224_3, c224_3, A224_4, c224_4, e224, hx224_0, hx224_1, hx224_2, hx224_3, hx224_4, hl224_2, hi224_2, hl224_3, hi224_3, hl224_4, hi224_4⟩ := at_T52 HR0.out x7_1 p224 q224
       cases e224
       replace hx224_0 := (HB.out.cell (World.block_lt_of_cell? w _ hx224_0)).trans hx224_0
       replace hx224_1 := (HB.out.cell (World.block_lt_of_cell? w _ hx224_1)).trans hx224_1
       replace hx224_2 := (HB.out.cell (World.block_lt_of_cell? w _ hx224_2)).trans hx224_2
       replace hx224_3 := (HB.out.cell (World.block_lt_of_cell? w _ hx224_3)).trans hx224_3
       replace hx224_4 := (HB.out.cell (World.block_lt_of_cell? w _ hx224_4)).trans hx224_4
       have HR224_2 := Aside0.mk hi224_2
       have HC224_2 := Aside0.mk hl224_2
       clear hi224_2 hl224_2
       have HR224_3 := Aside0.mk hi224_3
       have HC224_3 := Aside0.mk hl224_3
       clear hi224_3 hl224_3
       have HR224_4 := Aside0.mk hi224_4
       have HC224_4 := Aside0.mk hl224_4
       clear hi224_4 hl224_4
       replace p224 := eq_true p224
       replace q224 := eq_true q224
       try go_wp2_with (first | ((with_reducible refine xD (N := 4) rfl ?_); refine box_event ?hg (N := 4) ?hd (cs := #[.int .i64 0, .int .i64 0, .slice none 0 0, .slice none 0 0, .slice none 0 0]) (t := 52) ?hr ?_; (case hd => rfl); (case hg => rfl); (case hr => first | (go_simp; done) | (go_simp; rfl)); intro gb225 hg w25 hbox hb; have n0_ := Aside0.mk (zT (by repeat (first | (with_reducible first | exact HB.out | apply zA | apply zN | apply zD) | exact HB.out)) hb); have n1_ := Aside0.mk (hbox); have n2_ := Aside0.mk ((by rw [hg]; exact (zS (by repeat (first | (with_reducible first | exact HB.out | apply zA | apply zN | apply zD) | exact HB.out))) : w.heap.size ≤ gb225)); have n3_ := n2_; clear HB; have HB := n0_; have BK225 := n1_; have GW225 := n2_; have GE225 := n3_; clear n0_ n1_ n2_ n3_; clear hb hbox hg; have hcz26_0 : w25.cell? ⟨gb225, 0, none⟩ = some (.int .i64 0) := (blk_cell BK225.out 0).trans rfl; have hcz26_1 : w25.cell? ⟨gb225, 1, none⟩ = some (.int .i64 0) := (blk_cell BK225.out 1).trans rfl; have hcz26_2 : w25.cell? ⟨gb225, 2, none⟩ = some (.slice none 0 0) := (blk_cell BK225.out 2).trans rfl; have hcz26_3 : w25.cell? ⟨gb225, 3, none⟩ = some (.slice none 0 0) := (blk_cell BK225.out 3).trans rfl; have hcz26_4 : w25.cell? ⟨gb225, 4, none⟩ = some (.slice none 0 0) := (blk_cell BK225.out 4).trans rfl; have hfz26_0 := blk_frozen BK225.out 0; have hfz26_1 := blk_frozen BK225.out 1; have hfz26_2 := blk_frozen BK225.out 2; have hfz26_3 := blk_frozen BK225.out 3; have hfz26_4 := blk_frozen BK225.out 4))
       have n0_ : Aside0 ((((((w25.setCell ⟨gb225, 0, none⟩ (.int .i64 ((rd_T52 l0 x7_1).f0))).setCell ⟨gb225, 1, none⟩ (.int .i64 ((rd_T52 l0 x7_1).f1))).setCell ⟨gb225, 2, none⟩ (.slice A224_2 ((rd_T52 l0 x7_1).f2).length c224_2)).setCell ⟨gb225, 3, none⟩ (.slice A224_3 ((rd_T52 l0 x7_1).f3).length c224_3)).setCell ⟨gb225, 4, none⟩ (.slice A224_4 ((rd_T52 l0 x7_1).f4).length c224_4)).heap[gb225]? = some (.cells #[.int .i64 ((rd_T52 l0 x7_1).f0), .int .i64 ((rd_T52 l0 x7_1).f1), .slice A224_2 ((rd_T52 l0 x7_1).f2).length c224_2, .slice A224_3 ((rd_T52 l0 x7_1).f3).length c224_3, .slice A224_4 ((rd_T52 l0 x7_1).f4).length c224_4] 52 (0, 0))) := ⟨by (with_reducible repeat (first | refine yN ?_ _ | refine yD ?_ | refine yA ?_ _)); refine blk_put (cs := #[.int .i64 ((rd_T52 l0 x7_1).f0), .int .i64 ((rd_T52 l0 x7_1).f1), .slice A224_2 ((rd_T52 l0 x7_1).f2).length c224_2, .slice A224_3 ((rd_T52 l0 x7_1).f3).length c224_3, .slice none 0 0]) ?_ 4 _ rfl; (with_reducible repeat (first | refine yN ?_ _ | refine yD ?_ | refine yA ?_ _)); refine blk_put (cs := #[.int .i64 ((rd_T52 l0 x7_1).f0), .int .i64 ((rd_T52 l0 x7_1).f1), .slice A224_2 ((rd_T52 l0 x7_1).f2).length c224_2, .slice none 0 0, .slice none 0 0]) ?_ 3 _ rfl; (with_reducible repeat (first | refine yN ?_ _ | refine yD ?_ | refine yA ?_ _)); refine blk_put (cs := #[.int .i64 ((rd_T52 l0 x7_1).f0), .int .i64 ((rd_T52 l0 x7_1).f1), .slice none 0 0, .slice none 0 0, .slice none 0 0]) ?_ 2 _ rfl; (with_reducible repeat (first | refine yN ?_ _ | refine yD ?_ | refine yA ?_ _)); refine blk_put (cs := #[.int .i64 ((rd_T52 l0 x7_1).f0), .int .i64 0, .slice none 0 0, .slice none 0 0, .slice none 0 0]) ?_ 1 _ rfl; (with_reducible repeat (first | refine yN ?_ _ | refine yD ?_ | refine yA ?_ _)); refine blk_put (cs := #[.int .i64 0, .int .i64 0, .slice none 0 0, .slice none 0 0, .slice none 0 0]) ?_ 0 _ rfl; (with_reducible repeat (first | refine yN ?_ _ | refine yD ?_ | refine yA ?_ _)); exact BK225.out⟩
       have n1_ : Aside0 (Below w.heap.size w (((((w25.setCell ⟨gb225, 0, none⟩ (.int .i64 ((rd_T52 l0 x7_1).f0))).setCell ⟨gb225, 1, none⟩ (.int .i64 ((rd_T52 l0 x7_1).f1))).setCell ⟨gb225, 2, none⟩ (.slice A224_2 ((rd_T52 l0 x7_1).f2).length c224_2)).setCell ⟨gb225, 3, none⟩ (.slice A224_3 ((rd_T52 l0 x7_1).f3).length c224_3)).setCell ⟨gb225, 4, none⟩ (.slice A224_4 ((rd_T52 l0 x7_1).f4).length c224_4))) := ⟨by repeat (first | (with_reducible first | exact HB.out | apply zA | apply zN | apply zD | refine zP ?_ GE225.out) | exact HB.out)⟩
       (try clear BK225)
       (try clear HB)
       generalize (((((w25.setCell ⟨gb225, 0, none⟩ (.int .i64 ((rd_T52 l0 x7_1).f0))).setCell ⟨gb225, 1, none⟩ (.int .i64 ((rd_T52 l0 x7_1).f1))).setCell ⟨gb225, 2, none⟩ (.slice A224_2 ((rd_T52 l0 x7_1).f2).length c224_2)).setCell ⟨gb225, 3, none⟩ (.slice A224_3 ((rd_T52 l0 x7_1).f3).length c224_3)).setCell ⟨gb225, 4, none⟩ (.slice A224_4 ((rd_T52 l0 x7_1).f4).length c224_4)) = w27 at n0_ n1_ ⊢
       have BK225 := n0_
       have HB := n1_
       clear n0_ n1_
       have n0_ := Aside0.mk (yD BK225.out)
       have n1_ := Aside0.mk (zD HB.out)
       clear BK225
       clear HB
       have BK225 := n0_
       have HB := n1_
       clear n0_ n1_
       refine start_ (n := 21) (S := fun w' => w'.cell? ⟨gb225, 0, none⟩ = some (.int .i64 ((rd_T52 l0 x7_1).f0)) ∧ w'.cell? ⟨gb225, 1, none⟩ = some (.int .i64 ((rd_T52 l0 x7_1).f1)) ∧ w'.cell? ⟨gb225, 2, none⟩ = some (.slice A224_2 ((rd_T52 l0 x7_1).f2).length c224_2) ∧ w'.cell? ⟨gb225, 3, none⟩ = some (.slice A224_3 ((rd_T52 l0 x7_1).f3).length c224_3) ∧ w'.cell? ⟨gb225, 4, none⟩ = some (.slice A224_4 ((rd_T52 l0 x7_1).f4).length c224_4)) (ds := []) #[false, false, false, false, false, false, false, false, false, false, false, false, false, false, false, false, false, false, false, false, false] (by kernel_rfl) rfl rfl ⟨(blk_cell BK225.out 0).trans rfl, (blk_cell BK225.out 1).trans rfl, (blk_cell BK225.out 2).trans rfl, (blk_cell BK225.out 3).trans rfl, (blk_cell BK225.out 4).trans rfl⟩ (fun hHeld => ?_); refine with_tabW cadence_alike.tab4 cadence_alike.bits4 (fun HT_ HW_ => ?_)
       generalize w27.drew = w28 at BK225 HB hHeld ⊢
       refine Abb.pT 0 11 #[T', F', F', F', F', F', F', F', F', F', F', F', F', F', F', F', F', F', F', F', F'] HT_ HW_ hHeld ?_
       refine one_ (i := 1) (N := some 12) #[T', T', F', F', F', F', F', F', F', F', F', F', F', F', F', F', F', F', F', F', F'] rfl rfl (one_of HT_.out (by kernel_rfl)) (by decide) (fun K hK => ?_)
       refine goes_ Try.func71 (by kernel_rfl) rfl #[.agg #[.int .i64 ((rd_T52 l0 x7_1).f0), .int .i64 ((rd_T52 l0 x7_1).f1), .slice A224_2 ((rd_T52 l0 x7_1).f2).length c224_2, .slice A224_3 ((rd_T52 l0 x7_1).f3).length c224_3, .slice A224_4 ((rd_T52 l0 x7_1).f4).length c224_4]] (by rfl) rfl rfl (by (try simp only [List.map_toArray, List.map_cons, List.map_nil]); first | done | rfl | (simp only [List.length_drop, List.length_take]; rfl)) ?_
       with_reducible refine (cadence_valid.calls ((rd_T52 l0 x7_1).f0) ((rd_T52 l0 x7_1).f1) _ _ ((rd_T52 l0 x7_1).f2) _ _ ((rd_T52 l0 x7_1).f3) _ _ ((rd_T52 l0 x7_1).f4) false _ ?side1 ?side2 ?side3 ?side4 ?side5 ?side6 A5.out).mono ?_
       (case side1 => repeat (first | exact (Kd.C_below HR224_2.out HB.out) | (with_reducible refine Kd.C_alloc ?_ _) | (with_reducible refine Kd.C_drewN ?_ _) | (with_reducible refine Kd.C_drew ?_)))
       (case side2 => exact HC224_2.out)
       (case side3 => repeat (first | exact (Kd.C_below HR224_3.out HB.out) | (with_reducible refine Kd.C_alloc ?_ _) | (with_reducible refine Kd.C_drewN ?_ _) | (with_reducible refine Kd.C_drew ?_)))
       (case side4 => exact HC224_3.out)
       (case side5 => repeat (first | exact (Kd.C_below HR224_4.out HB.out) | (with_reducible refine Kd.C_alloc ?_ _) | (with_reducible refine Kd.C_drewN ?_ _) | (with_reducible refine Kd.C_drew ?_)))
       (case side6 => exact HC224_4.out)
       rintro e w29 ⟨rfl, hb⟩
       refine ⟨_, rfl, ?_⟩
       have n0_ := Aside0.mk (yB (g := gb225) (o := .cells #[.int .i64 ((rd_T52 l0 x7_1).f0), .int .i64 ((rd_T52 l0 x7_1).f1), .slice A224_2 ((rd_T52 l0 x7_1).f2).length c224_2, .slice A224_3 ((rd_T52 l0 x7_1).f3).length c224_3, .slice A224_4 ((rd_T52 l0 x7_1).f4).length c224_4] 52 (0, 0)) (by (with_reducible repeat (first | refine yN ?_ _ | refine yD ?_ | refine yA ?_ _)); exact BK225.out) hb)
       have n1_ := Aside0.mk (zT (by repeat (first | (with_reducible first | exact HB.out | apply zA | apply zN | apply zD | refine zP ?_ GE225.out) | exact HB.out)) hb)
       clear BK225
       clear HB
       have BK225 := n0_
       have HB := n1_
       clear n0_ n1_
       (try clear hb)
       (try clear hb2)
       (try clear hk)
       (try clear hi)
       refine hK.out _ _ ⟨(blk_cell BK225.out 0).trans rfl, (blk_cell BK225.out 1).trans rfl, (blk_cell BK225.out 2).trans rfl, (blk_cell BK225.out 3).trans rfl, (blk_cell BK225.out 4).trans rfl⟩ (fun hHeld => ?_)
       clear hK K
       refine norm_ (a' := ?_) ?_ ?_
       rotate_left
       ·show Act.put _ (some 12) _ = _
        simp only [Act.put, sA, sZ, sS, i64_w, i32_w]
        rfl
       refine Abb.pS 2 13 #[T', T', T', F', F', F', F', F', F', F', F', F', F', F', F', F', F', F', F', F', F'] HT_ ?_
       refine Abb.pS 3 14 #[T', T', T', T', F', F', F', F', F', F', F', F', F', F', F', F', F', F', F', F', F'] HT_ ?_
       refine pure_ (i := 4) (N := some 15) (v := undef) (a' := ?_) #[T', T', T', T', T', F', F', F', F', F', F', F', F', F', F', F', F', F', F', F', F'] rfl rfl (any_of HT_.out (by kernel_rfl)) (fun _ _ _ h => h) (Or.inr ⟨by rfl, rfl⟩) ?_ ?_
       rotate_left
       ·simp only [Act.put, sA, sZ, sS, i64_w, i32_w]
        rfl
       refine pure_ (i := 5) (N := some 16) (v := undef) (a' := ?_) #[T', T', T', T', T', T', F', F', F', F', F', F', F', F', F', F', F', F', F', F', F'] rfl rfl (any_of HT_.out (by kernel_rfl)) (fun _ _ _ h => h) (Or.inr ⟨by rfl, rfl⟩) ?_ ?_
       rotate_left
       ·simp only [Act.put, sA, sZ, sS, i64_w, i32_w]
        rfl
       refine pure_ (i := 6) (N := some 17) (v := undef) (a' := ?_) #[T', T', T', T', T', T', T', F', F', F', F', F', F', F', F', F', F', F', F', F', F'] rfl rfl (any_of HT_.out (by kernel_rfl)) (fun _ _ _ h => h) (Or.inr ⟨by rfl, rfl⟩) ?_ ?_
       rotate_left
       ·simp only [Act.put, sA, sZ, sS, i64_w, i32_w]
        rfl
       refine pure_ (i := 7) (N := some 18) (v := undef) (a' := ?_) #[T', T', T', T', T', T', T', T', F', F', F', F', F', F', F', F', F', F', F', F', F'] rfl rfl (any_of HT_.out (by kernel_rfl)) (fun _ _ _ h => h) (Or.inr ⟨by rfl, rfl⟩) ?_ ?_
       rotate_left
       ·simp only [Act.put, sA, sZ, sS, i64_w, i32_w]
        rfl
       refine pure_ (i := 8) (N := some 19) (v := undef) (a' := ?_) #[T', T', T', T', T', T', T', T', T', F', F', F', F', F', F', F', F', F', F', F', F'] rfl rfl (any_of HT_.out (by kernel_rfl)) (fun _ _ _ h => h) (Or.inr ⟨by rfl, rfl⟩) ?_ ?_
       rotate_left
       ·simp only [Act.put, sA, sZ, sS, i64_w, i32_w]
        rfl
       refine pure_ (i := 9) (N := some 20) (v := undef) (a' := ?_) #[T', T', T', T', T', T', T', T', T', T', F', F', F', F', F', F', F', F', F', F', F'] rfl rfl (any_of HT_.out (by kernel_rfl)) (fun _ _ _ h => h) (Or.inr ⟨by rfl, rfl⟩) ?_ ?_
       rotate_left
       ·simp only [Act.put, sA, sZ, sS, i64_w, i32_w]
        rfl
       refine pure_ (i := 10) (N := some 21) (v := undef) (a' := ?_) #[T', T', T', T', T', T', T', T', T', T', T', F', F', F', F', F', F', F', F', F', F'] rfl rfl (any_of HT_.out (by kernel_rfl)) (fun _ _ _ h => h) (Or.inr ⟨by rfl, rfl⟩) ?_ ?_
       rotate_left
       ·simp only [Act.put, sA, sZ, sS, i64_w, i32_w]
        rfl
       refine Abb.pS 11 22 #[T', T', T', T', T', T', T', T', T', T', T', T', F', F', F', F', F', F', F', F', F'] HT_ ?_
       refine Abb.pS 12 23 #[T', T', T', T', T', T', T', T', T', T', T', T', T', F', F', F', F', F', F', F', F'] HT_ ?_
       refine pure_ (i := 13) (N := some 24) (v := undef) (a' := ?_) #[T', T', T', T', T', T', T', T', T', T', T', T', T', T', F', F', F', F', F', F', F'] rfl rfl (any_of HT_.out (by kernel_rfl)) (fun _ _ _ h => h) (Or.inr ⟨by rfl, rfl⟩) ?_ ?_
       rotate_left
       ·simp only [Act.put, sA, sZ, sS, i64_w, i32_w]
        rfl
       refine pure_ (i := 14) (N := some 25) (v := undef) (a' := ?_) #[T', T', T', T', T', T', T', T', T', T', T', T', T', T', T', F', F', F', F', F', F'] rfl rfl (any_of HT_.out (by kernel_rfl)) (fun _ _ _ h => h) (Or.inr ⟨by rfl, rfl⟩) ?_ ?_
       rotate_left
       ·simp only [Act.put, sA, sZ, sS, i64_w, i32_w]
        rfl
       refine pure_ (i := 15) (N := some 26) (v := undef) (a' := ?_) #[T', T', T', T', T', T', T', T', T', T', T', T', T', T', T', T', F', F', F', F', F'] rfl rfl (any_of HT_.out (by kernel_rfl)) (fun _ _ _ h => h) (Or.inr ⟨by rfl, rfl⟩) ?_ ?_
       rotate_left
       ·simp only [Act.put, sA, sZ, sS, i64_w, i32_w]
        rfl
       refine pure_ (i := 16) (N := some 27) (v := undef) (a' := ?_) #[T', T', T', T', T', T', T', T', T', T', T', T', T', T', T', T', T', F', F', F', F'] rfl rfl (any_of HT_.out (by kernel_rfl)) (fun _ _ _ h => h) (Or.inr ⟨by rfl, rfl⟩) ?_ ?_
       rotate_left
       ·simp only [Act.put, sA, sZ, sS, i64_w, i32_w]
        rfl
       refine pure_ (i := 17) (N := some 28) (v := undef) (a' := ?_) #[T', T', T', T', T', T', T', T', T', T', T', T', T', T', T', T', T', T', F', F', F'] rfl rfl (any_of HT_.out (by kernel_rfl)) (fun _ _ _ h => h) (Or.inr ⟨by rfl, rfl⟩) ?_ ?_
       rotate_left
       ·simp only [Act.put, sA, sZ, sS, i64_w, i32_w]
        rfl
       refine pure_ (i := 18) (N := some 29) (v := undef) (a' := ?_) #[T', T', T', T', T', T', T', T', T', T', T', T', T', T', T', T', T', T', T', F', F'] rfl rfl (any_of HT_.out (by kernel_rfl)) (fun _ _ _ h => h) (Or.inr ⟨by rfl, rfl⟩) ?_ ?_
       rotate_left
       ·simp only [Act.put, sA, sZ, sS, i64_w, i32_w]
        rfl
       refine pure_ (i := 19) (N := some 30) (v := undef) (a' := ?_) #[T', T', T', T', T', T', T', T', T', T', T', T', T', T', T', T', T', T', T', T', F'] rfl rfl (any_of HT_.out (by kernel_rfl)) (fun _ _ _ h => h) (Or.inr ⟨by rfl, rfl⟩) ?_ ?_
       rotate_left
       ·simp only [Act.put, sA, sZ, sS, i64_w, i32_w]
        rfl
       refine Abb.pS 20 31 #[T', T', T', T', T', T', T', T', T', T', T', T', T', T', T', T', T', T', T', T', T'] HT_ ?_
       refine done_ (done_of HT_.out (by kernel_rfl)) ?_
       try go_wp2
       go_ret
       exact ⟨by first | rfl | (simp [errW_none, errW_some] <;> rfl) | (simp [*, errW_none, errW_some] <;> rfl), by repeat (first | (with_reducible first | exact HB.out | apply zA | apply zN | apply zD | refine zP ?_ GE225.out) | exact HB.out)⟩
     ·rw [if_neg c4] at H
      exact absurd H (by simp)
    ·rw [if_neg c3] at H
     exact absurd H (by simp)
   ·rw [if_neg c2] at H
    have c2b0 : decide (x7_1 < (l0.length : Int)) = false := decide_eq_false c2
    clear c2
    obtain rfl := Option.some.inj H
    go_wp2
    go_ret
    exact ⟨by first | rfl | (simp [errW_none, errW_some] <;> rfl) | (simp [*, errW_none, errW_some] <;> rfl), by repeat (first | (with_reducible first | exact HB.out | apply zA | apply zN | apply zD) | exact HB.out)⟩

end Go.Proofs.Ytcofjbbflcnaaaa.P
