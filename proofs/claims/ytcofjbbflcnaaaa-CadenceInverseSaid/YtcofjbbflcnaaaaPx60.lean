-- Written by this session's own program (wip/tools/myprint.py), which runs the kit's print with turns of its own: not a text of the kit's print.sh.
import Derived.Test.YtcofjbbflcnaaaaPx0
import Derived.Test.YtcofjbbflcnaaaaPx78
namespace Go.Proofs.Ytcofjbbflcnaaaa.P
open Go.RowKit Go.Proofs.YtcofjbbflcnaaaaW.PrintWords Go.Proofs.YtcofjbbflcnaaaaW.PrintLast Go.Proofs.YtcofjbbflcnaaaaW.PrintMore
open List renaming setIfInBounds_toArray → sA, set_cons_zero → sZ, set_cons_succ → sS
open Bool renaming true → T', false → F'
open Go.Proofs.YtcofjbbflcnaaaaW.PrintWords renaming below_alloc → zA, pw_below_drewN → zN, below_drew1 → zD, blk_drewN → yN, blk_drew → yD, blk_alloc → yA, below_size → zS, below_step → zT, blk_below → yB, below_set → zP, cell_far → xF, add_block → xB, gate_callee → xC, gate_dst → xD
attribute [local go_sem] max2_int min2_int max_two min_two max_three min_three max_four min_four   -- for this text's walks alone
set_option linter.unusedVariables false
set_option linter.unusedSimpArgs false

/-! ### cadence_alike: function 59 -/
def cadence_alike.l0 : Nat → List (S52) → List (S52) → Int → Int → Option (Bool)
 | 0, _, _, _, _ => none
 | k + 1, x0, x5, x6, x7 => if x7 < x6 then (if 0 ≤ x7 then (if x7 < (x5.length : Int) then ((cadence_valid.f ((rd_T52 x5 x7).f0) ((rd_T52 x5 x7).f1) ((rd_T52 x5 x7).f2) ((rd_T52 x5 x7).f3) ((rd_T52 x5 x7).f4)).bind fun t394 => (if t394 = true then (if 0 < (x0.length : Int) then (if ((rd_T52 x5 x7).f0) = ((rd_T52 x0 0).f0) then (if ((rd_T52 x5 x7).f1) = ((rd_T52 x0 0).f1) then (cadence_alike.l0 k x0 x5 x6 (wrap64 (x7 + 1))) else (some false)) else (some false)) else (none)) else (some false))) else (none)) else (none)) else (some true)
def cadence_alike.f (k : Nat) (l0 : List (S52)) : Option (Bool) := cadence_alike.l0 k l0 l0 (l0.length : Int) 0
theorem cadence_alike.mono_l : ∀ k, (∀ y0 y1 y2 y3, LeO (cadence_alike.l0 k y0 y1 y2 y3) (cadence_alike.l0 (k + 1) y0 y1 y2 y3))
 | 0 => fun _ _ _ _ r h => by simp [cadence_alike.l0] at h
 | k + 1 => by
  have ih0 := cadence_alike.mono_l k
  ·intro y0 y1 y2 y3
   unfold cadence_alike.l0
   repeat' first
   | (with_reducible exact ih0 _ _ _ _)
   | (with_reducible exact LeO.refl _)
   | (with_reducible exact LeO.none _)
   | (with_reducible refine LeO.ite ?_ ?_)
   | (with_reducible refine LeO.bind ?_ (fun _ => ?_))
   | exact ih0 _ _ _ _
   | exact LeO.none _
   | refine LeO.ite ?_ ?_
   | refine LeO.bind ?_ (fun _ => ?_)
theorem cadence_alike.mono : ∀ a0 k, LeO (cadence_alike.f k a0) (cadence_alike.f (k + 1) a0) := by
 intro a0 k
 have ih0 := cadence_alike.mono_l k
 unfold cadence_alike.f
 repeat' first
   | (with_reducible exact ih0 _ _ _ _)
   | (with_reducible exact LeO.refl _)
   | (with_reducible exact LeO.none _)
   | (with_reducible refine LeO.ite ?_ ?_)
   | (with_reducible refine LeO.bind ?_ (fun _ => ?_))
   | exact ih0 _ _ _ _
   | exact LeO.none _
   | refine LeO.ite ?_ ?_
   | refine LeO.bind ?_ (fun _ => ?_)
def cadence_alike.T4 : Bool × List (List Nat × List Nat) := (true, [([], []), ([0], [0]), ([1], [1]), ([2, 1], [2]), ([3], [3]), ([4, 3], [3, 4]), ([3], [3]), ([6, 3], [3, 6]), ([7, 3], [3, 7]), ([8, 3], [3, 8]), ([5, 9, 3], [3, 5, 9]), ([3, 10], [3, 10]), ([11, 3], [11]), ([12], [12]), ([13, 12], [12, 13]), ([12], [12]), ([15, 12], [12, 15]), ([16, 12], [12, 16]), ([17, 12], [12, 17]), ([14, 18, 12], [12, 14, 18]), ([12, 19], [12, 19])])
def cadence_alike.B4 : List Nat := [0, 1, 3, 7, 15, 31, 15, 79, 207, 463, 1023, 2047, 4095, 8191, 16383, 8191, 40959, 106495, 237567, 524287, 1048575]
theorem cadence_alike.tab4 : rtab .any (opsOf Try.f59 4) = cadence_alike.T4 := by kernel_rfl
theorem cadence_alike.bits4 : waitsOk cadence_alike.T4.2 cadence_alike.B4 = true := by kernel_rfl
set_option maxHeartbeats 8000000 in
set_option maxRecDepth 100000 in
theorem cadence_alike.calls (k : Nat) (A0 : Option Addr) (c0 : Nat) (l0 : List (S52)) (r : Bool) (w : World) (hr0 : Kd.C k52 w A0 l0.length l0) (hc0 : l0.length ≤ c0) (h : cadence_alike.f k l0 = some r) :
  Calls Try.prog 59 #[.slice A0 l0.length c0] w fun e w' => e = .returned (.bool r) ∧ Below w.heap.size w w' := by
 have hu52 := Try.underlying52
 have HR0 := Aside0.mk hr0
 have HC0 := Aside0.mk hc0
 clear hr0 hc0
 have HB := Aside0.mk (Below.refl w.heap.size w)
 have H : (cadence_alike.l0 k l0 l0 (l0.length : Int) 0) = some r := h
 clear h
 have H' := Aside0.mk H
 clear H
 go_enter Try.func59, Try.ntmps59
 go_wp2
 go_loopg [7] k (fun kq v7 w' => ∃ (x7_1 : Int), v7 = .int .i64 x7_1 ∧ Aside0 (cadence_alike.l0 kq l0 l0 (l0.length : Int) x7_1 = some r) ∧ Aside0 (kq ≤ k) ∧ Aside0 (Below w.heap.size w w'))
 case atStart => exact ⟨(0), (by first | rfl | (simp; done) | (simp [*]; done)), H', ⟨Nat.le_refl _⟩, ⟨by repeat (first | (with_reducible first | exact HB.out | apply zA | apply zN | apply zD) | exact HB.out)⟩⟩
 case round =>
  clear H'
  obtain ⟨x7_1, rfl, HA, HK1, HB⟩ := hrel
  cases gk with
  | zero => exact absurd HA.out (by simp [cadence_alike.l0])
  | succ k1 =>
   have H := HA.out
   clear HA
   simp only [cadence_alike.l0] at H
   by_cases c2 : x7_1 < (l0.length : Int)
   ·rw [if_pos c2] at H
    have c2b0 : decide (x7_1 < (l0.length : Int)) = true := decide_eq_true c2
    clear c2
    by_cases c3 : 0 ≤ x7_1
    ·rw [if_pos c3] at H
     have c3b0 : decide (0 ≤ x7_1) = true := decide_eq_true c3
     clear c3
     by_cases c4 : x7_1 < (l0.length : Int)
     ·rw [if_pos c4] at H
      have c4b0 : decide (x7_1 < (l0.length : Int)) = true := decide_eq_true c4
      clear c4
      replace H := Option.bind_eq_some_iff.mp H
      obtain ⟨t394, A50, H⟩ := H
      replace H : (if t394 = true then (if 0 < (l0.length : Int) then (if ((rd_T52 l0 x7_1).f0) = ((rd_T52 l0 0).f0) then (if ((rd_T52 l0 x7_1).f1) = ((rd_T52 l0 0).f1) then (cadence_alike.l0 k1 l0 l0 (l0.length : Int) (wrap64 (x7_1 + 1))) else (some false)) else (some false)) else (none)) else (some false)) = some r := H
      have A5 := Aside0.mk A50
      clear A50
      by_cases c6 : t394 = true
      ·subst c6
       have H1 : (if 0 < (l0.length : Int) then (if ((rd_T52 l0 x7_1).f0) = ((rd_T52 l0 0).f0) then (if ((rd_T52 l0 x7_1).f1) = ((rd_T52 l0 0).f1) then (cadence_alike.l0 k1 l0 l0 (l0.length : Int) (wrap64 (x7_1 + 1))) else (some false)) else (some false)) else (none)) = some r := by rw [if_pos rfl] at H; exact H
       clear H
       have H := H1
       clear H1
       by_cases c7 : 0 < (l0.length : Int)
       ·rw [if_pos c7] at H
        have c7b0 : decide (0 < (l0.length : Int)) = true := decide_eq_true c7
        have c7b1 : decide (0 < l0.length) = true := decide_eq_true (by omega)
        clear c7
        by_cases c8 : ((rd_T52 l0 x7_1).f0) = ((rd_T52 l0 0).f0)
        ·rw [if_pos c8] at H
         have c8b0 : (((rd_T52 l0 x7_1).f0) == ((rd_T52 l0 0).f0)) = true := beq_iff_eq.mpr c8
         have c8b1 : (((rd_T52 l0 x7_1).f0) != ((rd_T52 l0 0).f0)) = false := bne_eq_false_iff_eq.mpr c8
         clear c8
         by_cases c9 : ((rd_T52 l0 x7_1).f1) = ((rd_T52 l0 0).f1)
         ·rw [if_pos c9] at H
          have c9b0 : (((rd_T52 l0 x7_1).f1) == ((rd_T52 l0 0).f1)) = true := beq_iff_eq.mpr c9
          have c9b1 : (((rd_T52 l0 x7_1).f1) != ((rd_T52 l0 0).f1)) = false := bne_eq_false_iff_eq.mpr c9
          clear c9
          have H' := Aside0.mk H
          clear H
          have p392 : 0 ≤ (x7_1 : Int) := of_decide_eq_true (by first | (with_reducible assumption) | assumption)
          have q392 : x7_1 < (l0.length : Int) := of_decide_eq_true (by first | (with_reducible assumption) | assumption)
          obtain ⟨ad392, A392_2, c392_2, A392_3, c392_3, A392_4, c392_4, e392, hx392_0, hx392_1, hx392_2, hx392_3, hx392_4, hl392_2, hi392_2, hl392_3, hi392_3, hl392_4, hi392_4⟩ := at_T52 HR0.out x7_1 p392 q392
          cases e392
          replace hx392_0 := (HB.out.cell (World.block_lt_of_cell? w _ hx392_0)).trans hx392_0
          replace hx392_1 := (HB.out.cell (World.block_lt_of_cell? w _ hx392_1)).trans hx392_1
          replace hx392_2 := (HB.out.cell (World.block_lt_of_cell? w _ hx392_2)).trans hx392_2
          replace hx392_3 := (HB.out.cell (World.block_lt_of_cell? w _ hx392_3)).trans hx392_3
          replace hx392_4 := (HB.out.cell (World.block_lt_of_cell? w _ hx392_4)).trans hx392_4
          have HR392_2 := Aside0.mk hi392_2
          have HC392_2 := Aside0.mk hl392_2
          clear hi392_2 hl392_2
          have HR392_3 := Aside0.mk hi392_3
          have HC392_3 := Aside0.mk hl392_3
          clear hi392_3 hl392_3
          have HR392_4 := Aside0.mk hi392_4
          have HC392_4 := Aside0.mk hl392_4
          clear hi392_4 hl392_4
          replace p392 := eq_true p392
          replace q392 := eq_true q392
          try go_wp2_with (first | ((with_reducible refine xD (N := 4) rfl ?_); refine box_event ?hg (N := 4) ?hd (cs := #[.int .i64 0, .int .i64 0, .slice none 0 0, .slice none 0 0, .slice none 0 0]) (t := 52) ?hr ?_; (case hd => rfl); (case hg => rfl); (case hr => first | (go_simp; done) | (go_simp; rfl)); intro gb393 hg w10 hbox hb; have n0_ := Aside0.mk (zT (by repeat (first | (with_reducible first | exact HB.out | apply zA | apply zN | apply zD) | exact HB.out)) hb); have n1_ := Aside0.mk (hbox); have n2_ := Aside0.mk ((by rw [hg]; exact (zS (by repeat (first | (with_reducible first | exact HB.out | apply zA | apply zN | apply zD) | exact HB.out))) : w.heap.size ≤ gb393)); have n3_ := n2_; clear HB; have HB := n0_; have BK393 := n1_; have GW393 := n2_; have GE393 := n3_; clear n0_ n1_ n2_ n3_; clear hb hbox hg; have hcz11_0 : w10.cell? ⟨gb393, 0, none⟩ = some (.int .i64 0) := (blk_cell BK393.out 0).trans rfl; have hcz11_1 : w10.cell? ⟨gb393, 1, none⟩ = some (.int .i64 0) := (blk_cell BK393.out 1).trans rfl; have hcz11_2 : w10.cell? ⟨gb393, 2, none⟩ = some (.slice none 0 0) := (blk_cell BK393.out 2).trans rfl; have hcz11_3 : w10.cell? ⟨gb393, 3, none⟩ = some (.slice none 0 0) := (blk_cell BK393.out 3).trans rfl; have hcz11_4 : w10.cell? ⟨gb393, 4, none⟩ = some (.slice none 0 0) := (blk_cell BK393.out 4).trans rfl; have hfz11_0 := blk_frozen BK393.out 0; have hfz11_1 := blk_frozen BK393.out 1; have hfz11_2 := blk_frozen BK393.out 2; have hfz11_3 := blk_frozen BK393.out 3; have hfz11_4 := blk_frozen BK393.out 4))
          have n0_ : Aside0 ((((((w10.setCell ⟨gb393, 0, none⟩ (.int .i64 ((rd_T52 l0 x7_1).f0))).setCell ⟨gb393, 1, none⟩ (.int .i64 ((rd_T52 l0 x7_1).f1))).setCell ⟨gb393, 2, none⟩ (.slice A392_2 ((rd_T52 l0 x7_1).f2).length c392_2)).setCell ⟨gb393, 3, none⟩ (.slice A392_3 ((rd_T52 l0 x7_1).f3).length c392_3)).setCell ⟨gb393, 4, none⟩ (.slice A392_4 ((rd_T52 l0 x7_1).f4).length c392_4)).heap[gb393]? = some (.cells #[.int .i64 ((rd_T52 l0 x7_1).f0), .int .i64 ((rd_T52 l0 x7_1).f1), .slice A392_2 ((rd_T52 l0 x7_1).f2).length c392_2, .slice A392_3 ((rd_T52 l0 x7_1).f3).length c392_3, .slice A392_4 ((rd_T52 l0 x7_1).f4).length c392_4] 52 (0, 0))) := ⟨by (with_reducible repeat (first | refine yN ?_ _ | refine yD ?_ | refine yA ?_ _)); refine blk_put (cs := #[.int .i64 ((rd_T52 l0 x7_1).f0), .int .i64 ((rd_T52 l0 x7_1).f1), .slice A392_2 ((rd_T52 l0 x7_1).f2).length c392_2, .slice A392_3 ((rd_T52 l0 x7_1).f3).length c392_3, .slice none 0 0]) ?_ 4 _ rfl; (with_reducible repeat (first | refine yN ?_ _ | refine yD ?_ | refine yA ?_ _)); refine blk_put (cs := #[.int .i64 ((rd_T52 l0 x7_1).f0), .int .i64 ((rd_T52 l0 x7_1).f1), .slice A392_2 ((rd_T52 l0 x7_1).f2).length c392_2, .slice none 0 0, .slice none 0 0]) ?_ 3 _ rfl; (with_reducible repeat (first | refine yN ?_ _ | refine yD ?_ | refine yA ?_ _)); refine blk_put (cs := #[.int .i64 ((rd_T52 l0 x7_1).f0), .int .i64 ((rd_T52 l0 x7_1).f1), .slice none 0 0, .slice none 0 0, .slice none 0 0]) ?_ 2 _ rfl; (with_reducible repeat (first | refine yN ?_ _ | refine yD ?_ | refine yA ?_ _)); refine blk_put (cs := #[.int .i64 ((rd_T52 l0 x7_1).f0), .int .i64 0, .slice none 0 0, .slice none 0 0, .slice none 0 0]) ?_ 1 _ rfl; (with_reducible repeat (first | refine yN ?_ _ | refine yD ?_ | refine yA ?_ _)); refine blk_put (cs := #[.int .i64 0, .int .i64 0, .slice none 0 0, .slice none 0 0, .slice none 0 0]) ?_ 0 _ rfl; (with_reducible repeat (first | refine yN ?_ _ | refine yD ?_ | refine yA ?_ _)); exact BK393.out⟩
          have n1_ : Aside0 (Below w.heap.size w (((((w10.setCell ⟨gb393, 0, none⟩ (.int .i64 ((rd_T52 l0 x7_1).f0))).setCell ⟨gb393, 1, none⟩ (.int .i64 ((rd_T52 l0 x7_1).f1))).setCell ⟨gb393, 2, none⟩ (.slice A392_2 ((rd_T52 l0 x7_1).f2).length c392_2)).setCell ⟨gb393, 3, none⟩ (.slice A392_3 ((rd_T52 l0 x7_1).f3).length c392_3)).setCell ⟨gb393, 4, none⟩ (.slice A392_4 ((rd_T52 l0 x7_1).f4).length c392_4))) := ⟨by repeat (first | (with_reducible first | exact HB.out | apply zA | apply zN | apply zD | refine zP ?_ GE393.out) | exact HB.out)⟩
          (try clear BK393)
          (try clear HB)
          generalize (((((w10.setCell ⟨gb393, 0, none⟩ (.int .i64 ((rd_T52 l0 x7_1).f0))).setCell ⟨gb393, 1, none⟩ (.int .i64 ((rd_T52 l0 x7_1).f1))).setCell ⟨gb393, 2, none⟩ (.slice A392_2 ((rd_T52 l0 x7_1).f2).length c392_2)).setCell ⟨gb393, 3, none⟩ (.slice A392_3 ((rd_T52 l0 x7_1).f3).length c392_3)).setCell ⟨gb393, 4, none⟩ (.slice A392_4 ((rd_T52 l0 x7_1).f4).length c392_4)) = w12 at n0_ n1_ ⊢
          have BK393 := n0_
          have HB := n1_
          clear n0_ n1_
          have n0_ := Aside0.mk (yD BK393.out)
          have n1_ := Aside0.mk (zD HB.out)
          clear BK393
          clear HB
          have BK393 := n0_
          have HB := n1_
          clear n0_ n1_
          have p395 : 0 ≤ (0 : Int) := (by omega)
          have q395 : 0 < (l0.length : Int) := of_decide_eq_true (by first | (with_reducible assumption) | assumption)
          obtain ⟨ad395, A395_2, c395_2, A395_3, c395_3, A395_4, c395_4, e395, hx395_0, hx395_1, hx395_2, hx395_3, hx395_4, hl395_2, hi395_2, hl395_3, hi395_3, hl395_4, hi395_4⟩ := at_T52 HR0.out 0 p395 q395
          have hw395_4 := hx395_4
          (try rw [show ((0 : Int)).toNat = 0 from rfl] at hw395_4)
          (try rw [show 0 * 5 = 0 from rfl] at hw395_4)
          (try rw [Addr.add_zero'] at hw395_4)
          have hw395_3 := hx395_3
          (try rw [show ((0 : Int)).toNat = 0 from rfl] at hw395_3)
          (try rw [show 0 * 5 = 0 from rfl] at hw395_3)
          (try rw [Addr.add_zero'] at hw395_3)
          have hw395_2 := hx395_2
          (try rw [show ((0 : Int)).toNat = 0 from rfl] at hw395_2)
          (try rw [show 0 * 5 = 0 from rfl] at hw395_2)
          (try rw [Addr.add_zero'] at hw395_2)
          have hw395_1 := hx395_1
          (try rw [show ((0 : Int)).toNat = 0 from rfl] at hw395_1)
          (try rw [show 0 * 5 = 0 from rfl] at hw395_1)
          (try rw [Addr.add_zero'] at hw395_1)
          have hw395_0 := hx395_0
          (try rw [show ((0 : Int)).toNat = 0 from rfl] at hw395_0)
          (try rw [show 0 * 5 = 0 from rfl] at hw395_0)
          (try rw [Addr.add_zero'] at hw395_0)
          obtain rfl : ad392 = ad395 := (by injection e395)
          have qi395 : (0 < l0.length) = True := eq_true (by omega)
          (try rw [show ((0 : Int)).toNat = 0 from rfl] at hx395_0)
          (try rw [show 0 * 5 = 0 from rfl] at hx395_0)
          (try rw [Addr.add_zero'] at hx395_0)
          (try rw [show ((0 : Int)).toNat = 0 from rfl] at hx395_1)
          (try rw [show 0 * 5 = 0 from rfl] at hx395_1)
          (try rw [Addr.add_zero'] at hx395_1)
          (try rw [show ((0 : Int)).toNat = 0 from rfl] at hx395_2)
          (try rw [show 0 * 5 = 0 from rfl] at hx395_2)
          (try rw [Addr.add_zero'] at hx395_2)
          (try rw [show ((0 : Int)).toNat = 0 from rfl] at hx395_3)
          (try rw [show 0 * 5 = 0 from rfl] at hx395_3)
          (try rw [Addr.add_zero'] at hx395_3)
          (try rw [show ((0 : Int)).toNat = 0 from rfl] at hx395_4)
          (try rw [show 0 * 5 = 0 from rfl] at hx395_4)
          (try rw [Addr.add_zero'] at hx395_4)
          replace hx395_0 := (HB.out.cell (World.block_lt_of_cell? w _ hx395_0)).trans hx395_0
          replace hx395_1 := (HB.out.cell (World.block_lt_of_cell? w _ hx395_1)).trans hx395_1
          replace hx395_2 := (HB.out.cell (World.block_lt_of_cell? w _ hx395_2)).trans hx395_2
          replace hx395_3 := (HB.out.cell (World.block_lt_of_cell? w _ hx395_3)).trans hx395_3
          replace hx395_4 := (HB.out.cell (World.block_lt_of_cell? w _ hx395_4)).trans hx395_4
          have HR395_2 := Aside0.mk hi395_2
          have HC395_2 := Aside0.mk hl395_2
          clear hi395_2 hl395_2
          have HR395_3 := Aside0.mk hi395_3
          have HC395_3 := Aside0.mk hl395_3
          clear hi395_3 hl395_3
          have HR395_4 := Aside0.mk hi395_4
          have HC395_4 := Aside0.mk hl395_4
          clear hi395_4 hl395_4
          replace p395 := eq_true p395
          replace q395 := eq_true q395
          have p396 : 0 ≤ (0 : Int) := (by omega)
          have q396 : 0 < (l0.length : Int) := of_decide_eq_true (by first | (with_reducible assumption) | assumption)
          obtain ⟨ad396, A396_2, c396_2, A396_3, c396_3, A396_4, c396_4, e396, hx396_0, hx396_1, hx396_2, hx396_3, hx396_4, hl396_2, hi396_2, hl396_3, hi396_3, hl396_4, hi396_4⟩ := at_T52 HR0.out 0 p396 q396
          have hw396_4 := hx396_4
          (try rw [show ((0 : Int)).toNat = 0 from rfl] at hw396_4)
          (try rw [show 0 * 5 = 0 from rfl] at hw396_4)
          (try rw [Addr.add_zero'] at hw396_4)
          have hw396_3 := hx396_3
          (try rw [show ((0 : Int)).toNat = 0 from rfl] at hw396_3)
          (try rw [show 0 * 5 = 0 from rfl] at hw396_3)
          (try rw [Addr.add_zero'] at hw396_3)
          have hw396_2 := hx396_2
          (try rw [show ((0 : Int)).toNat = 0 from rfl] at hw396_2)
          (try rw [show 0 * 5 = 0 from rfl] at hw396_2)
          (try rw [Addr.add_zero'] at hw396_2)
          have hw396_1 := hx396_1
          (try rw [show ((0 : Int)).toNat = 0 from rfl] at hw396_1)
          (try rw [show 0 * 5 = 0 from rfl] at hw396_1)
          (try rw [Addr.add_zero'] at hw396_1)
          have hw396_0 := hx396_0
          (try rw [show ((0 : Int)).toNat = 0 from rfl] at hw396_0)
          (try rw [show 0 * 5 = 0 from rfl] at hw396_0)
          (try rw [Addr.add_zero'] at hw396_0)
          obtain rfl : ad392 = ad396 := (by injection e396)
          have qi396 : (0 < l0.length) = True := eq_true (by omega)
          (try rw [show ((0 : Int)).toNat = 0 from rfl] at hx396_0)
          (try rw [show 0 * 5 = 0 from rfl] at hx396_0)
          (try rw [Addr.add_zero'] at hx396_0)
          (try rw [show ((0 : Int)).toNat = 0 from rfl] at hx396_1)
          (try rw [show 0 * 5 = 0 from rfl] at hx396_1)
          (try rw [Addr.add_zero'] at hx396_1)
          (try rw [show ((0 : Int)).toNat = 0 from rfl] at hx396_2)
          (try rw [show 0 * 5 = 0 from rfl] at hx396_2)
          (try rw [Addr.add_zero'] at hx396_2)
          (try rw [show ((0 : Int)).toNat = 0 from rfl] at hx396_3)
          (try rw [show 0 * 5 = 0 from rfl] at hx396_3)
          (try rw [Addr.add_zero'] at hx396_3)
          (try rw [show ((0 : Int)).toNat = 0 from rfl] at hx396_4)
          (try rw [show 0 * 5 = 0 from rfl] at hx396_4)
          (try rw [Addr.add_zero'] at hx396_4)
          replace hx396_0 := (HB.out.cell (World.block_lt_of_cell? w _ hx396_0)).trans hx396_0
          replace hx396_1 := (HB.out.cell (World.block_lt_of_cell? w _ hx396_1)).trans hx396_1
          replace hx396_2 := (HB.out.cell (World.block_lt_of_cell? w _ hx396_2)).trans hx396_2
          replace hx396_3 := (HB.out.cell (World.block_lt_of_cell? w _ hx396_3)).trans hx396_3
          replace hx396_4 := (HB.out.cell (World.block_lt_of_cell? w _ hx396_4)).trans hx396_4
          have HR396_2 := Aside0.mk hi396_2
          have HC396_2 := Aside0.mk hl396_2
          clear hi396_2 hl396_2
          have HR396_3 := Aside0.mk hi396_3
          have HC396_3 := Aside0.mk hl396_3
          clear hi396_3 hl396_3
          have HR396_4 := Aside0.mk hi396_4
          have HC396_4 := Aside0.mk hl396_4
          clear hi396_4 hl396_4
          replace p396 := eq_true p396
          replace q396 := eq_true q396
          have ea_ := Option.some.inj (hx395_2.symm.trans hx396_2)
          injection ea_ with ea_ en_ ec_
          subst ea_
          subst ec_
          clear en_
          have ea_ := Option.some.inj (hx395_3.symm.trans hx396_3)
          injection ea_ with ea_ en_ ec_
          subst ea_
          subst ec_
          clear en_
          have ea_ := Option.some.inj (hx395_4.symm.trans hx396_4)
          injection ea_ with ea_ en_ ec_
          subst ea_
          subst ec_
          clear en_
          refine start_ (n := 21) (S := fun w' => w'.cell? ⟨gb393, 0, none⟩ = some (.int .i64 ((rd_T52 l0 x7_1).f0)) ∧ w'.cell? ⟨gb393, 1, none⟩ = some (.int .i64 ((rd_T52 l0 x7_1).f1)) ∧ w'.cell? ⟨gb393, 2, none⟩ = some (.slice A392_2 ((rd_T52 l0 x7_1).f2).length c392_2) ∧ w'.cell? ⟨gb393, 3, none⟩ = some (.slice A392_3 ((rd_T52 l0 x7_1).f3).length c392_3) ∧ w'.cell? ⟨gb393, 4, none⟩ = some (.slice A392_4 ((rd_T52 l0 x7_1).f4).length c392_4) ∧ w'.cell? ad392 = some (.int .i64 ((rd_T52 l0 0).f0)) ∧ w'.cell? ⟨ad392.block, ad392.off + 1, none⟩ = some (.int .i64 ((rd_T52 l0 0).f1)) ∧ w'.cell? ⟨ad392.block, ad392.off + 2, none⟩ = some (.slice A395_2 ((rd_T52 l0 0).f2).length c395_2) ∧ w'.cell? ⟨ad392.block, ad392.off + 3, none⟩ = some (.slice A395_3 ((rd_T52 l0 0).f3).length c395_3) ∧ w'.cell? ⟨ad392.block, ad392.off + 4, none⟩ = some (.slice A395_4 ((rd_T52 l0 0).f4).length c395_4) ∧ w'.cell? ad392 = some (.int .i64 ((rd_T52 l0 0).f0)) ∧ w'.cell? ⟨ad392.block, ad392.off + 1, none⟩ = some (.int .i64 ((rd_T52 l0 0).f1)) ∧ w'.cell? ⟨ad392.block, ad392.off + 2, none⟩ = some (.slice A395_2 ((rd_T52 l0 0).f2).length c395_2) ∧ w'.cell? ⟨ad392.block, ad392.off + 3, none⟩ = some (.slice A395_3 ((rd_T52 l0 0).f3).length c395_3) ∧ w'.cell? ⟨ad392.block, ad392.off + 4, none⟩ = some (.slice A395_4 ((rd_T52 l0 0).f4).length c395_4)) (ds := []) #[false, false, false, false, false, false, false, false, false, false, false, false, false, false, false, false, false, false, false, false, false] (by kernel_rfl) rfl rfl ⟨(blk_cell BK393.out 0).trans rfl, (blk_cell BK393.out 1).trans rfl, (blk_cell BK393.out 2).trans rfl, (blk_cell BK393.out 3).trans rfl, (blk_cell BK393.out 4).trans rfl, ((HB.out.cell (World.block_lt_of_cell? w _ hw395_0)).trans hw395_0), ((HB.out.cell (World.block_lt_of_cell? w _ hw395_1)).trans hw395_1), ((HB.out.cell (World.block_lt_of_cell? w _ hw395_2)).trans hw395_2), ((HB.out.cell (World.block_lt_of_cell? w _ hw395_3)).trans hw395_3), ((HB.out.cell (World.block_lt_of_cell? w _ hw395_4)).trans hw395_4), ((HB.out.cell (World.block_lt_of_cell? w _ hw396_0)).trans hw396_0), ((HB.out.cell (World.block_lt_of_cell? w _ hw396_1)).trans hw396_1), ((HB.out.cell (World.block_lt_of_cell? w _ hw396_2)).trans hw396_2), ((HB.out.cell (World.block_lt_of_cell? w _ hw396_3)).trans hw396_3), ((HB.out.cell (World.block_lt_of_cell? w _ hw396_4)).trans hw396_4)⟩ (fun hHeld => ?_); refine with_tabW cadence_alike.tab4 cadence_alike.bits4 (fun HT_ HW_ => ?_)
          generalize w12.drew = w13 at BK393 HB HR395_2 HR395_3 HR395_4 HR396_2 HR396_3 HR396_4 hx395_0 hx395_1 hx395_2 hx395_3 hx395_4 hx396_0 hx396_1 hx396_2 hx396_3 hx396_4 hHeld ⊢
          refine take_ (i := 0) (N := some 11) (v := ?_) (a' := ?_) #[T', F', F', F', F', F', F', F', F', F', F', F', F', F', F', F', F', F', F', F', F'] rfl rfl (take_ofW HT_.out HW_.out (by kernel_rfl)) (fun _ _ _ h => h) (Or.inl ⟨by rfl, ?_⟩) hHeld ?_ ?_;rotate_left;(rintro w' ⟨s0, s1, s2, s3, s4, s5, s6, s7, s8, s9, s10, s11, s12, s13, s14⟩;go_simp;with_reducible rfl);rotate_left;(simp only [Act.put, sA, sZ, sS, i64_w, i32_w];rfl)
          refine one_ (i := 1) (N := some 12) #[T', T', F', F', F', F', F', F', F', F', F', F', F', F', F', F', F', F', F', F', F'] rfl rfl (one_of HT_.out (by kernel_rfl)) (by decide) (fun K hK => ?_)
          refine goes_ Try.func71 (by kernel_rfl) rfl #[.agg #[.int .i64 ((rd_T52 l0 x7_1).f0), .int .i64 ((rd_T52 l0 x7_1).f1), .slice A392_2 ((rd_T52 l0 x7_1).f2).length c392_2, .slice A392_3 ((rd_T52 l0 x7_1).f3).length c392_3, .slice A392_4 ((rd_T52 l0 x7_1).f4).length c392_4]] (by rfl) rfl rfl (by (try simp only [List.map_toArray, List.map_cons, List.map_nil]); first | done | rfl | (simp only [List.length_drop, List.length_take]; rfl)) ?_
          with_reducible refine (cadence_valid.calls ((rd_T52 l0 x7_1).f0) ((rd_T52 l0 x7_1).f1) _ _ ((rd_T52 l0 x7_1).f2) _ _ ((rd_T52 l0 x7_1).f3) _ _ ((rd_T52 l0 x7_1).f4) true _ ?side1 ?side2 ?side3 ?side4 ?side5 ?side6 A5.out).mono ?_
          (case side1 => repeat (first | exact (Kd.C_below HR392_2.out HB.out) | (with_reducible refine Kd.C_alloc ?_ _) | (with_reducible refine Kd.C_drewN ?_ _) | (with_reducible refine Kd.C_drew ?_)))
          (case side2 => exact HC392_2.out)
          (case side3 => repeat (first | exact (Kd.C_below HR392_3.out HB.out) | (with_reducible refine Kd.C_alloc ?_ _) | (with_reducible refine Kd.C_drewN ?_ _) | (with_reducible refine Kd.C_drew ?_)))
          (case side4 => exact HC392_3.out)
          (case side5 => repeat (first | exact (Kd.C_below HR392_4.out HB.out) | (with_reducible refine Kd.C_alloc ?_ _) | (with_reducible refine Kd.C_drewN ?_ _) | (with_reducible refine Kd.C_drew ?_)))
          (case side6 => exact HC392_4.out)
          rintro e w14 ⟨rfl, hb⟩
          refine ⟨_, rfl, ?_⟩
          have n0_ := Aside0.mk (yB (g := gb393) (o := .cells #[.int .i64 ((rd_T52 l0 x7_1).f0), .int .i64 ((rd_T52 l0 x7_1).f1), .slice A392_2 ((rd_T52 l0 x7_1).f2).length c392_2, .slice A392_3 ((rd_T52 l0 x7_1).f3).length c392_3, .slice A392_4 ((rd_T52 l0 x7_1).f4).length c392_4] 52 (0, 0)) (by (with_reducible repeat (first | refine yN ?_ _ | refine yD ?_ | refine yA ?_ _)); exact BK393.out) hb)
          have n1_ := Aside0.mk (zT (by repeat (first | (with_reducible first | exact HB.out | apply zA | apply zN | apply zD | refine zP ?_ GE393.out) | exact HB.out)) hb)
          clear BK393
          clear HB
          have BK393 := n0_
          have HB := n1_
          clear n0_ n1_
          (try clear hb)
          (try clear hb2)
          (try clear hk)
          (try clear hi)
          refine hK.out _ _ ⟨(blk_cell BK393.out 0).trans rfl, (blk_cell BK393.out 1).trans rfl, (blk_cell BK393.out 2).trans rfl, (blk_cell BK393.out 3).trans rfl, (blk_cell BK393.out 4).trans rfl, ((HB.out.cell (World.block_lt_of_cell? w _ hw395_0)).trans hw395_0), ((HB.out.cell (World.block_lt_of_cell? w _ hw395_1)).trans hw395_1), ((HB.out.cell (World.block_lt_of_cell? w _ hw395_2)).trans hw395_2), ((HB.out.cell (World.block_lt_of_cell? w _ hw395_3)).trans hw395_3), ((HB.out.cell (World.block_lt_of_cell? w _ hw395_4)).trans hw395_4), ((HB.out.cell (World.block_lt_of_cell? w _ hw396_0)).trans hw396_0), ((HB.out.cell (World.block_lt_of_cell? w _ hw396_1)).trans hw396_1), ((HB.out.cell (World.block_lt_of_cell? w _ hw396_2)).trans hw396_2), ((HB.out.cell (World.block_lt_of_cell? w _ hw396_3)).trans hw396_3), ((HB.out.cell (World.block_lt_of_cell? w _ hw396_4)).trans hw396_4)⟩ (fun hHeld => ?_)
          clear hK K
          refine norm_ (a' := ?_) ?_ ?_
          rotate_left
          ·show Act.put _ (some 12) _ = _
           simp only [Act.put, sA, sZ, sS, i64_w, i32_w]
           rfl
          refine pure_ (i := 2) (N := some 13) (v := ?_) (a' := ?_) #[T', T', T', F', F', F', F', F', F', F', F', F', F', F', F', F', F', F', F', F', F'] rfl rfl (any_of HT_.out (by kernel_rfl)) (fun _ _ _ h => h) (Or.inl ⟨by rfl, ?_⟩) ?_ ?_;rotate_left;(intro w';go_simp;with_reducible rfl);rotate_left;(simp only [Act.put, sA, sZ, sS, i64_w, i32_w];rfl)
          refine pure_ (i := 3) (N := some 14) (v := ?_) (a' := ?_) #[T', T', T', T', F', F', F', F', F', F', F', F', F', F', F', F', F', F', F', F', F'] rfl rfl (any_of HT_.out (by kernel_rfl)) (fun _ _ _ h => h) (Or.inl ⟨by rfl, ?_⟩) ?_ ?_;rotate_left;(intro w';go_simp;with_reducible rfl);rotate_left;(simp only [Act.put, sA, sZ, sS, i64_w, i32_w];rfl)
          refine pure_ (i := 4) (N := some 15) (v := ?_) (a' := ?_) #[T', T', T', T', T', F', F', F', F', F', F', F', F', F', F', F', F', F', F', F', F'] rfl rfl (any_of HT_.out (by kernel_rfl)) (fun _ _ _ h => h) (Or.inl ⟨by rfl, ?_⟩) ?_ ?_;rotate_left;(intro w';go_simp;with_reducible rfl);rotate_left;(simp only [Act.put, sA, sZ, sS, i64_w, i32_w];rfl)
          refine pure_ (i := 6) (N := some 17) (v := ?_) (a' := ?_) #[T', T', T', T', T', F', T', F', F', F', F', F', F', F', F', F', F', F', F', F', F'] rfl rfl (any_of HT_.out (by kernel_rfl)) (fun _ _ _ h => h) (Or.inl ⟨by rfl, ?_⟩) ?_ ?_;rotate_left;(intro w';go_simp;with_reducible rfl);rotate_left;(simp only [Act.put, sA, sZ, sS, i64_w, i32_w];rfl)
          refine pure_ (i := 7) (N := some 18) (v := ?_) (a' := ?_) #[T', T', T', T', T', F', T', T', F', F', F', F', F', F', F', F', F', F', F', F', F'] rfl rfl (any_of HT_.out (by kernel_rfl)) (fun _ _ _ h => h) (Or.inl ⟨by rfl, ?_⟩) ?_ ?_;rotate_left;(intro w';go_simp;with_reducible rfl);rotate_left;(simp only [Act.put, sA, sZ, sS, i64_w, i32_w];rfl)
          refine pure_ (i := 8) (N := some 19) (v := ?_) (a' := ?_) #[T', T', T', T', T', F', T', T', T', F', F', F', F', F', F', F', F', F', F', F', F'] rfl rfl (any_of HT_.out (by kernel_rfl)) (fun _ _ _ h => h) (Or.inl ⟨by rfl, ?_⟩) ?_ ?_;rotate_left;(intro w';go_simp;with_reducible rfl);rotate_left;(simp only [Act.put, sA, sZ, sS, i64_w, i32_w];rfl)
          refine take_ (i := 5) (N := some 16) (v := ?_) (a' := ?_) #[T', T', T', T', T', T', T', T', T', F', F', F', F', F', F', F', F', F', F', F', F'] rfl rfl (take_ofW HT_.out HW_.out (by kernel_rfl)) (fun _ _ _ h => h) (Or.inl ⟨by rfl, ?_⟩) hHeld ?_ ?_;rotate_left;(rintro w' ⟨s0, s1, s2, s3, s4, s5, s6, s7, s8, s9, s10, s11, s12, s13, s14⟩;go_simp;with_reducible rfl);rotate_left;(simp only [Act.put, sA, sZ, sS, i64_w, i32_w];rfl)
          refine take_ (i := 9) (N := some 20) (v := ?_) (a' := ?_) #[T', T', T', T', T', T', T', T', T', T', F', F', F', F', F', F', F', F', F', F', F'] rfl rfl (take_ofW HT_.out HW_.out (by kernel_rfl)) (fun _ _ _ h => h) (Or.inl ⟨by rfl, ?_⟩) hHeld ?_ ?_;rotate_left;(rintro w' ⟨s0, s1, s2, s3, s4, s5, s6, s7, s8, s9, s10, s11, s12, s13, s14⟩;go_simp;with_reducible rfl);rotate_left;(simp only [Act.put, sA, sZ, sS, i64_w, i32_w];rfl)
          refine pure_ (i := 10) (N := some 21) (v := ?_) (a' := ?_) #[T', T', T', T', T', T', T', T', T', T', T', F', F', F', F', F', F', F', F', F', F'] rfl rfl (any_of HT_.out (by kernel_rfl)) (fun _ _ _ h => h) (Or.inl ⟨by rfl, ?_⟩) ?_ ?_;rotate_left;(intro w';go_simp;with_reducible rfl);rotate_left;(simp only [Act.put, sA, sZ, sS, i64_w, i32_w];rfl)
          refine pure_ (i := 11) (N := some 22) (v := ?_) (a' := ?_) #[T', T', T', T', T', T', T', T', T', T', T', T', F', F', F', F', F', F', F', F', F'] rfl rfl (any_of HT_.out (by kernel_rfl)) (fun _ _ _ h => h) (Or.inl ⟨by rfl, ?_⟩) ?_ ?_;rotate_left;(intro w';go_simp;with_reducible rfl);rotate_left;(simp only [Act.put, sA, sZ, sS, i64_w, i32_w];rfl)
          refine pure_ (i := 12) (N := some 23) (v := ?_) (a' := ?_) #[T', T', T', T', T', T', T', T', T', T', T', T', T', F', F', F', F', F', F', F', F'] rfl rfl (any_of HT_.out (by kernel_rfl)) (fun _ _ _ h => h) (Or.inl ⟨by rfl, ?_⟩) ?_ ?_;rotate_left;(intro w';go_simp;with_reducible rfl);rotate_left;(simp only [Act.put, sA, sZ, sS, i64_w, i32_w];rfl)
          refine pure_ (i := 13) (N := some 24) (v := ?_) (a' := ?_) #[T', T', T', T', T', T', T', T', T', T', T', T', T', T', F', F', F', F', F', F', F'] rfl rfl (any_of HT_.out (by kernel_rfl)) (fun _ _ _ h => h) (Or.inl ⟨by rfl, ?_⟩) ?_ ?_;rotate_left;(intro w';go_simp;with_reducible rfl);rotate_left;(simp only [Act.put, sA, sZ, sS, i64_w, i32_w];rfl)
          refine pure_ (i := 15) (N := some 26) (v := ?_) (a' := ?_) #[T', T', T', T', T', T', T', T', T', T', T', T', T', T', F', T', F', F', F', F', F'] rfl rfl (any_of HT_.out (by kernel_rfl)) (fun _ _ _ h => h) (Or.inl ⟨by rfl, ?_⟩) ?_ ?_;rotate_left;(intro w';go_simp;with_reducible rfl);rotate_left;(simp only [Act.put, sA, sZ, sS, i64_w, i32_w];rfl)
          refine pure_ (i := 16) (N := some 27) (v := ?_) (a' := ?_) #[T', T', T', T', T', T', T', T', T', T', T', T', T', T', F', T', T', F', F', F', F'] rfl rfl (any_of HT_.out (by kernel_rfl)) (fun _ _ _ h => h) (Or.inl ⟨by rfl, ?_⟩) ?_ ?_;rotate_left;(intro w';go_simp;with_reducible rfl);rotate_left;(simp only [Act.put, sA, sZ, sS, i64_w, i32_w];rfl)
          refine pure_ (i := 17) (N := some 28) (v := ?_) (a' := ?_) #[T', T', T', T', T', T', T', T', T', T', T', T', T', T', F', T', T', T', F', F', F'] rfl rfl (any_of HT_.out (by kernel_rfl)) (fun _ _ _ h => h) (Or.inl ⟨by rfl, ?_⟩) ?_ ?_;rotate_left;(intro w';go_simp;with_reducible rfl);rotate_left;(simp only [Act.put, sA, sZ, sS, i64_w, i32_w];rfl)
          refine take_ (i := 14) (N := some 25) (v := ?_) (a' := ?_) #[T', T', T', T', T', T', T', T', T', T', T', T', T', T', T', T', T', T', F', F', F'] rfl rfl (take_ofW HT_.out HW_.out (by kernel_rfl)) (fun _ _ _ h => h) (Or.inl ⟨by rfl, ?_⟩) hHeld ?_ ?_;rotate_left;(rintro w' ⟨s0, s1, s2, s3, s4, s5, s6, s7, s8, s9, s10, s11, s12, s13, s14⟩;go_simp;with_reducible rfl);rotate_left;(simp only [Act.put, sA, sZ, sS, i64_w, i32_w];rfl)
          refine take_ (i := 18) (N := some 29) (v := ?_) (a' := ?_) #[T', T', T', T', T', T', T', T', T', T', T', T', T', T', T', T', T', T', T', F', F'] rfl rfl (take_ofW HT_.out HW_.out (by kernel_rfl)) (fun _ _ _ h => h) (Or.inl ⟨by rfl, ?_⟩) hHeld ?_ ?_;rotate_left;(rintro w' ⟨s0, s1, s2, s3, s4, s5, s6, s7, s8, s9, s10, s11, s12, s13, s14⟩;go_simp;with_reducible rfl);rotate_left;(simp only [Act.put, sA, sZ, sS, i64_w, i32_w];rfl)
          refine pure_ (i := 19) (N := some 30) (v := ?_) (a' := ?_) #[T', T', T', T', T', T', T', T', T', T', T', T', T', T', T', T', T', T', T', T', F'] rfl rfl (any_of HT_.out (by kernel_rfl)) (fun _ _ _ h => h) (Or.inl ⟨by rfl, ?_⟩) ?_ ?_;rotate_left;(intro w';go_simp;with_reducible rfl);rotate_left;(simp only [Act.put, sA, sZ, sS, i64_w, i32_w];rfl)
          refine pure_ (i := 20) (N := some 31) (v := ?_) (a' := ?_) #[T', T', T', T', T', T', T', T', T', T', T', T', T', T', T', T', T', T', T', T', T'] rfl rfl (any_of HT_.out (by kernel_rfl)) (fun _ _ _ h => h) (Or.inl ⟨by rfl, ?_⟩) ?_ ?_;rotate_left;(intro w';go_simp;with_reducible rfl);rotate_left;(simp only [Act.put, sA, sZ, sS, i64_w, i32_w];rfl)
          refine done_ (done_of HT_.out (by kernel_rfl)) ?_
          try go_wp2
          go_roundg k1
          case measure => have := HK1.out; omega
          case rel => exact ⟨(wrap64 (x7_1 + 1)), (by first | rfl | (simp; done) | (simp [*]; done)), H', ⟨by have := HK1.out; omega⟩, ⟨by repeat (first | (with_reducible first | exact HB.out | apply zA | apply zN | apply zD | refine zP ?_ GE393.out) | exact HB.out)⟩⟩
         ·rw [if_neg c9] at H
          have c9b0 : (((rd_T52 l0 x7_1).f1) == ((rd_T52 l0 0).f1)) = false := beq_eq_false_iff_ne.mpr c9
          have c9b1 : (((rd_T52 l0 x7_1).f1) != ((rd_T52 l0 0).f1)) = true := bne_iff_ne.mpr c9
          obtain rfl := Option.some.inj H
          have p392 : 0 ≤ (x7_1 : Int) := of_decide_eq_true (by first | (with_reducible assumption) | assumption)
          have q392 : x7_1 < (l0.length : Int) := of_decide_eq_true (by first | (with_reducible assumption) | assumption)
          obtain ⟨ad392, A392_2, c392_2, A392_3, c392_3, A392_4, c392_4, e392, hx392_0, hx392_1, hx392_2, hx392_3, hx392_4, hl392_2, hi392_2, hl392_3, hi392_3, hl392_4, hi392_4⟩ := at_T52 HR0.out x7_1 p392 q392
          cases e392
          replace hx392_0 := (HB.out.cell (World.block_lt_of_cell? w _ hx392_0)).trans hx392_0
          replace hx392_1 := (HB.out.cell (World.block_lt_of_cell? w _ hx392_1)).trans hx392_1
          replace hx392_2 := (HB.out.cell (World.block_lt_of_cell? w _ hx392_2)).trans hx392_2
          replace hx392_3 := (HB.out.cell (World.block_lt_of_cell? w _ hx392_3)).trans hx392_3
          replace hx392_4 := (HB.out.cell (World.block_lt_of_cell? w _ hx392_4)).trans hx392_4
          have HR392_2 := Aside0.mk hi392_2
          have HC392_2 := Aside0.mk hl392_2
          clear hi392_2 hl392_2
          have HR392_3 := Aside0.mk hi392_3
          have HC392_3 := Aside0.mk hl392_3
          clear hi392_3 hl392_3
          have HR392_4 := Aside0.mk hi392_4
          have HC392_4 := Aside0.mk hl392_4
          clear hi392_4 hl392_4
          replace p392 := eq_true p392
          replace q392 := eq_true q392
          try go_wp2_with (first | ((with_reducible refine xD (N := 4) rfl ?_); refine box_event ?hg (N := 4) ?hd (cs := #[.int .i64 0, .int .i64 0, .slice none 0 0, .slice none 0 0, .slice none 0 0]) (t := 52) ?hr ?_; (case hd => rfl); (case hg => rfl); (case hr => first | (go_simp; done) | (go_simp; rfl)); intro gb393 hg w15 hbox hb; have n0_ := Aside0.mk (zT (by repeat (first | (with_reducible first | exact HB.out | apply zA | apply zN | apply zD) | exact HB.out)) hb); have n1_ := Aside0.mk (hbox); have n2_ := Aside0.mk ((by rw [hg]; exact (zS (by repeat (first | (with_reducible first | exact HB.out | apply zA | apply zN | apply zD) | exact HB.out))) : w.heap.size ≤ gb393)); have n3_ := n2_; clear HB; have HB := n0_; have BK393 := n1_; have GW393 := n2_; have GE393 := n3_; clear n0_ n1_ n2_ n3_; clear hb hbox hg; have hcz16_0 : w15.cell? ⟨gb393, 0, none⟩ = some (.int .i64 0) := (blk_cell BK393.out 0).trans rfl; have hcz16_1 : w15.cell? ⟨gb393, 1, none⟩ = some (.int .i64 0) := (blk_cell BK393.out 1).trans rfl; have hcz16_2 : w15.cell? ⟨gb393, 2, none⟩ = some (.slice none 0 0) := (blk_cell BK393.out 2).trans rfl; have hcz16_3 : w15.cell? ⟨gb393, 3, none⟩ = some (.slice none 0 0) := (blk_cell BK393.out 3).trans rfl; have hcz16_4 : w15.cell? ⟨gb393, 4, none⟩ = some (.slice none 0 0) := (blk_cell BK393.out 4).trans rfl; have hfz16_0 := blk_frozen BK393.out 0; have hfz16_1 := blk_frozen BK393.out 1; have hfz16_2 := blk_frozen BK393.out 2; have hfz16_3 := blk_frozen BK393.out 3; have hfz16_4 := blk_frozen BK393.out 4))
          have n0_ : Aside0 ((((((w15.setCell ⟨gb393, 0, none⟩ (.int .i64 ((rd_T52 l0 x7_1).f0))).setCell ⟨gb393, 1, none⟩ (.int .i64 ((rd_T52 l0 x7_1).f1))).setCell ⟨gb393, 2, none⟩ (.slice A392_2 ((rd_T52 l0 x7_1).f2).length c392_2)).setCell ⟨gb393, 3, none⟩ (.slice A392_3 ((rd_T52 l0 x7_1).f3).length c392_3)).setCell ⟨gb393, 4, none⟩ (.slice A392_4 ((rd_T52 l0 x7_1).f4).length c392_4)).heap[gb393]? = some (.cells #[.int .i64 ((rd_T52 l0 x7_1).f0), .int .i64 ((rd_T52 l0 x7_1).f1), .slice A392_2 ((rd_T52 l0 x7_1).f2).length c392_2, .slice A392_3 ((rd_T52 l0 x7_1).f3).length c392_3, .slice A392_4 ((rd_T52 l0 x7_1).f4).length c392_4] 52 (0, 0))) := ⟨by (with_reducible repeat (first | refine yN ?_ _ | refine yD ?_ | refine yA ?_ _)); refine blk_put (cs := #[.int .i64 ((rd_T52 l0 x7_1).f0), .int .i64 ((rd_T52 l0 x7_1).f1), .slice A392_2 ((rd_T52 l0 x7_1).f2).length c392_2, .slice A392_3 ((rd_T52 l0 x7_1).f3).length c392_3, .slice none 0 0]) ?_ 4 _ rfl; (with_reducible repeat (first | refine yN ?_ _ | refine yD ?_ | refine yA ?_ _)); refine blk_put (cs := #[.int .i64 ((rd_T52 l0 x7_1).f0), .int .i64 ((rd_T52 l0 x7_1).f1), .slice A392_2 ((rd_T52 l0 x7_1).f2).length c392_2, .slice none 0 0, .slice none 0 0]) ?_ 3 _ rfl; (with_reducible repeat (first | refine yN ?_ _ | refine yD ?_ | refine yA ?_ _)); refine blk_put (cs := #[.int .i64 ((rd_T52 l0 x7_1).f0), .int .i64 ((rd_T52 l0 x7_1).f1), .slice none 0 0, .slice none 0 0, .slice none 0 0]) ?_ 2 _ rfl; (with_reducible repeat (first | refine yN ?_ _ | refine yD ?_ | refine yA ?_ _)); refine blk_put (cs := #[.int .i64 ((rd_T52 l0 x7_1).f0), .int .i64 0, .slice none 0 0, .slice none 0 0, .slice none 0 0]) ?_ 1 _ rfl; (with_reducible repeat (first | refine yN ?_ _ | refine yD ?_ | refine yA ?_ _)); refine blk_put (cs := #[.int .i64 0, .int .i64 0, .slice none 0 0, .slice none 0 0, .slice none 0 0]) ?_ 0 _ rfl; (with_reducible repeat (first | refine yN ?_ _ | refine yD ?_ | refine yA ?_ _)); exact BK393.out⟩
          have n1_ : Aside0 (Below w.heap.size w (((((w15.setCell ⟨gb393, 0, none⟩ (.int .i64 ((rd_T52 l0 x7_1).f0))).setCell ⟨gb393, 1, none⟩ (.int .i64 ((rd_T52 l0 x7_1).f1))).setCell ⟨gb393, 2, none⟩ (.slice A392_2 ((rd_T52 l0 x7_1).f2).length c392_2)).setCell ⟨gb393, 3, none⟩ (.slice A392_3 ((rd_T52 l0 x7_1).f3).length c392_3)).setCell ⟨gb393, 4, none⟩ (.slice A392_4 ((rd_T52 l0 x7_1).f4).length c392_4))) := ⟨by repeat (first | (with_reducible first | exact HB.out | apply zA | apply zN | apply zD | refine zP ?_ GE393.out) | exact HB.out)⟩
          (try clear BK393)
          (try clear HB)
          generalize (((((w15.setCell ⟨gb393, 0, none⟩ (.int .i64 ((rd_T52 l0 x7_1).f0))).setCell ⟨gb393, 1, none⟩ (.int .i64 ((rd_T52 l0 x7_1).f1))).setCell ⟨gb393, 2, none⟩ (.slice A392_2 ((rd_T52 l0 x7_1).f2).length c392_2)).setCell ⟨gb393, 3, none⟩ (.slice A392_3 ((rd_T52 l0 x7_1).f3).length c392_3)).setCell ⟨gb393, 4, none⟩ (.slice A392_4 ((rd_T52 l0 x7_1).f4).length c392_4)) = w17 at n0_ n1_ ⊢
          have BK393 := n0_
          have HB := n1_
          clear n0_ n1_
          have n0_ := Aside0.mk (yD BK393.out)
          have n1_ := Aside0.mk (zD HB.out)
          clear BK393
          clear HB
          have BK393 := n0_
          have HB := n1_
          clear n0_ n1_
          have p395 : 0 ≤ (0 : Int) := (by omega)
          have q395 : 0 < (l0.length : Int) := of_decide_eq_true (by first | (with_reducible assumption) | assumption)
          obtain ⟨ad395, A395_2, c395_2, A395_3, c395_3, A395_4, c395_4, e395, hx395_0, hx395_1, hx395_2, hx395_3, hx395_4, hl395_2, hi395_2, hl395_3, hi395_3, hl395_4, hi395_4⟩ := at_T52 HR0.out 0 p395 q395
          have hw395_4 := hx395_4
          (try rw [show ((0 : Int)).toNat = 0 from rfl] at hw395_4)
          (try rw [show 0 * 5 = 0 from rfl] at hw395_4)
          (try rw [Addr.add_zero'] at hw395_4)
          have hw395_3 := hx395_3
          (try rw [show ((0 : Int)).toNat = 0 from rfl] at hw395_3)
          (try rw [show 0 * 5 = 0 from rfl] at hw395_3)
          (try rw [Addr.add_zero'] at hw395_3)
          have hw395_2 := hx395_2
          (try rw [show ((0 : Int)).toNat = 0 from rfl] at hw395_2)
          (try rw [show 0 * 5 = 0 from rfl] at hw395_2)
          (try rw [Addr.add_zero'] at hw395_2)
          have hw395_1 := hx395_1
          (try rw [show ((0 : Int)).toNat = 0 from rfl] at hw395_1)
          (try rw [show 0 * 5 = 0 from rfl] at hw395_1)
          (try rw [Addr.add_zero'] at hw395_1)
          have hw395_0 := hx395_0
          (try rw [show ((0 : Int)).toNat = 0 from rfl] at hw395_0)
          (try rw [show 0 * 5 = 0 from rfl] at hw395_0)
          (try rw [Addr.add_zero'] at hw395_0)
          obtain rfl : ad392 = ad395 := (by injection e395)
          have qi395 : (0 < l0.length) = True := eq_true (by omega)
          (try rw [show ((0 : Int)).toNat = 0 from rfl] at hx395_0)
          (try rw [show 0 * 5 = 0 from rfl] at hx395_0)
          (try rw [Addr.add_zero'] at hx395_0)
          (try rw [show ((0 : Int)).toNat = 0 from rfl] at hx395_1)
          (try rw [show 0 * 5 = 0 from rfl] at hx395_1)
          (try rw [Addr.add_zero'] at hx395_1)
          (try rw [show ((0 : Int)).toNat = 0 from rfl] at hx395_2)
          (try rw [show 0 * 5 = 0 from rfl] at hx395_2)
          (try rw [Addr.add_zero'] at hx395_2)
          (try rw [show ((0 : Int)).toNat = 0 from rfl] at hx395_3)
          (try rw [show 0 * 5 = 0 from rfl] at hx395_3)
          (try rw [Addr.add_zero'] at hx395_3)
          (try rw [show ((0 : Int)).toNat = 0 from rfl] at hx395_4)
          (try rw [show 0 * 5 = 0 from rfl] at hx395_4)
          (try rw [Addr.add_zero'] at hx395_4)
          replace hx395_0 := (HB.out.cell (World.block_lt_of_cell? w _ hx395_0)).trans hx395_0
          replace hx395_1 := (HB.out.cell (World.block_lt_of_cell? w _ hx395_1)).trans hx395_1
          replace hx395_2 := (HB.out.cell (World.block_lt_of_cell? w _ hx395_2)).trans hx395_2
          replace hx395_3 := (HB.out.cell (World.block_lt_of_cell? w _ hx395_3)).trans hx395_3
          replace hx395_4 := (HB.out.cell (World.block_lt_of_cell? w _ hx395_4)).trans hx395_4
          have HR395_2 := Aside0.mk hi395_2
          have HC395_2 := Aside0.mk hl395_2
          clear hi395_2 hl395_2
          have HR395_3 := Aside0.mk hi395_3
          have HC395_3 := Aside0.mk hl395_3
          clear hi395_3 hl395_3
          have HR395_4 := Aside0.mk hi395_4
          have HC395_4 := Aside0.mk hl395_4
          clear hi395_4 hl395_4
          replace p395 := eq_true p395
          replace q395 := eq_true q395
          have p396 : 0 ≤ (0 : Int) := (by omega)
          have q396 : 0 < (l0.length : Int) := of_decide_eq_true (by first | (with_reducible assumption) | assumption)
          obtain ⟨ad396, A396_2, c396_2, A396_3, c396_3, A396_4, c396_4, e396, hx396_0, hx396_1, hx396_2, hx396_3, hx396_4, hl396_2, hi396_2, hl396_3, hi396_3, hl396_4, hi396_4⟩ := at_T52 HR0.out 0 p396 q396
          have hw396_4 := hx396_4
          (try rw [show ((0 : Int)).toNat = 0 from rfl] at hw396_4)
          (try rw [show 0 * 5 = 0 from rfl] at hw396_4)
          (try rw [Addr.add_zero'] at hw396_4)
          have hw396_3 := hx396_3
          (try rw [show ((0 : Int)).toNat = 0 from rfl] at hw396_3)
          (try rw [show 0 * 5 = 0 from rfl] at hw396_3)
          (try rw [Addr.add_zero'] at hw396_3)
          have hw396_2 := hx396_2
          (try rw [show ((0 : Int)).toNat = 0 from rfl] at hw396_2)
          (try rw [show 0 * 5 = 0 from rfl] at hw396_2)
          (try rw [Addr.add_zero'] at hw396_2)
          have hw396_1 := hx396_1
          (try rw [show ((0 : Int)).toNat = 0 from rfl] at hw396_1)
          (try rw [show 0 * 5 = 0 from rfl] at hw396_1)
          (try rw [Addr.add_zero'] at hw396_1)
          have hw396_0 := hx396_0
          (try rw [show ((0 : Int)).toNat = 0 from rfl] at hw396_0)
          (try rw [show 0 * 5 = 0 from rfl] at hw396_0)
          (try rw [Addr.add_zero'] at hw396_0)
          obtain rfl : ad392 = ad396 := (by injection e396)
          have qi396 : (0 < l0.length) = True := eq_true (by omega)
          (try rw [show ((0 : Int)).toNat = 0 from rfl] at hx396_0)
          (try rw [show 0 * 5 = 0 from rfl] at hx396_0)
          (try rw [Addr.add_zero'] at hx396_0)
          (try rw [show ((0 : Int)).toNat = 0 from rfl] at hx396_1)
          (try rw [show 0 * 5 = 0 from rfl] at hx396_1)
          (try rw [Addr.add_zero'] at hx396_1)
          (try rw [show ((0 : Int)).toNat = 0 from rfl] at hx396_2)
          (try rw [show 0 * 5 = 0 from rfl] at hx396_2)
          (try rw [Addr.add_zero'] at hx396_2)
          (try rw [show ((0 : Int)).toNat = 0 from rfl] at hx396_3)
          (try rw [show 0 * 5 = 0 from rfl] at hx396_3)
          (try rw [Addr.add_zero'] at hx396_3)
          (try rw [show ((0 : Int)).toNat = 0 from rfl] at hx396_4)
          (try rw [show 0 * 5 = 0 from rfl] at hx396_4)
          (try rw [Addr.add_zero'] at hx396_4)
          replace hx396_0 := (HB.out.cell (World.block_lt_of_cell? w _ hx396_0)).trans hx396_0
          replace hx396_1 := (HB.out.cell (World.block_lt_of_cell? w _ hx396_1)).trans hx396_1
          replace hx396_2 := (HB.out.cell (World.block_lt_of_cell? w _ hx396_2)).trans hx396_2
          replace hx396_3 := (HB.out.cell (World.block_lt_of_cell? w _ hx396_3)).trans hx396_3
          replace hx396_4 := (HB.out.cell (World.block_lt_of_cell? w _ hx396_4)).trans hx396_4
          have HR396_2 := Aside0.mk hi396_2
          have HC396_2 := Aside0.mk hl396_2
          clear hi396_2 hl396_2
          have HR396_3 := Aside0.mk hi396_3
          have HC396_3 := Aside0.mk hl396_3
          clear hi396_3 hl396_3
          have HR396_4 := Aside0.mk hi396_4
          have HC396_4 := Aside0.mk hl396_4
          clear hi396_4 hl396_4
          replace p396 := eq_true p396
          replace q396 := eq_true q396
          have ea_ := Option.some.inj (hx395_2.symm.trans hx396_2)
          injection ea_ with ea_ en_ ec_
          subst ea_
          subst ec_
          clear en_
          have ea_ := Option.some.inj (hx395_3.symm.trans hx396_3)
          injection ea_ with ea_ en_ ec_
          subst ea_
          subst ec_
          clear en_
          have ea_ := Option.some.inj (hx395_4.symm.trans hx396_4)
          injection ea_ with ea_ en_ ec_
          subst ea_
          subst ec_
          clear en_
          refine start_ (n := 21) (S := fun w' => w'.cell? ⟨gb393, 0, none⟩ = some (.int .i64 ((rd_T52 l0 x7_1).f0)) ∧ w'.cell? ⟨gb393, 1, none⟩ = some (.int .i64 ((rd_T52 l0 x7_1).f1)) ∧ w'.cell? ⟨gb393, 2, none⟩ = some (.slice A392_2 ((rd_T52 l0 x7_1).f2).length c392_2) ∧ w'.cell? ⟨gb393, 3, none⟩ = some (.slice A392_3 ((rd_T52 l0 x7_1).f3).length c392_3) ∧ w'.cell? ⟨gb393, 4, none⟩ = some (.slice A392_4 ((rd_T52 l0 x7_1).f4).length c392_4) ∧ w'.cell? ad392 = some (.int .i64 ((rd_T52 l0 0).f0)) ∧ w'.cell? ⟨ad392.block, ad392.off + 1, none⟩ = some (.int .i64 ((rd_T52 l0 0).f1)) ∧ w'.cell? ⟨ad392.block, ad392.off + 2, none⟩ = some (.slice A395_2 ((rd_T52 l0 0).f2).length c395_2) ∧ w'.cell? ⟨ad392.block, ad392.off + 3, none⟩ = some (.slice A395_3 ((rd_T52 l0 0).f3).length c395_3) ∧ w'.cell? ⟨ad392.block, ad392.off + 4, none⟩ = some (.slice A395_4 ((rd_T52 l0 0).f4).length c395_4) ∧ w'.cell? ad392 = some (.int .i64 ((rd_T52 l0 0).f0)) ∧ w'.cell? ⟨ad392.block, ad392.off + 1, none⟩ = some (.int .i64 ((rd_T52 l0 0).f1)) ∧ w'.cell? ⟨ad392.block, ad392.off + 2, none⟩ = some (.slice A395_2 ((rd_T52 l0 0).f2).length c395_2) ∧ w'.cell? ⟨ad392.block, ad392.off + 3, none⟩ = some (.slice A395_3 ((rd_T52 l0 0).f3).length c395_3) ∧ w'.cell? ⟨ad392.block, ad392.off + 4, none⟩ = some (.slice A395_4 ((rd_T52 l0 0).f4).length c395_4)) (ds := []) #[false, false, false, false, false, false, false, false, false, false, false, false, false, false, false, false, false, false, false, false, false] (by kernel_rfl) rfl rfl ⟨(blk_cell BK393.out 0).trans rfl, (blk_cell BK393.out 1).trans rfl, (blk_cell BK393.out 2).trans rfl, (blk_cell BK393.out 3).trans rfl, (blk_cell BK393.out 4).trans rfl, ((HB.out.cell (World.block_lt_of_cell? w _ hw395_0)).trans hw395_0), ((HB.out.cell (World.block_lt_of_cell? w _ hw395_1)).trans hw395_1), ((HB.out.cell (World.block_lt_of_cell? w _ hw395_2)).trans hw395_2), ((HB.out.cell (World.block_lt_of_cell? w _ hw395_3)).trans hw395_3), ((HB.out.cell (World.block_lt_of_cell? w _ hw395_4)).trans hw395_4), ((HB.out.cell (World.block_lt_of_cell? w _ hw396_0)).trans hw396_0), ((HB.out.cell (World.block_lt_of_cell? w _ hw396_1)).trans hw396_1), ((HB.out.cell (World.block_lt_of_cell? w _ hw396_2)).trans hw396_2), ((HB.out.cell (World.block_lt_of_cell? w _ hw396_3)).trans hw396_3), ((HB.out.cell (World.block_lt_of_cell? w _ hw396_4)).trans hw396_4)⟩ (fun hHeld => ?_); refine with_tabW cadence_alike.tab4 cadence_alike.bits4 (fun HT_ HW_ => ?_)
          generalize w17.drew = w18 at BK393 HB HR395_2 HR395_3 HR395_4 HR396_2 HR396_3 HR396_4 hx395_0 hx395_1 hx395_2 hx395_3 hx395_4 hx396_0 hx396_1 hx396_2 hx396_3 hx396_4 hHeld ⊢
          refine take_ (i := 0) (N := some 11) (v := ?_) (a' := ?_) #[T', F', F', F', F', F', F', F', F', F', F', F', F', F', F', F', F', F', F', F', F'] rfl rfl (take_ofW HT_.out HW_.out (by kernel_rfl)) (fun _ _ _ h => h) (Or.inl ⟨by rfl, ?_⟩) hHeld ?_ ?_;rotate_left;(rintro w' ⟨s0, s1, s2, s3, s4, s5, s6, s7, s8, s9, s10, s11, s12, s13, s14⟩;go_simp;with_reducible rfl);rotate_left;(simp only [Act.put, sA, sZ, sS, i64_w, i32_w];rfl)
          refine one_ (i := 1) (N := some 12) #[T', T', F', F', F', F', F', F', F', F', F', F', F', F', F', F', F', F', F', F', F'] rfl rfl (one_of HT_.out (by kernel_rfl)) (by decide) (fun K hK => ?_)
          refine goes_ Try.func71 (by kernel_rfl) rfl #[.agg #[.int .i64 ((rd_T52 l0 x7_1).f0), .int .i64 ((rd_T52 l0 x7_1).f1), .slice A392_2 ((rd_T52 l0 x7_1).f2).length c392_2, .slice A392_3 ((rd_T52 l0 x7_1).f3).length c392_3, .slice A392_4 ((rd_T52 l0 x7_1).f4).length c392_4]] (by rfl) rfl rfl (by (try simp only [List.map_toArray, List.map_cons, List.map_nil]); first | done | rfl | (simp only [List.length_drop, List.length_take]; rfl)) ?_
          with_reducible refine (cadence_valid.calls ((rd_T52 l0 x7_1).f0) ((rd_T52 l0 x7_1).f1) _ _ ((rd_T52 l0 x7_1).f2) _ _ ((rd_T52 l0 x7_1).f3) _ _ ((rd_T52 l0 x7_1).f4) true _ ?side1 ?side2 ?side3 ?side4 ?side5 ?side6 A5.out).mono ?_
          (case side1 => repeat (first | exact (Kd.C_below HR392_2.out HB.out) | (with_reducible refine Kd.C_alloc ?_ _) | (with_reducible refine Kd.C_drewN ?_ _) | (with_reducible refine Kd.C_drew ?_)))
          (case side2 => exact HC392_2.out)
          (case side3 => repeat (first | exact (Kd.C_below HR392_3.out HB.out) | (with_reducible refine Kd.C_alloc ?_ _) | (with_reducible refine Kd.C_drewN ?_ _) | (with_reducible refine Kd.C_drew ?_)))
          (case side4 => exact HC392_3.out)
          (case side5 => repeat (first | exact (Kd.C_below HR392_4.out HB.out) | (with_reducible refine Kd.C_alloc ?_ _) | (with_reducible refine Kd.C_drewN ?_ _) | (with_reducible refine Kd.C_drew ?_)))
          (case side6 => exact HC392_4.out)
          rintro e w19 ⟨rfl, hb⟩
          refine ⟨_, rfl, ?_⟩
          have n0_ := Aside0.mk (yB (g := gb393) (o := .cells #[.int .i64 ((rd_T52 l0 x7_1).f0), .int .i64 ((rd_T52 l0 x7_1).f1), .slice A392_2 ((rd_T52 l0 x7_1).f2).length c392_2, .slice A392_3 ((rd_T52 l0 x7_1).f3).length c392_3, .slice A392_4 ((rd_T52 l0 x7_1).f4).length c392_4] 52 (0, 0)) (by (with_reducible repeat (first | refine yN ?_ _ | refine yD ?_ | refine yA ?_ _)); exact BK393.out) hb)
          have n1_ := Aside0.mk (zT (by repeat (first | (with_reducible first | exact HB.out | apply zA | apply zN | apply zD | refine zP ?_ GE393.out) | exact HB.out)) hb)
          clear BK393
          clear HB
          have BK393 := n0_
          have HB := n1_
          clear n0_ n1_
          (try clear hb)
          (try clear hb2)
          (try clear hk)
          (try clear hi)
          refine hK.out _ _ ⟨(blk_cell BK393.out 0).trans rfl, (blk_cell BK393.out 1).trans rfl, (blk_cell BK393.out 2).trans rfl, (blk_cell BK393.out 3).trans rfl, (blk_cell BK393.out 4).trans rfl, ((HB.out.cell (World.block_lt_of_cell? w _ hw395_0)).trans hw395_0), ((HB.out.cell (World.block_lt_of_cell? w _ hw395_1)).trans hw395_1), ((HB.out.cell (World.block_lt_of_cell? w _ hw395_2)).trans hw395_2), ((HB.out.cell (World.block_lt_of_cell? w _ hw395_3)).trans hw395_3), ((HB.out.cell (World.block_lt_of_cell? w _ hw395_4)).trans hw395_4), ((HB.out.cell (World.block_lt_of_cell? w _ hw396_0)).trans hw396_0), ((HB.out.cell (World.block_lt_of_cell? w _ hw396_1)).trans hw396_1), ((HB.out.cell (World.block_lt_of_cell? w _ hw396_2)).trans hw396_2), ((HB.out.cell (World.block_lt_of_cell? w _ hw396_3)).trans hw396_3), ((HB.out.cell (World.block_lt_of_cell? w _ hw396_4)).trans hw396_4)⟩ (fun hHeld => ?_)
          clear hK K
          refine norm_ (a' := ?_) ?_ ?_
          rotate_left
          ·show Act.put _ (some 12) _ = _
           simp only [Act.put, sA, sZ, sS, i64_w, i32_w]
           rfl
          refine pure_ (i := 2) (N := some 13) (v := ?_) (a' := ?_) #[T', T', T', F', F', F', F', F', F', F', F', F', F', F', F', F', F', F', F', F', F'] rfl rfl (any_of HT_.out (by kernel_rfl)) (fun _ _ _ h => h) (Or.inl ⟨by rfl, ?_⟩) ?_ ?_;rotate_left;(intro w';go_simp;with_reducible rfl);rotate_left;(simp only [Act.put, sA, sZ, sS, i64_w, i32_w];rfl)
          refine pure_ (i := 3) (N := some 14) (v := ?_) (a' := ?_) #[T', T', T', T', F', F', F', F', F', F', F', F', F', F', F', F', F', F', F', F', F'] rfl rfl (any_of HT_.out (by kernel_rfl)) (fun _ _ _ h => h) (Or.inl ⟨by rfl, ?_⟩) ?_ ?_;rotate_left;(intro w';go_simp;with_reducible rfl);rotate_left;(simp only [Act.put, sA, sZ, sS, i64_w, i32_w];rfl)
          refine pure_ (i := 4) (N := some 15) (v := ?_) (a' := ?_) #[T', T', T', T', T', F', F', F', F', F', F', F', F', F', F', F', F', F', F', F', F'] rfl rfl (any_of HT_.out (by kernel_rfl)) (fun _ _ _ h => h) (Or.inl ⟨by rfl, ?_⟩) ?_ ?_;rotate_left;(intro w';go_simp;with_reducible rfl);rotate_left;(simp only [Act.put, sA, sZ, sS, i64_w, i32_w];rfl)
          refine pure_ (i := 6) (N := some 17) (v := ?_) (a' := ?_) #[T', T', T', T', T', F', T', F', F', F', F', F', F', F', F', F', F', F', F', F', F'] rfl rfl (any_of HT_.out (by kernel_rfl)) (fun _ _ _ h => h) (Or.inl ⟨by rfl, ?_⟩) ?_ ?_;rotate_left;(intro w';go_simp;with_reducible rfl);rotate_left;(simp only [Act.put, sA, sZ, sS, i64_w, i32_w];rfl)
          refine pure_ (i := 7) (N := some 18) (v := ?_) (a' := ?_) #[T', T', T', T', T', F', T', T', F', F', F', F', F', F', F', F', F', F', F', F', F'] rfl rfl (any_of HT_.out (by kernel_rfl)) (fun _ _ _ h => h) (Or.inl ⟨by rfl, ?_⟩) ?_ ?_;rotate_left;(intro w';go_simp;with_reducible rfl);rotate_left;(simp only [Act.put, sA, sZ, sS, i64_w, i32_w];rfl)
          refine pure_ (i := 8) (N := some 19) (v := ?_) (a' := ?_) #[T', T', T', T', T', F', T', T', T', F', F', F', F', F', F', F', F', F', F', F', F'] rfl rfl (any_of HT_.out (by kernel_rfl)) (fun _ _ _ h => h) (Or.inl ⟨by rfl, ?_⟩) ?_ ?_;rotate_left;(intro w';go_simp;with_reducible rfl);rotate_left;(simp only [Act.put, sA, sZ, sS, i64_w, i32_w];rfl)
          refine take_ (i := 5) (N := some 16) (v := ?_) (a' := ?_) #[T', T', T', T', T', T', T', T', T', F', F', F', F', F', F', F', F', F', F', F', F'] rfl rfl (take_ofW HT_.out HW_.out (by kernel_rfl)) (fun _ _ _ h => h) (Or.inl ⟨by rfl, ?_⟩) hHeld ?_ ?_;rotate_left;(rintro w' ⟨s0, s1, s2, s3, s4, s5, s6, s7, s8, s9, s10, s11, s12, s13, s14⟩;go_simp;with_reducible rfl);rotate_left;(simp only [Act.put, sA, sZ, sS, i64_w, i32_w];rfl)
          refine take_ (i := 9) (N := some 20) (v := ?_) (a' := ?_) #[T', T', T', T', T', T', T', T', T', T', F', F', F', F', F', F', F', F', F', F', F'] rfl rfl (take_ofW HT_.out HW_.out (by kernel_rfl)) (fun _ _ _ h => h) (Or.inl ⟨by rfl, ?_⟩) hHeld ?_ ?_;rotate_left;(rintro w' ⟨s0, s1, s2, s3, s4, s5, s6, s7, s8, s9, s10, s11, s12, s13, s14⟩;go_simp;with_reducible rfl);rotate_left;(simp only [Act.put, sA, sZ, sS, i64_w, i32_w];rfl)
          refine pure_ (i := 10) (N := some 21) (v := ?_) (a' := ?_) #[T', T', T', T', T', T', T', T', T', T', T', F', F', F', F', F', F', F', F', F', F'] rfl rfl (any_of HT_.out (by kernel_rfl)) (fun _ _ _ h => h) (Or.inl ⟨by rfl, ?_⟩) ?_ ?_;rotate_left;(intro w';go_simp;with_reducible rfl);rotate_left;(simp only [Act.put, sA, sZ, sS, i64_w, i32_w];rfl)
          refine pure_ (i := 11) (N := some 22) (v := ?_) (a' := ?_) #[T', T', T', T', T', T', T', T', T', T', T', T', F', F', F', F', F', F', F', F', F'] rfl rfl (any_of HT_.out (by kernel_rfl)) (fun _ _ _ h => h) (Or.inl ⟨by rfl, ?_⟩) ?_ ?_;rotate_left;(intro w';go_simp;with_reducible rfl);rotate_left;(simp only [Act.put, sA, sZ, sS, i64_w, i32_w];rfl)
          refine pure_ (i := 12) (N := some 23) (v := ?_) (a' := ?_) #[T', T', T', T', T', T', T', T', T', T', T', T', T', F', F', F', F', F', F', F', F'] rfl rfl (any_of HT_.out (by kernel_rfl)) (fun _ _ _ h => h) (Or.inl ⟨by rfl, ?_⟩) ?_ ?_;rotate_left;(intro w';go_simp;with_reducible rfl);rotate_left;(simp only [Act.put, sA, sZ, sS, i64_w, i32_w];rfl)
          refine pure_ (i := 13) (N := some 24) (v := ?_) (a' := ?_) #[T', T', T', T', T', T', T', T', T', T', T', T', T', T', F', F', F', F', F', F', F'] rfl rfl (any_of HT_.out (by kernel_rfl)) (fun _ _ _ h => h) (Or.inl ⟨by rfl, ?_⟩) ?_ ?_;rotate_left;(intro w';go_simp;with_reducible rfl);rotate_left;(simp only [Act.put, sA, sZ, sS, i64_w, i32_w];rfl)
          refine pure_ (i := 15) (N := some 26) (v := ?_) (a' := ?_) #[T', T', T', T', T', T', T', T', T', T', T', T', T', T', F', T', F', F', F', F', F'] rfl rfl (any_of HT_.out (by kernel_rfl)) (fun _ _ _ h => h) (Or.inl ⟨by rfl, ?_⟩) ?_ ?_;rotate_left;(intro w';go_simp;with_reducible rfl);rotate_left;(simp only [Act.put, sA, sZ, sS, i64_w, i32_w];rfl)
          refine pure_ (i := 16) (N := some 27) (v := ?_) (a' := ?_) #[T', T', T', T', T', T', T', T', T', T', T', T', T', T', F', T', T', F', F', F', F'] rfl rfl (any_of HT_.out (by kernel_rfl)) (fun _ _ _ h => h) (Or.inl ⟨by rfl, ?_⟩) ?_ ?_;rotate_left;(intro w';go_simp;with_reducible rfl);rotate_left;(simp only [Act.put, sA, sZ, sS, i64_w, i32_w];rfl)
          refine pure_ (i := 17) (N := some 28) (v := ?_) (a' := ?_) #[T', T', T', T', T', T', T', T', T', T', T', T', T', T', F', T', T', T', F', F', F'] rfl rfl (any_of HT_.out (by kernel_rfl)) (fun _ _ _ h => h) (Or.inl ⟨by rfl, ?_⟩) ?_ ?_;rotate_left;(intro w';go_simp;with_reducible rfl);rotate_left;(simp only [Act.put, sA, sZ, sS, i64_w, i32_w];rfl)
          refine take_ (i := 14) (N := some 25) (v := ?_) (a' := ?_) #[T', T', T', T', T', T', T', T', T', T', T', T', T', T', T', T', T', T', F', F', F'] rfl rfl (take_ofW HT_.out HW_.out (by kernel_rfl)) (fun _ _ _ h => h) (Or.inl ⟨by rfl, ?_⟩) hHeld ?_ ?_;rotate_left;(rintro w' ⟨s0, s1, s2, s3, s4, s5, s6, s7, s8, s9, s10, s11, s12, s13, s14⟩;go_simp;with_reducible rfl);rotate_left;(simp only [Act.put, sA, sZ, sS, i64_w, i32_w];rfl)
          refine take_ (i := 18) (N := some 29) (v := ?_) (a' := ?_) #[T', T', T', T', T', T', T', T', T', T', T', T', T', T', T', T', T', T', T', F', F'] rfl rfl (take_ofW HT_.out HW_.out (by kernel_rfl)) (fun _ _ _ h => h) (Or.inl ⟨by rfl, ?_⟩) hHeld ?_ ?_;rotate_left;(rintro w' ⟨s0, s1, s2, s3, s4, s5, s6, s7, s8, s9, s10, s11, s12, s13, s14⟩;go_simp;with_reducible rfl);rotate_left;(simp only [Act.put, sA, sZ, sS, i64_w, i32_w];rfl)
          refine pure_ (i := 19) (N := some 30) (v := ?_) (a' := ?_) #[T', T', T', T', T', T', T', T', T', T', T', T', T', T', T', T', T', T', T', T', F'] rfl rfl (any_of HT_.out (by kernel_rfl)) (fun _ _ _ h => h) (Or.inl ⟨by rfl, ?_⟩) ?_ ?_;rotate_left;(intro w';go_simp;with_reducible rfl);rotate_left;(simp only [Act.put, sA, sZ, sS, i64_w, i32_w];rfl)
          refine pure_ (i := 20) (N := some 31) (v := ?_) (a' := ?_) #[T', T', T', T', T', T', T', T', T', T', T', T', T', T', T', T', T', T', T', T', T'] rfl rfl (any_of HT_.out (by kernel_rfl)) (fun _ _ _ h => h) (Or.inl ⟨by rfl, ?_⟩) ?_ ?_;rotate_left;(intro w';go_simp;with_reducible rfl);rotate_left;(simp only [Act.put, sA, sZ, sS, i64_w, i32_w];rfl)
          refine done_ (done_of HT_.out (by kernel_rfl)) ?_
          try go_wp2
          go_ret
          exact ⟨by first | rfl | (simp [errW_none, errW_some] <;> rfl) | (simp [*, errW_none, errW_some] <;> rfl), by repeat (first | (with_reducible first | exact HB.out | apply zA | apply zN | apply zD | refine zP ?_ GE393.out) | exact HB.out)⟩
        ·rw [if_neg c8] at H
         have c8b0 : (((rd_T52 l0 x7_1).f0) == ((rd_T52 l0 0).f0)) = false := beq_eq_false_iff_ne.mpr c8
         have c8b1 : (((rd_T52 l0 x7_1).f0) != ((rd_T52 l0 0).f0)) = true := bne_iff_ne.mpr c8
         obtain rfl := Option.some.inj H
         have p392 : 0 ≤ (x7_1 : Int) := of_decide_eq_true (by first | (with_reducible assumption) | assumption)
         have q392 : x7_1 < (l0.length : Int) := of_decide_eq_true (by first | (with_reducible assumption) | assumption)
         obtain ⟨ad392, A392_2, c392_2, A392_3, c392_3, A392_4, c392_4, e392, hx392_0, hx392_1, hx392_2, hx392_3, hx392_4, hl392_2, hi392_2, hl392_3, hi392_3, hl392_4, hi392_4⟩ := at_T52 HR0.out x7_1 p392 q392
         cases e392
         replace hx392_0 := (HB.out.cell (World.block_lt_of_cell? w _ hx392_0)).trans hx392_0
         replace hx392_1 := (HB.out.cell (World.block_lt_of_cell? w _ hx392_1)).trans hx392_1
         replace hx392_2 := (HB.out.cell (World.block_lt_of_cell? w _ hx392_2)).trans hx392_2
         replace hx392_3 := (HB.out.cell (World.block_lt_of_cell? w _ hx392_3)).trans hx392_3
         replace hx392_4 := (HB.out.cell (World.block_lt_of_cell? w _ hx392_4)).trans hx392_4
         have HR392_2 := Aside0.mk hi392_2
         have HC392_2 := Aside0.mk hl392_2
         clear hi392_2 hl392_2
         have HR392_3 := Aside0.mk hi392_3
         have HC392_3 := Aside0.mk hl392_3
         clear hi392_3 hl392_3
         have HR392_4 := Aside0.mk hi392_4
         have HC392_4 := Aside0.mk hl392_4
         clear hi392_4 hl392_4
         replace p392 := eq_true p392
         replace q392 := eq_true q392
         try go_wp2_with (first | ((with_reducible refine xD (N := 4) rfl ?_); refine box_event ?hg (N := 4) ?hd (cs := #[.int .i64 0, .int .i64 0, .slice none 0 0, .slice none 0 0, .slice none 0 0]) (t := 52) ?hr ?_; (case hd => rfl); (case hg => rfl); (case hr => first | (go_simp; done) | (go_simp; rfl)); intro gb393 hg w20 hbox hb; have n0_ := Aside0.mk (zT (by repeat (first | (with_reducible first | exact HB.out | apply zA | apply zN | apply zD) | exact HB.out)) hb); have n1_ := Aside0.mk (hbox); have n2_ := Aside0.mk ((by rw [hg]; exact (zS (by repeat (first | (with_reducible first | exact HB.out | apply zA | apply zN | apply zD) | exact HB.out))) : w.heap.size ≤ gb393)); have n3_ := n2_; clear HB; have HB := n0_; have BK393 := n1_; have GW393 := n2_; have GE393 := n3_; clear n0_ n1_ n2_ n3_; clear hb hbox hg; have hcz21_0 : w20.cell? ⟨gb393, 0, none⟩ = some (.int .i64 0) := (blk_cell BK393.out 0).trans rfl; have hcz21_1 : w20.cell? ⟨gb393, 1, none⟩ = some (.int .i64 0) := (blk_cell BK393.out 1).trans rfl; have hcz21_2 : w20.cell? ⟨gb393, 2, none⟩ = some (.slice none 0 0) := (blk_cell BK393.out 2).trans rfl; have hcz21_3 : w20.cell? ⟨gb393, 3, none⟩ = some (.slice none 0 0) := (blk_cell BK393.out 3).trans rfl; have hcz21_4 : w20.cell? ⟨gb393, 4, none⟩ = some (.slice none 0 0) := (blk_cell BK393.out 4).trans rfl; have hfz21_0 := blk_frozen BK393.out 0; have hfz21_1 := blk_frozen BK393.out 1; have hfz21_2 := blk_frozen BK393.out 2; have hfz21_3 := blk_frozen BK393.out 3; have hfz21_4 := blk_frozen BK393.out 4))
         have n0_ : Aside0 ((((((w20.setCell ⟨gb393, 0, none⟩ (.int .i64 ((rd_T52 l0 x7_1).f0))).setCell ⟨gb393, 1, none⟩ (.int .i64 ((rd_T52 l0 x7_1).f1))).setCell ⟨gb393, 2, none⟩ (.slice A392_2 ((rd_T52 l0 x7_1).f2).length c392_2)).setCell ⟨gb393, 3, none⟩ (.slice A392_3 ((rd_T52 l0 x7_1).f3).length c392_3)).setCell ⟨gb393, 4, none⟩ (.slice A392_4 ((rd_T52 l0 x7_1).f4).length c392_4)).heap[gb393]? = some (.cells #[.int .i64 ((rd_T52 l0 x7_1).f0), .int .i64 ((rd_T52 l0 x7_1).f1), .slice A392_2 ((rd_T52 l0 x7_1).f2).length c392_2, .slice A392_3 ((rd_T52 l0 x7_1).f3).length c392_3, .slice A392_4 ((rd_T52 l0 x7_1).f4).length c392_4] 52 (0, 0))) := ⟨by (with_reducible repeat (first | refine yN ?_ _ | refine yD ?_ | refine yA ?_ _)); refine blk_put (cs := #[.int .i64 ((rd_T52 l0 x7_1).f0), .int .i64 ((rd_T52 l0 x7_1).f1), .slice A392_2 ((rd_T52 l0 x7_1).f2).length c392_2, .slice A392_3 ((rd_T52 l0 x7_1).f3).length c392_3, .slice none 0 0]) ?_ 4 _ rfl; (with_reducible repeat (first | refine yN ?_ _ | refine yD ?_ | refine yA ?_ _)); refine blk_put (cs := #[.int .i64 ((rd_T52 l0 x7_1).f0), .int .i64 ((rd_T52 l0 x7_1).f1), .slice A392_2 ((rd_T52 l0 x7_1).f2).length c392_2, .slice none 0 0, .slice none 0 0]) ?_ 3 _ rfl; (with_reducible repeat (first | refine yN ?_ _ | refine yD ?_ | refine yA ?_ _)); refine blk_put (cs := #[.int .i64 ((rd_T52 l0 x7_1).f0), .int .i64 ((rd_T52 l0 x7_1).f1), .slice none 0 0, .slice none 0 0, .slice none 0 0]) ?_ 2 _ rfl; (with_reducible repeat (first | refine yN ?_ _ | refine yD ?_ | refine yA ?_ _)); refine blk_put (cs := #[.int .i64 ((rd_T52 l0 x7_1).f0), .int .i64 0, .slice none 0 0, .slice none 0 0, .slice none 0 0]) ?_ 1 _ rfl; (with_reducible repeat (first | refine yN ?_ _ | refine yD ?_ | refine yA ?_ _)); refine blk_put (cs := #[.int .i64 0, .int .i64 0, .slice none 0 0, .slice none 0 0, .slice none 0 0]) ?_ 0 _ rfl; (with_reducible repeat (first | refine yN ?_ _ | refine yD ?_ | refine yA ?_ _)); exact BK393.out⟩
         have n1_ : Aside0 (Below w.heap.size w (((((w20.setCell ⟨gb393, 0, none⟩ (.int .i64 ((rd_T52 l0 x7_1).f0))).setCell ⟨gb393, 1, none⟩ (.int .i64 ((rd_T52 l0 x7_1).f1))).setCell ⟨gb393, 2, none⟩ (.slice A392_2 ((rd_T52 l0 x7_1).f2).length c392_2)).setCell ⟨gb393, 3, none⟩ (.slice A392_3 ((rd_T52 l0 x7_1).f3).length c392_3)).setCell ⟨gb393, 4, none⟩ (.slice A392_4 ((rd_T52 l0 x7_1).f4).length c392_4))) := ⟨by repeat (first | (with_reducible first | exact HB.out | apply zA | apply zN | apply zD | refine zP ?_ GE393.out) | exact HB.out)⟩
         (try clear BK393)
         (try clear HB)
         generalize (((((w20.setCell ⟨gb393, 0, none⟩ (.int .i64 ((rd_T52 l0 x7_1).f0))).setCell ⟨gb393, 1, none⟩ (.int .i64 ((rd_T52 l0 x7_1).f1))).setCell ⟨gb393, 2, none⟩ (.slice A392_2 ((rd_T52 l0 x7_1).f2).length c392_2)).setCell ⟨gb393, 3, none⟩ (.slice A392_3 ((rd_T52 l0 x7_1).f3).length c392_3)).setCell ⟨gb393, 4, none⟩ (.slice A392_4 ((rd_T52 l0 x7_1).f4).length c392_4)) = w22 at n0_ n1_ ⊢
         have BK393 := n0_
         have HB := n1_
         clear n0_ n1_
         have n0_ := Aside0.mk (yD BK393.out)
         have n1_ := Aside0.mk (zD HB.out)
         clear BK393
         clear HB
         have BK393 := n0_
         have HB := n1_
         clear n0_ n1_
         have p395 : 0 ≤ (0 : Int) := (by omega)
         have q395 : 0 < (l0.length : Int) := of_decide_eq_true (by first | (with_reducible assumption) | assumption)
         obtain ⟨ad395, A395_2, c395_2, A395_3, c395_3, A395_4, c395_4, e395, hx395_0, hx395_1, hx395_2, hx395_3, hx395_4, hl395_2, hi395_2, hl395_3, hi395_3, hl395_4, hi395_4⟩ := at_T52 HR0.out 0 p395 q395
         have hw395_4 := hx395_4
         (try rw [show ((0 : Int)).toNat = 0 from rfl] at hw395_4)
         (try rw [show 0 * 5 = 0 from rfl] at hw395_4)
         (try rw [Addr.add_zero'] at hw395_4)
         have hw395_3 := hx395_3
         (try rw [show ((0 : Int)).toNat = 0 from rfl] at hw395_3)
         (try rw [show 0 * 5 = 0 from rfl] at hw395_3)
         (try rw [Addr.add_zero'] at hw395_3)
         have hw395_2 := hx395_2
         (try rw [show ((0 : Int)).toNat = 0 from rfl] at hw395_2)
         (try rw [show 0 * 5 = 0 from rfl] at hw395_2)
         (try rw [Addr.add_zero'] at hw395_2)
         have hw395_1 := hx395_1
         (try rw [show ((0 : Int)).toNat = 0 from rfl] at hw395_1)
         (try rw [show 0 * 5 = 0 from rfl] at hw395_1)
         (try rw [Addr.add_zero'] at hw395_1)
         have hw395_0 := hx395_0
         (try rw [show ((0 : Int)).toNat = 0 from rfl] at hw395_0)
         (try rw [show 0 * 5 = 0 from rfl] at hw395_0)
         (try rw [Addr.add_zero'] at hw395_0)
         obtain rfl : ad392 = ad395 := (by injection e395)
         have qi395 : (0 < l0.length) = True := eq_true (by omega)
         (try rw [show ((0 : Int)).toNat = 0 from rfl] at hx395_0)
         (try rw [show 0 * 5 = 0 from rfl] at hx395_0)
         (try rw [Addr.add_zero'] at hx395_0)
         (try rw [show ((0 : Int)).toNat = 0 from rfl] at hx395_1)
         (try rw [show 0 * 5 = 0 from rfl] at hx395_1)
         (try rw [Addr.add_zero'] at hx395_1)
         (try rw [show ((0 : Int)).toNat = 0 from rfl] at hx395_2)
         (try rw [show 0 * 5 = 0 from rfl] at hx395_2)
         (try rw [Addr.add_zero'] at hx395_2)
         (try rw [show ((0 : Int)).toNat = 0 from rfl] at hx395_3)
         (try rw [show 0 * 5 = 0 from rfl] at hx395_3)
         (try rw [Addr.add_zero'] at hx395_3)
         (try rw [show ((0 : Int)).toNat = 0 from rfl] at hx395_4)
         (try rw [show 0 * 5 = 0 from rfl] at hx395_4)
         (try rw [Addr.add_zero'] at hx395_4)
         replace hx395_0 := (HB.out.cell (World.block_lt_of_cell? w _ hx395_0)).trans hx395_0
         replace hx395_1 := (HB.out.cell (World.block_lt_of_cell? w _ hx395_1)).trans hx395_1
         replace hx395_2 := (HB.out.cell (World.block_lt_of_cell? w _ hx395_2)).trans hx395_2
         replace hx395_3 := (HB.out.cell (World.block_lt_of_cell? w _ hx395_3)).trans hx395_3
         replace hx395_4 := (HB.out.cell (World.block_lt_of_cell? w _ hx395_4)).trans hx395_4
         have HR395_2 := Aside0.mk hi395_2
         have HC395_2 := Aside0.mk hl395_2
         clear hi395_2 hl395_2
         have HR395_3 := Aside0.mk hi395_3
         have HC395_3 := Aside0.mk hl395_3
         clear hi395_3 hl395_3
         have HR395_4 := Aside0.mk hi395_4
         have HC395_4 := Aside0.mk hl395_4
         clear hi395_4 hl395_4
         replace p395 := eq_true p395
         replace q395 := eq_true q395
         refine start_ (n := 21) (S := fun w' => w'.cell? ⟨gb393, 0, none⟩ = some (.int .i64 ((rd_T52 l0 x7_1).f0)) ∧ w'.cell? ⟨gb393, 1, none⟩ = some (.int .i64 ((rd_T52 l0 x7_1).f1)) ∧ w'.cell? ⟨gb393, 2, none⟩ = some (.slice A392_2 ((rd_T52 l0 x7_1).f2).length c392_2) ∧ w'.cell? ⟨gb393, 3, none⟩ = some (.slice A392_3 ((rd_T52 l0 x7_1).f3).length c392_3) ∧ w'.cell? ⟨gb393, 4, none⟩ = some (.slice A392_4 ((rd_T52 l0 x7_1).f4).length c392_4) ∧ w'.cell? ad392 = some (.int .i64 ((rd_T52 l0 0).f0)) ∧ w'.cell? ⟨ad392.block, ad392.off + 1, none⟩ = some (.int .i64 ((rd_T52 l0 0).f1)) ∧ w'.cell? ⟨ad392.block, ad392.off + 2, none⟩ = some (.slice A395_2 ((rd_T52 l0 0).f2).length c395_2) ∧ w'.cell? ⟨ad392.block, ad392.off + 3, none⟩ = some (.slice A395_3 ((rd_T52 l0 0).f3).length c395_3) ∧ w'.cell? ⟨ad392.block, ad392.off + 4, none⟩ = some (.slice A395_4 ((rd_T52 l0 0).f4).length c395_4)) (ds := []) #[false, false, false, false, false, false, false, false, false, false, false, false, false, false, false, false, false, false, false, false, false] (by kernel_rfl) rfl rfl ⟨(blk_cell BK393.out 0).trans rfl, (blk_cell BK393.out 1).trans rfl, (blk_cell BK393.out 2).trans rfl, (blk_cell BK393.out 3).trans rfl, (blk_cell BK393.out 4).trans rfl, ((HB.out.cell (World.block_lt_of_cell? w _ hw395_0)).trans hw395_0), ((HB.out.cell (World.block_lt_of_cell? w _ hw395_1)).trans hw395_1), ((HB.out.cell (World.block_lt_of_cell? w _ hw395_2)).trans hw395_2), ((HB.out.cell (World.block_lt_of_cell? w _ hw395_3)).trans hw395_3), ((HB.out.cell (World.block_lt_of_cell? w _ hw395_4)).trans hw395_4)⟩ (fun hHeld => ?_); refine with_tabW cadence_alike.tab4 cadence_alike.bits4 (fun HT_ HW_ => ?_)
         generalize w22.drew = w23 at BK393 HB HR395_2 HR395_3 HR395_4 hx395_0 hx395_1 hx395_2 hx395_3 hx395_4 hHeld ⊢
         refine take_ (i := 0) (N := some 11) (v := ?_) (a' := ?_) #[T', F', F', F', F', F', F', F', F', F', F', F', F', F', F', F', F', F', F', F', F'] rfl rfl (take_ofW HT_.out HW_.out (by kernel_rfl)) (fun _ _ _ h => h) (Or.inl ⟨by rfl, ?_⟩) hHeld ?_ ?_;rotate_left;(rintro w' ⟨s0, s1, s2, s3, s4, s5, s6, s7, s8, s9⟩;go_simp;with_reducible rfl);rotate_left;(simp only [Act.put, sA, sZ, sS, i64_w, i32_w];rfl)
         refine one_ (i := 1) (N := some 12) #[T', T', F', F', F', F', F', F', F', F', F', F', F', F', F', F', F', F', F', F', F'] rfl rfl (one_of HT_.out (by kernel_rfl)) (by decide) (fun K hK => ?_)
         refine goes_ Try.func71 (by kernel_rfl) rfl #[.agg #[.int .i64 ((rd_T52 l0 x7_1).f0), .int .i64 ((rd_T52 l0 x7_1).f1), .slice A392_2 ((rd_T52 l0 x7_1).f2).length c392_2, .slice A392_3 ((rd_T52 l0 x7_1).f3).length c392_3, .slice A392_4 ((rd_T52 l0 x7_1).f4).length c392_4]] (by rfl) rfl rfl (by (try simp only [List.map_toArray, List.map_cons, List.map_nil]); first | done | rfl | (simp only [List.length_drop, List.length_take]; rfl)) ?_
         with_reducible refine (cadence_valid.calls ((rd_T52 l0 x7_1).f0) ((rd_T52 l0 x7_1).f1) _ _ ((rd_T52 l0 x7_1).f2) _ _ ((rd_T52 l0 x7_1).f3) _ _ ((rd_T52 l0 x7_1).f4) true _ ?side1 ?side2 ?side3 ?side4 ?side5 ?side6 A5.out).mono ?_
         (case side1 => repeat (first | exact (Kd.C_below HR392_2.out HB.out) | (with_reducible refine Kd.C_alloc ?_ _) | (with_reducible refine Kd.C_drewN ?_ _) | (with_reducible refine Kd.C_drew ?_)))
         (case side2 => exact HC392_2.out)
         (case side3 => repeat (first | exact (Kd.C_below HR392_3.out HB.out) | (with_reducible refine Kd.C_alloc ?_ _) | (with_reducible refine Kd.C_drewN ?_ _) | (with_reducible refine Kd.C_drew ?_)))
         (case side4 => exact HC392_3.out)
         (case side5 => repeat (first | exact (Kd.C_below HR392_4.out HB.out) | (with_reducible refine Kd.C_alloc ?_ _) | (with_reducible refine Kd.C_drewN ?_ _) | (with_reducible refine Kd.C_drew ?_)))
         (case side6 => exact HC392_4.out)
         rintro e w24 ⟨rfl, hb⟩
         refine ⟨_, rfl, ?_⟩
         have n0_ := Aside0.mk (yB (g := gb393) (o := .cells #[.int .i64 ((rd_T52 l0 x7_1).f0), .int .i64 ((rd_T52 l0 x7_1).f1), .slice A392_2 ((rd_T52 l0 x7_1).f2).length c392_2, .slice A392_3 ((rd_T52 l0 x7_1).f3).length c392_3, .slice A392_4 ((rd_T52 l0 x7_1).f4).length c392_4] 52 (0, 0)) (by (with_reducible repeat (first | refine yN ?_ _ | refine yD ?_ | refine yA ?_ _)); exact BK393.out) hb)
         have n1_ := Aside0.mk (zT (by repeat (first | (with_reducible first | exact HB.out | apply zA | apply zN | apply zD | refine zP ?_ GE393.out) | exact HB.out)) hb)
         clear BK393
         clear HB
         have BK393 := n0_
         have HB := n1_
         clear n0_ n1_
         (try clear hb)
         (try clear hb2)
         (try clear hk)
         (try clear hi)
         refine hK.out _ _ ⟨(blk_cell BK393.out 0).trans rfl, (blk_cell BK393.out 1).trans rfl, (blk_cell BK393.out 2).trans rfl, (blk_cell BK393.out 3).trans rfl, (blk_cell BK393.out 4).trans rfl, ((HB.out.cell (World.block_lt_of_cell? w _ hw395_0)).trans hw395_0), ((HB.out.cell (World.block_lt_of_cell? w _ hw395_1)).trans hw395_1), ((HB.out.cell (World.block_lt_of_cell? w _ hw395_2)).trans hw395_2), ((HB.out.cell (World.block_lt_of_cell? w _ hw395_3)).trans hw395_3), ((HB.out.cell (World.block_lt_of_cell? w _ hw395_4)).trans hw395_4)⟩ (fun hHeld => ?_)
         clear hK K
         refine norm_ (a' := ?_) ?_ ?_
         rotate_left
         ·show Act.put _ (some 12) _ = _
          simp only [Act.put, sA, sZ, sS, i64_w, i32_w]
          rfl
         refine pure_ (i := 2) (N := some 13) (v := ?_) (a' := ?_) #[T', T', T', F', F', F', F', F', F', F', F', F', F', F', F', F', F', F', F', F', F'] rfl rfl (any_of HT_.out (by kernel_rfl)) (fun _ _ _ h => h) (Or.inl ⟨by rfl, ?_⟩) ?_ ?_;rotate_left;(intro w';go_simp;with_reducible rfl);rotate_left;(simp only [Act.put, sA, sZ, sS, i64_w, i32_w];rfl)
         refine pure_ (i := 3) (N := some 14) (v := ?_) (a' := ?_) #[T', T', T', T', F', F', F', F', F', F', F', F', F', F', F', F', F', F', F', F', F'] rfl rfl (any_of HT_.out (by kernel_rfl)) (fun _ _ _ h => h) (Or.inl ⟨by rfl, ?_⟩) ?_ ?_;rotate_left;(intro w';go_simp;with_reducible rfl);rotate_left;(simp only [Act.put, sA, sZ, sS, i64_w, i32_w];rfl)
         refine pure_ (i := 4) (N := some 15) (v := ?_) (a' := ?_) #[T', T', T', T', T', F', F', F', F', F', F', F', F', F', F', F', F', F', F', F', F'] rfl rfl (any_of HT_.out (by kernel_rfl)) (fun _ _ _ h => h) (Or.inl ⟨by rfl, ?_⟩) ?_ ?_;rotate_left;(intro w';go_simp;with_reducible rfl);rotate_left;(simp only [Act.put, sA, sZ, sS, i64_w, i32_w];rfl)
         refine pure_ (i := 6) (N := some 17) (v := ?_) (a' := ?_) #[T', T', T', T', T', F', T', F', F', F', F', F', F', F', F', F', F', F', F', F', F'] rfl rfl (any_of HT_.out (by kernel_rfl)) (fun _ _ _ h => h) (Or.inl ⟨by rfl, ?_⟩) ?_ ?_;rotate_left;(intro w';go_simp;with_reducible rfl);rotate_left;(simp only [Act.put, sA, sZ, sS, i64_w, i32_w];rfl)
         refine pure_ (i := 7) (N := some 18) (v := ?_) (a' := ?_) #[T', T', T', T', T', F', T', T', F', F', F', F', F', F', F', F', F', F', F', F', F'] rfl rfl (any_of HT_.out (by kernel_rfl)) (fun _ _ _ h => h) (Or.inl ⟨by rfl, ?_⟩) ?_ ?_;rotate_left;(intro w';go_simp;with_reducible rfl);rotate_left;(simp only [Act.put, sA, sZ, sS, i64_w, i32_w];rfl)
         refine pure_ (i := 8) (N := some 19) (v := ?_) (a' := ?_) #[T', T', T', T', T', F', T', T', T', F', F', F', F', F', F', F', F', F', F', F', F'] rfl rfl (any_of HT_.out (by kernel_rfl)) (fun _ _ _ h => h) (Or.inl ⟨by rfl, ?_⟩) ?_ ?_;rotate_left;(intro w';go_simp;with_reducible rfl);rotate_left;(simp only [Act.put, sA, sZ, sS, i64_w, i32_w];rfl)
         refine take_ (i := 5) (N := some 16) (v := ?_) (a' := ?_) #[T', T', T', T', T', T', T', T', T', F', F', F', F', F', F', F', F', F', F', F', F'] rfl rfl (take_ofW HT_.out HW_.out (by kernel_rfl)) (fun _ _ _ h => h) (Or.inl ⟨by rfl, ?_⟩) hHeld ?_ ?_;rotate_left;(rintro w' ⟨s0, s1, s2, s3, s4, s5, s6, s7, s8, s9⟩;go_simp;with_reducible rfl);rotate_left;(simp only [Act.put, sA, sZ, sS, i64_w, i32_w];rfl)
         refine take_ (i := 9) (N := some 20) (v := ?_) (a' := ?_) #[T', T', T', T', T', T', T', T', T', T', F', F', F', F', F', F', F', F', F', F', F'] rfl rfl (take_ofW HT_.out HW_.out (by kernel_rfl)) (fun _ _ _ h => h) (Or.inl ⟨by rfl, ?_⟩) hHeld ?_ ?_;rotate_left;(rintro w' ⟨s0, s1, s2, s3, s4, s5, s6, s7, s8, s9⟩;go_simp;with_reducible rfl);rotate_left;(simp only [Act.put, sA, sZ, sS, i64_w, i32_w];rfl)
         refine pure_ (i := 10) (N := some 21) (v := ?_) (a' := ?_) #[T', T', T', T', T', T', T', T', T', T', T', F', F', F', F', F', F', F', F', F', F'] rfl rfl (any_of HT_.out (by kernel_rfl)) (fun _ _ _ h => h) (Or.inl ⟨by rfl, ?_⟩) ?_ ?_;rotate_left;(intro w';go_simp;with_reducible rfl);rotate_left;(simp only [Act.put, sA, sZ, sS, i64_w, i32_w];rfl)
         refine pure_ (i := 11) (N := some 22) (v := ?_) (a' := ?_) #[T', T', T', T', T', T', T', T', T', T', T', T', F', F', F', F', F', F', F', F', F'] rfl rfl (any_of HT_.out (by kernel_rfl)) (fun _ _ _ h => h) (Or.inl ⟨by rfl, ?_⟩) ?_ ?_;rotate_left;(intro w';go_simp;with_reducible rfl);rotate_left;(simp only [Act.put, sA, sZ, sS, i64_w, i32_w];rfl)
         refine pure_ (i := 12) (N := some 23) (v := ?_) (a' := ?_) #[T', T', T', T', T', T', T', T', T', T', T', T', T', F', F', F', F', F', F', F', F'] rfl rfl (any_of HT_.out (by kernel_rfl)) (fun _ _ _ h => h) (Or.inl ⟨by rfl, ?_⟩) ?_ ?_;rotate_left;(intro w';go_simp;with_reducible rfl);rotate_left;(simp only [Act.put, sA, sZ, sS, i64_w, i32_w];rfl)
         refine pure_ (i := 13) (N := some 24) (v := undef) (a' := ?_) #[T', T', T', T', T', T', T', T', T', T', T', T', T', T', F', F', F', F', F', F', F'] rfl rfl (any_of HT_.out (by kernel_rfl)) (fun _ _ _ h => h) (Or.inr ⟨by rfl, rfl⟩) ?_ ?_
         rotate_left
         ·simp only [Act.put, sA, sZ, sS, i64_w, i32_w]
          rfl
         refine pure_ (i := 14) (N := some 25) (v := undef) (a' := ?_) #[T', T', T', T', T', T', T', T', T', T', T', T', T', T', T', F', F', F', F', F', F'] rfl rfl (any_of HT_.out (by kernel_rfl)) (fun _ _ _ h => h) (Or.inr ⟨by rfl, rfl⟩) ?_ ?_
         rotate_left
         ·simp only [Act.put, sA, sZ, sS, i64_w, i32_w]
          rfl
         refine pure_ (i := 15) (N := some 26) (v := undef) (a' := ?_) #[T', T', T', T', T', T', T', T', T', T', T', T', T', T', T', T', F', F', F', F', F'] rfl rfl (any_of HT_.out (by kernel_rfl)) (fun _ _ _ h => h) (Or.inr ⟨by rfl, rfl⟩) ?_ ?_
         rotate_left
         ·simp only [Act.put, sA, sZ, sS, i64_w, i32_w]
          rfl
         refine pure_ (i := 16) (N := some 27) (v := undef) (a' := ?_) #[T', T', T', T', T', T', T', T', T', T', T', T', T', T', T', T', T', F', F', F', F'] rfl rfl (any_of HT_.out (by kernel_rfl)) (fun _ _ _ h => h) (Or.inr ⟨by rfl, rfl⟩) ?_ ?_
         rotate_left
         ·simp only [Act.put, sA, sZ, sS, i64_w, i32_w]
          rfl
         refine pure_ (i := 17) (N := some 28) (v := undef) (a' := ?_) #[T', T', T', T', T', T', T', T', T', T', T', T', T', T', T', T', T', T', F', F', F'] rfl rfl (any_of HT_.out (by kernel_rfl)) (fun _ _ _ h => h) (Or.inr ⟨by rfl, rfl⟩) ?_ ?_
         rotate_left
         ·simp only [Act.put, sA, sZ, sS, i64_w, i32_w]
          rfl
         refine pure_ (i := 18) (N := some 29) (v := undef) (a' := ?_) #[T', T', T', T', T', T', T', T', T', T', T', T', T', T', T', T', T', T', T', F', F'] rfl rfl (any_of HT_.out (by kernel_rfl)) (fun _ _ _ h => h) (Or.inr ⟨by rfl, rfl⟩) ?_ ?_
         rotate_left
         ·simp only [Act.put, sA, sZ, sS, i64_w, i32_w]
          rfl
         refine pure_ (i := 19) (N := some 30) (v := undef) (a' := ?_) #[T', T', T', T', T', T', T', T', T', T', T', T', T', T', T', T', T', T', T', T', F'] rfl rfl (any_of HT_.out (by kernel_rfl)) (fun _ _ _ h => h) (Or.inr ⟨by rfl, rfl⟩) ?_ ?_
         rotate_left
         ·simp only [Act.put, sA, sZ, sS, i64_w, i32_w]
          rfl
         refine pure_ (i := 20) (N := some 31) (v := ?_) (a' := ?_) #[T', T', T', T', T', T', T', T', T', T', T', T', T', T', T', T', T', T', T', T', T'] rfl rfl (any_of HT_.out (by kernel_rfl)) (fun _ _ _ h => h) (Or.inl ⟨by rfl, ?_⟩) ?_ ?_;rotate_left;(intro w';go_simp;with_reducible rfl);rotate_left;(simp only [Act.put, sA, sZ, sS, i64_w, i32_w];rfl)
         refine done_ (done_of HT_.out (by kernel_rfl)) ?_
         try go_wp2
         go_ret
         exact ⟨by first | rfl | (simp [errW_none, errW_some] <;> rfl) | (simp [*, errW_none, errW_some] <;> rfl), by repeat (first | (with_reducible first | exact HB.out | apply zA | apply zN | apply zD | refine zP ?_ GE393.out) | exact HB.out)⟩
       ·rw [if_neg c7] at H
        exact absurd H (by simp)
      ·replace c6 := Bool.eq_false_iff.mpr c6
       subst c6
       have H1 : (some false) = some r := by rw [if_neg (show ¬ (false = true) by decide)] at H; exact H
       clear H
       have H := H1
       clear H1
       obtain rfl := Option.some.inj H
       have p392 : 0 ≤ (x7_1 : Int) := of_decide_eq_true (by first | (with_reducible assumption) | assumption)
       have q392 : x7_1 < (l0.length : Int) := of_decide_eq_true (by first | (with_reducible assumption) | assumption)
       obtain ⟨ad392, A392_2, c392_2, A392_3, c392_3, A392_4, c392_4, e392, hx392_0, hx392_1, hx392_2, hx392_3, hx392_4, hl392_2, hi392_2, hl392_3, hi392_3, hl392_4, hi392_4⟩ := at_T52 HR0.out x7_1 p392 q392
       cases e392
       replace hx392_0 := (HB.out.cell (World.block_lt_of_cell? w _ hx392_0)).trans hx392_0
       replace hx392_1 := (HB.out.cell (World.block_lt_of_cell? w _ hx392_1)).trans hx392_1
       replace hx392_2 := (HB.out.cell (World.block_lt_of_cell? w _ hx392_2)).trans hx392_2
       replace hx392_3 := (HB.out.cell (World.block_lt_of_cell? w _ hx392_3)).trans hx392_3
       replace hx392_4 := (HB.out.cell (World.block_lt_of_cell? w _ hx392_4)).trans hx392_4
       have HR392_2 := Aside0.mk hi392_2
       have HC392_2 := Aside0.mk hl392_2
       clear hi392_2 hl392_2
       have HR392_3 := Aside0.mk hi392_3
       have HC392_3 := Aside0.mk hl392_3
       clear hi392_3 hl392_3
       have HR392_4 := Aside0.mk hi392_4
       have HC392_4 := Aside0.mk hl392_4
       clear hi392_4 hl392_4
       replace p392 := eq_true p392
       replace q392 := eq_true q392
       try go_wp2_with (first | ((with_reducible refine xD (N := 4) rfl ?_); refine box_event ?hg (N := 4) ?hd (cs := #[.int .i64 0, .int .i64 0, .slice none 0 0, .slice none 0 0, .slice none 0 0]) (t := 52) ?hr ?_; (case hd => rfl); (case hg => rfl); (case hr => first | (go_simp; done) | (go_simp; rfl)); intro gb393 hg w25 hbox hb; have n0_ := Aside0.mk (zT (by repeat (first | (with_reducible first | exact HB.out | apply zA | apply zN | apply zD) | exact HB.out)) hb); have n1_ := Aside0.mk (hbox); have n2_ := Aside0.mk ((by rw [hg]; exact (zS (by repeat (first | (with_reducible first | exact HB.out | apply zA | apply zN | apply zD) | exact HB.out))) : w.heap.size ≤ gb393)); have n3_ := n2_; clear HB; have HB := n0_; have BK393 := n1_; have GW393 := n2_; have GE393 := n3_; clear n0_ n1_ n2_ n3_; clear hb hbox hg; have hcz26_0 : w25.cell? ⟨gb393, 0, none⟩ = some (.int .i64 0) := (blk_cell BK393.out 0).trans rfl; have hcz26_1 : w25.cell? ⟨gb393, 1, none⟩ = some (.int .i64 0) := (blk_cell BK393.out 1).trans rfl; have hcz26_2 : w25.cell? ⟨gb393, 2, none⟩ = some (.slice none 0 0) := (blk_cell BK393.out 2).trans rfl; have hcz26_3 : w25.cell? ⟨gb393, 3, none⟩ = some (.slice none 0 0) := (blk_cell BK393.out 3).trans rfl; have hcz26_4 : w25.cell? ⟨gb393, 4, none⟩ = some (.slice none 0 0) := (blk_cell BK393.out 4).trans rfl; have hfz26_0 := blk_frozen BK393.out 0; have hfz26_1 := blk_frozen BK393.out 1; have hfz26_2 := blk_frozen BK393.out 2; have hfz26_3 := blk_frozen BK393.out 3; have hfz26_4 := blk_frozen BK393.out 4))
       have n0_ : Aside0 ((((((w25.setCell ⟨gb393, 0, none⟩ (.int .i64 ((rd_T52 l0 x7_1).f0))).setCell ⟨gb393, 1, none⟩ (.int .i64 ((rd_T52 l0 x7_1).f1))).setCell ⟨gb393, 2, none⟩ (.slice A392_2 ((rd_T52 l0 x7_1).f2).length c392_2)).setCell ⟨gb393, 3, none⟩ (.slice A392_3 ((rd_T52 l0 x7_1).f3).length c392_3)).setCell ⟨gb393, 4, none⟩ (.slice A392_4 ((rd_T52 l0 x7_1).f4).length c392_4)).heap[gb393]? = some (.cells #[.int .i64 ((rd_T52 l0 x7_1).f0), .int .i64 ((rd_T52 l0 x7_1).f1), .slice A392_2 ((rd_T52 l0 x7_1).f2).length c392_2, .slice A392_3 ((rd_T52 l0 x7_1).f3).length c392_3, .slice A392_4 ((rd_T52 l0 x7_1).f4).length c392_4] 52 (0, 0))) := ⟨by (with_reducible repeat (first | refine yN ?_ _ | refine yD ?_ | refine yA ?_ _)); refine blk_put (cs := #[.int .i64 ((rd_T52 l0 x7_1).f0), .int .i64 ((rd_T52 l0 x7_1).f1), .slice A392_2 ((rd_T52 l0 x7_1).f2).length c392_2, .slice A392_3 ((rd_T52 l0 x7_1).f3).length c392_3, .slice none 0 0]) ?_ 4 _ rfl; (with_reducible repeat (first | refine yN ?_ _ | refine yD ?_ | refine yA ?_ _)); refine blk_put (cs := #[.int .i64 ((rd_T52 l0 x7_1).f0), .int .i64 ((rd_T52 l0 x7_1).f1), .slice A392_2 ((rd_T52 l0 x7_1).f2).length c392_2, .slice none 0 0, .slice none 0 0]) ?_ 3 _ rfl; (with_reducible repeat (first | refine yN ?_ _ | refine yD ?_ | refine yA ?_ _)); refine blk_put (cs := #[.int .i64 ((rd_T52 l0 x7_1).f0), .int .i64 ((rd_T52 l0 x7_1).f1), .slice none 0 0, .slice none 0 0, .slice none 0 0]) ?_ 2 _ rfl; (with_reducible repeat (first | refine yN ?_ _ | refine yD ?_ | refine yA ?_ _)); refine blk_put (cs := #[.int .i64 ((rd_T52 l0 x7_1).f0), .int .i64 0, .slice none 0 0, .slice none 0 0, .slice none 0 0]) ?_ 1 _ rfl; (with_reducible repeat (first | refine yN ?_ _ | refine yD ?_ | refine yA ?_ _)); refine blk_put (cs := #[.int .i64 0, .int .i64 0, .slice none 0 0, .slice none 0 0, .slice none 0 0]) ?_ 0 _ rfl; (with_reducible repeat (first | refine yN ?_ _ | refine yD ?_ | refine yA ?_ _)); exact BK393.out⟩
       have n1_ : Aside0 (Below w.heap.size w (((((w25.setCell ⟨gb393, 0, none⟩ (.int .i64 ((rd_T52 l0 x7_1).f0))).setCell ⟨gb393, 1, none⟩ (.int .i64 ((rd_T52 l0 x7_1).f1))).setCell ⟨gb393, 2, none⟩ (.slice A392_2 ((rd_T52 l0 x7_1).f2).length c392_2)).setCell ⟨gb393, 3, none⟩ (.slice A392_3 ((rd_T52 l0 x7_1).f3).length c392_3)).setCell ⟨gb393, 4, none⟩ (.slice A392_4 ((rd_T52 l0 x7_1).f4).length c392_4))) := ⟨by repeat (first | (with_reducible first | exact HB.out | apply zA | apply zN | apply zD | refine zP ?_ GE393.out) | exact HB.out)⟩
       (try clear BK393)
       (try clear HB)
       generalize (((((w25.setCell ⟨gb393, 0, none⟩ (.int .i64 ((rd_T52 l0 x7_1).f0))).setCell ⟨gb393, 1, none⟩ (.int .i64 ((rd_T52 l0 x7_1).f1))).setCell ⟨gb393, 2, none⟩ (.slice A392_2 ((rd_T52 l0 x7_1).f2).length c392_2)).setCell ⟨gb393, 3, none⟩ (.slice A392_3 ((rd_T52 l0 x7_1).f3).length c392_3)).setCell ⟨gb393, 4, none⟩ (.slice A392_4 ((rd_T52 l0 x7_1).f4).length c392_4)) = w27 at n0_ n1_ ⊢
       have BK393 := n0_
       have HB := n1_
       clear n0_ n1_
       have n0_ := Aside0.mk (yD BK393.out)
       have n1_ := Aside0.mk (zD HB.out)
       clear BK393
       clear HB
       have BK393 := n0_
       have HB := n1_
       clear n0_ n1_
       refine start_ (n := 21) (S := fun w' => w'.cell? ⟨gb393, 0, none⟩ = some (.int .i64 ((rd_T52 l0 x7_1).f0)) ∧ w'.cell? ⟨gb393, 1, none⟩ = some (.int .i64 ((rd_T52 l0 x7_1).f1)) ∧ w'.cell? ⟨gb393, 2, none⟩ = some (.slice A392_2 ((rd_T52 l0 x7_1).f2).length c392_2) ∧ w'.cell? ⟨gb393, 3, none⟩ = some (.slice A392_3 ((rd_T52 l0 x7_1).f3).length c392_3) ∧ w'.cell? ⟨gb393, 4, none⟩ = some (.slice A392_4 ((rd_T52 l0 x7_1).f4).length c392_4)) (ds := []) #[false, false, false, false, false, false, false, false, false, false, false, false, false, false, false, false, false, false, false, false, false] (by kernel_rfl) rfl rfl ⟨(blk_cell BK393.out 0).trans rfl, (blk_cell BK393.out 1).trans rfl, (blk_cell BK393.out 2).trans rfl, (blk_cell BK393.out 3).trans rfl, (blk_cell BK393.out 4).trans rfl⟩ (fun hHeld => ?_); refine with_tabW cadence_alike.tab4 cadence_alike.bits4 (fun HT_ HW_ => ?_)
       generalize w27.drew = w28 at BK393 HB hHeld ⊢
       refine take_ (i := 0) (N := some 11) (v := ?_) (a' := ?_) #[T', F', F', F', F', F', F', F', F', F', F', F', F', F', F', F', F', F', F', F', F'] rfl rfl (take_ofW HT_.out HW_.out (by kernel_rfl)) (fun _ _ _ h => h) (Or.inl ⟨by rfl, ?_⟩) hHeld ?_ ?_;rotate_left;(rintro w' ⟨s0, s1, s2, s3, s4⟩;go_simp;with_reducible rfl);rotate_left;(simp only [Act.put, sA, sZ, sS, i64_w, i32_w];rfl)
       refine one_ (i := 1) (N := some 12) #[T', T', F', F', F', F', F', F', F', F', F', F', F', F', F', F', F', F', F', F', F'] rfl rfl (one_of HT_.out (by kernel_rfl)) (by decide) (fun K hK => ?_)
       refine goes_ Try.func71 (by kernel_rfl) rfl #[.agg #[.int .i64 ((rd_T52 l0 x7_1).f0), .int .i64 ((rd_T52 l0 x7_1).f1), .slice A392_2 ((rd_T52 l0 x7_1).f2).length c392_2, .slice A392_3 ((rd_T52 l0 x7_1).f3).length c392_3, .slice A392_4 ((rd_T52 l0 x7_1).f4).length c392_4]] (by rfl) rfl rfl (by (try simp only [List.map_toArray, List.map_cons, List.map_nil]); first | done | rfl | (simp only [List.length_drop, List.length_take]; rfl)) ?_
       with_reducible refine (cadence_valid.calls ((rd_T52 l0 x7_1).f0) ((rd_T52 l0 x7_1).f1) _ _ ((rd_T52 l0 x7_1).f2) _ _ ((rd_T52 l0 x7_1).f3) _ _ ((rd_T52 l0 x7_1).f4) false _ ?side1 ?side2 ?side3 ?side4 ?side5 ?side6 A5.out).mono ?_
       (case side1 => repeat (first | exact (Kd.C_below HR392_2.out HB.out) | (with_reducible refine Kd.C_alloc ?_ _) | (with_reducible refine Kd.C_drewN ?_ _) | (with_reducible refine Kd.C_drew ?_)))
       (case side2 => exact HC392_2.out)
       (case side3 => repeat (first | exact (Kd.C_below HR392_3.out HB.out) | (with_reducible refine Kd.C_alloc ?_ _) | (with_reducible refine Kd.C_drewN ?_ _) | (with_reducible refine Kd.C_drew ?_)))
       (case side4 => exact HC392_3.out)
       (case side5 => repeat (first | exact (Kd.C_below HR392_4.out HB.out) | (with_reducible refine Kd.C_alloc ?_ _) | (with_reducible refine Kd.C_drewN ?_ _) | (with_reducible refine Kd.C_drew ?_)))
       (case side6 => exact HC392_4.out)
       rintro e w29 ⟨rfl, hb⟩
       refine ⟨_, rfl, ?_⟩
       have n0_ := Aside0.mk (yB (g := gb393) (o := .cells #[.int .i64 ((rd_T52 l0 x7_1).f0), .int .i64 ((rd_T52 l0 x7_1).f1), .slice A392_2 ((rd_T52 l0 x7_1).f2).length c392_2, .slice A392_3 ((rd_T52 l0 x7_1).f3).length c392_3, .slice A392_4 ((rd_T52 l0 x7_1).f4).length c392_4] 52 (0, 0)) (by (with_reducible repeat (first | refine yN ?_ _ | refine yD ?_ | refine yA ?_ _)); exact BK393.out) hb)
       have n1_ := Aside0.mk (zT (by repeat (first | (with_reducible first | exact HB.out | apply zA | apply zN | apply zD | refine zP ?_ GE393.out) | exact HB.out)) hb)
       clear BK393
       clear HB
       have BK393 := n0_
       have HB := n1_
       clear n0_ n1_
       (try clear hb)
       (try clear hb2)
       (try clear hk)
       (try clear hi)
       refine hK.out _ _ ⟨(blk_cell BK393.out 0).trans rfl, (blk_cell BK393.out 1).trans rfl, (blk_cell BK393.out 2).trans rfl, (blk_cell BK393.out 3).trans rfl, (blk_cell BK393.out 4).trans rfl⟩ (fun hHeld => ?_)
       clear hK K
       refine norm_ (a' := ?_) ?_ ?_
       rotate_left
       ·show Act.put _ (some 12) _ = _
        simp only [Act.put, sA, sZ, sS, i64_w, i32_w]
        rfl
       refine pure_ (i := 2) (N := some 13) (v := ?_) (a' := ?_) #[T', T', T', F', F', F', F', F', F', F', F', F', F', F', F', F', F', F', F', F', F'] rfl rfl (any_of HT_.out (by kernel_rfl)) (fun _ _ _ h => h) (Or.inl ⟨by rfl, ?_⟩) ?_ ?_;rotate_left;(intro w';go_simp;with_reducible rfl);rotate_left;(simp only [Act.put, sA, sZ, sS, i64_w, i32_w];rfl)
       refine pure_ (i := 3) (N := some 14) (v := ?_) (a' := ?_) #[T', T', T', T', F', F', F', F', F', F', F', F', F', F', F', F', F', F', F', F', F'] rfl rfl (any_of HT_.out (by kernel_rfl)) (fun _ _ _ h => h) (Or.inl ⟨by rfl, ?_⟩) ?_ ?_;rotate_left;(intro w';go_simp;with_reducible rfl);rotate_left;(simp only [Act.put, sA, sZ, sS, i64_w, i32_w];rfl)
       refine pure_ (i := 4) (N := some 15) (v := undef) (a' := ?_) #[T', T', T', T', T', F', F', F', F', F', F', F', F', F', F', F', F', F', F', F', F'] rfl rfl (any_of HT_.out (by kernel_rfl)) (fun _ _ _ h => h) (Or.inr ⟨by rfl, rfl⟩) ?_ ?_
       rotate_left
       ·simp only [Act.put, sA, sZ, sS, i64_w, i32_w]
        rfl
       refine pure_ (i := 5) (N := some 16) (v := undef) (a' := ?_) #[T', T', T', T', T', T', F', F', F', F', F', F', F', F', F', F', F', F', F', F', F'] rfl rfl (any_of HT_.out (by kernel_rfl)) (fun _ _ _ h => h) (Or.inr ⟨by rfl, rfl⟩) ?_ ?_
       rotate_left
       ·simp only [Act.put, sA, sZ, sS, i64_w, i32_w]
        rfl
       refine pure_ (i := 6) (N := some 17) (v := undef) (a' := ?_) #[T', T', T', T', T', T', T', F', F', F', F', F', F', F', F', F', F', F', F', F', F'] rfl rfl (any_of HT_.out (by kernel_rfl)) (fun _ _ _ h => h) (Or.inr ⟨by rfl, rfl⟩) ?_ ?_
       rotate_left
       ·simp only [Act.put, sA, sZ, sS, i64_w, i32_w]
        rfl
       refine pure_ (i := 7) (N := some 18) (v := undef) (a' := ?_) #[T', T', T', T', T', T', T', T', F', F', F', F', F', F', F', F', F', F', F', F', F'] rfl rfl (any_of HT_.out (by kernel_rfl)) (fun _ _ _ h => h) (Or.inr ⟨by rfl, rfl⟩) ?_ ?_
       rotate_left
       ·simp only [Act.put, sA, sZ, sS, i64_w, i32_w]
        rfl
       refine pure_ (i := 8) (N := some 19) (v := undef) (a' := ?_) #[T', T', T', T', T', T', T', T', T', F', F', F', F', F', F', F', F', F', F', F', F'] rfl rfl (any_of HT_.out (by kernel_rfl)) (fun _ _ _ h => h) (Or.inr ⟨by rfl, rfl⟩) ?_ ?_
       rotate_left
       ·simp only [Act.put, sA, sZ, sS, i64_w, i32_w]
        rfl
       refine pure_ (i := 9) (N := some 20) (v := undef) (a' := ?_) #[T', T', T', T', T', T', T', T', T', T', F', F', F', F', F', F', F', F', F', F', F'] rfl rfl (any_of HT_.out (by kernel_rfl)) (fun _ _ _ h => h) (Or.inr ⟨by rfl, rfl⟩) ?_ ?_
       rotate_left
       ·simp only [Act.put, sA, sZ, sS, i64_w, i32_w]
        rfl
       refine pure_ (i := 10) (N := some 21) (v := undef) (a' := ?_) #[T', T', T', T', T', T', T', T', T', T', T', F', F', F', F', F', F', F', F', F', F'] rfl rfl (any_of HT_.out (by kernel_rfl)) (fun _ _ _ h => h) (Or.inr ⟨by rfl, rfl⟩) ?_ ?_
       rotate_left
       ·simp only [Act.put, sA, sZ, sS, i64_w, i32_w]
        rfl
       refine pure_ (i := 11) (N := some 22) (v := ?_) (a' := ?_) #[T', T', T', T', T', T', T', T', T', T', T', T', F', F', F', F', F', F', F', F', F'] rfl rfl (any_of HT_.out (by kernel_rfl)) (fun _ _ _ h => h) (Or.inl ⟨by rfl, ?_⟩) ?_ ?_;rotate_left;(intro w';go_simp;with_reducible rfl);rotate_left;(simp only [Act.put, sA, sZ, sS, i64_w, i32_w];rfl)
       refine pure_ (i := 12) (N := some 23) (v := ?_) (a' := ?_) #[T', T', T', T', T', T', T', T', T', T', T', T', T', F', F', F', F', F', F', F', F'] rfl rfl (any_of HT_.out (by kernel_rfl)) (fun _ _ _ h => h) (Or.inl ⟨by rfl, ?_⟩) ?_ ?_;rotate_left;(intro w';go_simp;with_reducible rfl);rotate_left;(simp only [Act.put, sA, sZ, sS, i64_w, i32_w];rfl)
       refine pure_ (i := 13) (N := some 24) (v := undef) (a' := ?_) #[T', T', T', T', T', T', T', T', T', T', T', T', T', T', F', F', F', F', F', F', F'] rfl rfl (any_of HT_.out (by kernel_rfl)) (fun _ _ _ h => h) (Or.inr ⟨by rfl, rfl⟩) ?_ ?_
       rotate_left
       ·simp only [Act.put, sA, sZ, sS, i64_w, i32_w]
        rfl
       refine pure_ (i := 14) (N := some 25) (v := undef) (a' := ?_) #[T', T', T', T', T', T', T', T', T', T', T', T', T', T', T', F', F', F', F', F', F'] rfl rfl (any_of HT_.out (by kernel_rfl)) (fun _ _ _ h => h) (Or.inr ⟨by rfl, rfl⟩) ?_ ?_
       rotate_left
       ·simp only [Act.put, sA, sZ, sS, i64_w, i32_w]
        rfl
       refine pure_ (i := 15) (N := some 26) (v := undef) (a' := ?_) #[T', T', T', T', T', T', T', T', T', T', T', T', T', T', T', T', F', F', F', F', F'] rfl rfl (any_of HT_.out (by kernel_rfl)) (fun _ _ _ h => h) (Or.inr ⟨by rfl, rfl⟩) ?_ ?_
       rotate_left
       ·simp only [Act.put, sA, sZ, sS, i64_w, i32_w]
        rfl
       refine pure_ (i := 16) (N := some 27) (v := undef) (a' := ?_) #[T', T', T', T', T', T', T', T', T', T', T', T', T', T', T', T', T', F', F', F', F'] rfl rfl (any_of HT_.out (by kernel_rfl)) (fun _ _ _ h => h) (Or.inr ⟨by rfl, rfl⟩) ?_ ?_
       rotate_left
       ·simp only [Act.put, sA, sZ, sS, i64_w, i32_w]
        rfl
       refine pure_ (i := 17) (N := some 28) (v := undef) (a' := ?_) #[T', T', T', T', T', T', T', T', T', T', T', T', T', T', T', T', T', T', F', F', F'] rfl rfl (any_of HT_.out (by kernel_rfl)) (fun _ _ _ h => h) (Or.inr ⟨by rfl, rfl⟩) ?_ ?_
       rotate_left
       ·simp only [Act.put, sA, sZ, sS, i64_w, i32_w]
        rfl
       refine pure_ (i := 18) (N := some 29) (v := undef) (a' := ?_) #[T', T', T', T', T', T', T', T', T', T', T', T', T', T', T', T', T', T', T', F', F'] rfl rfl (any_of HT_.out (by kernel_rfl)) (fun _ _ _ h => h) (Or.inr ⟨by rfl, rfl⟩) ?_ ?_
       rotate_left
       ·simp only [Act.put, sA, sZ, sS, i64_w, i32_w]
        rfl
       refine pure_ (i := 19) (N := some 30) (v := undef) (a' := ?_) #[T', T', T', T', T', T', T', T', T', T', T', T', T', T', T', T', T', T', T', T', F'] rfl rfl (any_of HT_.out (by kernel_rfl)) (fun _ _ _ h => h) (Or.inr ⟨by rfl, rfl⟩) ?_ ?_
       rotate_left
       ·simp only [Act.put, sA, sZ, sS, i64_w, i32_w]
        rfl
       refine pure_ (i := 20) (N := some 31) (v := ?_) (a' := ?_) #[T', T', T', T', T', T', T', T', T', T', T', T', T', T', T', T', T', T', T', T', T'] rfl rfl (any_of HT_.out (by kernel_rfl)) (fun _ _ _ h => h) (Or.inl ⟨by rfl, ?_⟩) ?_ ?_;rotate_left;(intro w';go_simp;with_reducible rfl);rotate_left;(simp only [Act.put, sA, sZ, sS, i64_w, i32_w];rfl)
       refine done_ (done_of HT_.out (by kernel_rfl)) ?_
       try go_wp2
       go_ret
       exact ⟨by first | rfl | (simp [errW_none, errW_some] <;> rfl) | (simp [*, errW_none, errW_some] <;> rfl), by repeat (first | (with_reducible first | exact HB.out | apply zA | apply zN | apply zD | refine zP ?_ GE393.out) | exact HB.out)⟩
     ·rw [if_neg c4] at H
      exact absurd H (by simp)
    ·rw [if_neg c3] at H
     exact absurd H (by simp)
   ·rw [if_neg c2] at H
    have c2b0 : decide (x7_1 < (l0.length : Int)) = false := decide_eq_false c2
    clear c2
    obtain rfl := Option.some.inj H
    go_wp2
    go_ret
    exact ⟨by first | rfl | (simp [errW_none, errW_some] <;> rfl) | (simp [*, errW_none, errW_some] <;> rfl), by repeat (first | (with_reducible first | exact HB.out | apply zA | apply zN | apply zD) | exact HB.out)⟩

end Go.Proofs.Ytcofjbbflcnaaaa.P
