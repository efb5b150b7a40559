-- Written by this session's own program (wip/tools/myprint.py), which runs the kit's print with turns of its own: not a text of the kit's print.sh.
import Derived.Test.YtcofjbbflcnaaaaPx0
import Derived.Test.YtcofjbbflcnaaaaPx74
import Derived.Test.YtcofjbbflcnaaaaAbb
namespace Go.Proofs.Ytcofjbbflcnaaaa.P
open Go.RowKit Go.Proofs.YtcofjbbflcnaaaaW.PrintWords Go.Proofs.YtcofjbbflcnaaaaW.PrintLast Go.Proofs.YtcofjbbflcnaaaaW.PrintMore
open List renaming setIfInBounds_toArray → sA, set_cons_zero → sZ, set_cons_succ → sS
open Bool renaming true → T', false → F'
open Go.Proofs.YtcofjbbflcnaaaaW.PrintWords renaming below_alloc → zA, pw_below_drewN → zN, below_drew1 → zD, blk_drewN → yN, blk_drew → yD, blk_alloc → yA, below_size → zS, below_step → zT, blk_below → yB, below_set → zP, cell_far → xF, add_block → xB, gate_callee → xC, gate_dst → xD
attribute [local go_sem] max2_int min2_int max_two min_two max_three min_three max_four min_four   -- for this text's walks alone
set_option linter.unusedVariables false
set_option linter.unusedSimpArgs false

/-! ### cutroomref20_Alike: function 61 -/
def cutroomref20_Alike.l0 : Nat → List (S52) → Int → Option (Bool)
 | 0, _, _ => none
 | k + 1, x0, x3 => if x3 < (x0.length : Int) then (if 0 ≤ x3 then ((cutroomref20_Valid.f ((rd_T52 x0 x3).f0) ((rd_T52 x0 x3).f1) ((rd_T52 x0 x3).f2) ((rd_T52 x0 x3).f3) ((rd_T52 x0 x3).f4)).bind fun t271 => (if t271 = true then (if 0 < (x0.length : Int) then (if ((rd_T52 x0 x3).f0) = ((rd_T52 x0 0).f0) then (if ((rd_T52 x0 x3).f1) = ((rd_T52 x0 0).f1) then (cutroomref20_Alike.l0 k x0 (wrap64 (x3 + 1))) else (some false)) else (some false)) else (none)) else (some false))) else (none)) else (some true)
def cutroomref20_Alike.f (k : Nat) (l0 : List (S52)) : Option (Bool) := cutroomref20_Alike.l0 k l0 0
theorem cutroomref20_Alike.mono_l : ∀ k, (∀ y0 y1, LeO (cutroomref20_Alike.l0 k y0 y1) (cutroomref20_Alike.l0 (k + 1) y0 y1))
 | 0 => fun _ _ r h => by simp [cutroomref20_Alike.l0] at h
 | k + 1 => by
  have ih0 := cutroomref20_Alike.mono_l k
  ·intro y0 y1
   unfold cutroomref20_Alike.l0
   repeat' first
   | (with_reducible exact ih0 _ _)
   | (with_reducible exact LeO.refl _)
   | (with_reducible exact LeO.none _)
   | (with_reducible refine LeO.ite ?_ ?_)
   | (with_reducible refine LeO.bind ?_ (fun _ => ?_))
   | exact ih0 _ _
   | exact LeO.none _
   | refine LeO.ite ?_ ?_
   | refine LeO.bind ?_ (fun _ => ?_)
theorem cutroomref20_Alike.mono : ∀ a0 k, LeO (cutroomref20_Alike.f k a0) (cutroomref20_Alike.f (k + 1) a0) := by
 intro a0 k
 have ih0 := cutroomref20_Alike.mono_l k
 unfold cutroomref20_Alike.f
 repeat' first
   | (with_reducible exact ih0 _ _)
   | (with_reducible exact LeO.refl _)
   | (with_reducible exact LeO.none _)
   | (with_reducible refine LeO.ite ?_ ?_)
   | (with_reducible refine LeO.bind ?_ (fun _ => ?_))
   | exact ih0 _ _
   | exact LeO.none _
   | refine LeO.ite ?_ ?_
   | refine LeO.bind ?_ (fun _ => ?_)
def cutroomref20_Alike.T4 : Bool × List (List Nat × List Nat) := (true, [([], []), ([], []), ([0, 1], [0, 1]), ([2], [2]), ([3], [3]), ([4], [4]), ([5, 4], [5]), ([6], [6]), ([6], [6]), ([7, 8, 6], [6, 7, 8]), ([9, 6], [6, 9]), ([10, 6], [6, 10]), ([6], [6]), ([12, 6], [6, 12]), ([13, 6], [6, 13]), ([14, 6], [6, 14]), ([11, 15, 6], [6, 11, 15]), ([6, 16], [6, 16]), ([17, 6], [17]), ([18], [18]), ([18], [18]), ([19, 20, 18], [18, 19, 20]), ([21, 18], [18, 21]), ([22, 18], [18, 22]), ([18], [18]), ([24, 18], [18, 24]), ([25, 18], [18, 25]), ([26, 18], [18, 26]), ([23, 27, 18], [18, 23, 27]), ([18, 28], [18, 28])])
def cutroomref20_Alike.B4 : List Nat := [0, 0, 3, 7, 15, 31, 63, 127, 127, 511, 1023, 2047, 127, 4223, 12415, 28799, 65535, 131071, 262143, 524287, 524287, 2097151, 4194303, 8388607, 524287, 17301503, 50855935, 117964799, 268435455, 536870911]
theorem cutroomref20_Alike.tab4 : rtab .any (opsOf Try.f61 4) = cutroomref20_Alike.T4 := by kernel_rfl
theorem cutroomref20_Alike.bits4 : waitsOk cutroomref20_Alike.T4.2 cutroomref20_Alike.B4 = true := by kernel_rfl
set_option maxHeartbeats 8000000 in
set_option maxRecDepth 100000 in
theorem cutroomref20_Alike.calls (k : Nat) (A0 : Option Addr) (c0 : Nat) (l0 : List (S52)) (r : Bool) (w : World) (hr0 : Kd.C k52 w A0 l0.length l0) (hc0 : l0.length ≤ c0) (h : cutroomref20_Alike.f k l0 = some r) :
  Calls Try.prog 61 #[.slice A0 l0.length c0] w fun e w' => e = .returned (.bool r) ∧ Below w.heap.size w w' := by
 have hu52 := Try.underlying52
 have HR0 := Aside0.mk hr0
 have HC0 := Aside0.mk hc0
 clear hr0 hc0
 have HB := Aside0.mk (Below.refl w.heap.size w)
 have H : (cutroomref20_Alike.l0 k l0 0) = some r := h
 clear h
 have H' := Aside0.mk H
 clear H
 go_enter Try.func61, Try.ntmps61
 go_wp2
 go_loopg [3] k (fun kq v3 w' => ∃ (x3_1 : Int), v3 = .int .i64 x3_1 ∧ Aside0 (cutroomref20_Alike.l0 kq l0 x3_1 = some r) ∧ Aside0 (kq ≤ k) ∧ Aside0 (Below w.heap.size w w'))
 case atStart => exact ⟨(0), (by first | rfl | (simp; done) | (simp [*]; done)), H', ⟨Nat.le_refl _⟩, ⟨by repeat (first | (with_reducible first | exact HB.out | apply zA | apply zN | apply zD) | exact HB.out)⟩⟩
 case round =>
  clear H'
  obtain ⟨x3_1, rfl, HA, HK1, HB⟩ := hrel
  cases gk with
  | zero => exact absurd HA.out (by simp [cutroomref20_Alike.l0])
  | succ k1 =>
   have H := HA.out
   clear HA
   simp only [cutroomref20_Alike.l0] at H
   by_cases c2 : x3_1 < (l0.length : Int)
   ·rw [if_pos c2] at H
    have c2b0 : decide (x3_1 < (l0.length : Int)) = true := decide_eq_true c2
    clear c2
    by_cases c3 : 0 ≤ x3_1
    ·rw [if_pos c3] at H
     have c3b0 : decide (0 ≤ x3_1) = true := decide_eq_true c3
     clear c3
     replace H := Option.bind_eq_some_iff.mp H
     obtain ⟨t271, A40, H⟩ := H
     replace H : (if t271 = true then (if 0 < (l0.length : Int) then (if ((rd_T52 l0 x3_1).f0) = ((rd_T52 l0 0).f0) then (if ((rd_T52 l0 x3_1).f1) = ((rd_T52 l0 0).f1) then (cutroomref20_Alike.l0 k1 l0 (wrap64 (x3_1 + 1))) else (some false)) else (some false)) else (none)) else (some false)) = some r := H
     have A4 := Aside0.mk A40
     clear A40
     by_cases c5 : t271 = true
     ·subst c5
      have H1 : (if 0 < (l0.length : Int) then (if ((rd_T52 l0 x3_1).f0) = ((rd_T52 l0 0).f0) then (if ((rd_T52 l0 x3_1).f1) = ((rd_T52 l0 0).f1) then (cutroomref20_Alike.l0 k1 l0 (wrap64 (x3_1 + 1))) else (some false)) else (some false)) else (none)) = some r := by rw [if_pos rfl] at H; exact H
      clear H
      have H := H1
      clear H1
      by_cases c6 : 0 < (l0.length : Int)
      ·rw [if_pos c6] at H
       have c6b0 : decide (0 < (l0.length : Int)) = true := decide_eq_true c6
       have c6b1 : decide (0 < l0.length) = true := decide_eq_true (by omega)
       clear c6
       by_cases c7 : ((rd_T52 l0 x3_1).f0) = ((rd_T52 l0 0).f0)
       ·rw [if_pos c7] at H
        have c7b0 : (((rd_T52 l0 x3_1).f0) == ((rd_T52 l0 0).f0)) = true := beq_iff_eq.mpr c7
        have c7b1 : (((rd_T52 l0 x3_1).f0) != ((rd_T52 l0 0).f0)) = false := bne_eq_false_iff_eq.mpr c7
        clear c7
        by_cases c8 : ((rd_T52 l0 x3_1).f1) = ((rd_T52 l0 0).f1)
        ·rw [if_pos c8] at H
         have c8b0 : (((rd_T52 l0 x3_1).f1) == ((rd_T52 l0 0).f1)) = true := beq_iff_eq.mpr c8
         have c8b1 : (((rd_T52 l0 x3_1).f1) != ((rd_T52 l0 0).f1)) = false := bne_eq_false_iff_eq.mpr c8
         clear c8
         have H' := Aside0.mk H
         clear H
         try go_wp2
         have n0_ := Aside0.mk (zD HB.out)
         clear HB
         have HB := n0_
         clear n0_
         have p270 : 0 ≤ (x3_1 : Int) := of_decide_eq_true (by first | (with_reducible assumption) | assumption)
         have q270 : x3_1 < (l0.length : Int) := of_decide_eq_true (by first | (with_reducible assumption) | assumption)
         obtain ⟨ad270, A270_2, c270_2, A270_3, c270_3, A270_4, c270_4, e270, hx270_0, hx270_1, hx270_2, hx270_3, hx270_4, hl270_2, hi270_2, hl270_3, hi270_3, hl270_4, hi270_4⟩ := at_T52 HR0.out x3_1 p270 q270
         have hw270_4 := hx270_4
         have hw270_3 := hx270_3
         have hw270_2 := hx270_2
         have hw270_1 := hx270_1
         have hw270_0 := hx270_0
         cases e270
         replace hx270_0 := (HB.out.cell (World.block_lt_of_cell? w _ hx270_0)).trans hx270_0
         replace hx270_1 := (HB.out.cell (World.block_lt_of_cell? w _ hx270_1)).trans hx270_1
         replace hx270_2 := (HB.out.cell (World.block_lt_of_cell? w _ hx270_2)).trans hx270_2
         replace hx270_3 := (HB.out.cell (World.block_lt_of_cell? w _ hx270_3)).trans hx270_3
         replace hx270_4 := (HB.out.cell (World.block_lt_of_cell? w _ hx270_4)).trans hx270_4
         have HR270_2 := Aside0.mk hi270_2
         have HC270_2 := Aside0.mk hl270_2
         clear hi270_2 hl270_2
         have HR270_3 := Aside0.mk hi270_3
         have HC270_3 := Aside0.mk hl270_3
         clear hi270_3 hl270_3
         have HR270_4 := Aside0.mk hi270_4
         have HC270_4 := Aside0.mk hl270_4
         clear hi270_4 hl270_4
         replace p270 := eq_true p270
         replace q270 := eq_true q270
         have p272 : 0 ≤ (x3_1 : Int) := of_decide_eq_true (by first | (with_reducible assumption) | assumption)
         have q272 : x3_1 < (l0.length : Int) := of_decide_eq_true (by first | (with_reducible assumption) | assumption)
         obtain ⟨ad272, A272_2, c272_2, A272_3, c272_3, A272_4, c272_4, e272, hx272_0, hx272_1, hx272_2, hx272_3, hx272_4, hl272_2, hi272_2, hl272_3, hi272_3, hl272_4, hi272_4⟩ := at_T52 HR0.out x3_1 p272 q272
         have hw272_4 := hx272_4
         have hw272_3 := hx272_3
         have hw272_2 := hx272_2
         have hw272_1 := hx272_1
         have hw272_0 := hx272_0
         obtain rfl : ad270 = ad272 := (by injection e272)
         replace hx272_0 := (HB.out.cell (World.block_lt_of_cell? w _ hx272_0)).trans hx272_0
         replace hx272_1 := (HB.out.cell (World.block_lt_of_cell? w _ hx272_1)).trans hx272_1
         replace hx272_2 := (HB.out.cell (World.block_lt_of_cell? w _ hx272_2)).trans hx272_2
         replace hx272_3 := (HB.out.cell (World.block_lt_of_cell? w _ hx272_3)).trans hx272_3
         replace hx272_4 := (HB.out.cell (World.block_lt_of_cell? w _ hx272_4)).trans hx272_4
         have HR272_2 := Aside0.mk hi272_2
         have HC272_2 := Aside0.mk hl272_2
         clear hi272_2 hl272_2
         have HR272_3 := Aside0.mk hi272_3
         have HC272_3 := Aside0.mk hl272_3
         clear hi272_3 hl272_3
         have HR272_4 := Aside0.mk hi272_4
         have HC272_4 := Aside0.mk hl272_4
         clear hi272_4 hl272_4
         replace p272 := eq_true p272
         replace q272 := eq_true q272
         have p273 : 0 ≤ (0 : Int) := (by omega)
         have q273 : 0 < (l0.length : Int) := of_decide_eq_true (by first | (with_reducible assumption) | assumption)
         obtain ⟨ad273, A273_2, c273_2, A273_3, c273_3, A273_4, c273_4, e273, hx273_0, hx273_1, hx273_2, hx273_3, hx273_4, hl273_2, hi273_2, hl273_3, hi273_3, hl273_4, hi273_4⟩ := at_T52 HR0.out 0 p273 q273
         have hw273_4 := hx273_4
         (try rw [show ((0 : Int)).toNat = 0 from rfl] at hw273_4)
         (try rw [show 0 * 5 = 0 from rfl] at hw273_4)
         (try rw [Addr.add_zero'] at hw273_4)
         have hw273_3 := hx273_3
         (try rw [show ((0 : Int)).toNat = 0 from rfl] at hw273_3)
         (try rw [show 0 * 5 = 0 from rfl] at hw273_3)
         (try rw [Addr.add_zero'] at hw273_3)
         have hw273_2 := hx273_2
         (try rw [show ((0 : Int)).toNat = 0 from rfl] at hw273_2)
         (try rw [show 0 * 5 = 0 from rfl] at hw273_2)
         (try rw [Addr.add_zero'] at hw273_2)
         have hw273_1 := hx273_1
         (try rw [show ((0 : Int)).toNat = 0 from rfl] at hw273_1)
         (try rw [show 0 * 5 = 0 from rfl] at hw273_1)
         (try rw [Addr.add_zero'] at hw273_1)
         have hw273_0 := hx273_0
         (try rw [show ((0 : Int)).toNat = 0 from rfl] at hw273_0)
         (try rw [show 0 * 5 = 0 from rfl] at hw273_0)
         (try rw [Addr.add_zero'] at hw273_0)
         obtain rfl : ad270 = ad273 := (by injection e273)
         have qi273 : (0 < l0.length) = True := eq_true (by omega)
         (try rw [show ((0 : Int)).toNat = 0 from rfl] at hx273_0)
         (try rw [show 0 * 5 = 0 from rfl] at hx273_0)
         (try rw [Addr.add_zero'] at hx273_0)
         (try rw [show ((0 : Int)).toNat = 0 from rfl] at hx273_1)
         (try rw [show 0 * 5 = 0 from rfl] at hx273_1)
         (try rw [Addr.add_zero'] at hx273_1)
         (try rw [show ((0 : Int)).toNat = 0 from rfl] at hx273_2)
         (try rw [show 0 * 5 = 0 from rfl] at hx273_2)
         (try rw [Addr.add_zero'] at hx273_2)
         (try rw [show ((0 : Int)).toNat = 0 from rfl] at hx273_3)
         (try rw [show 0 * 5 = 0 from rfl] at hx273_3)
         (try rw [Addr.add_zero'] at hx273_3)
         (try rw [show ((0 : Int)).toNat = 0 from rfl] at hx273_4)
         (try rw [show 0 * 5 = 0 from rfl] at hx273_4)
         (try rw [Addr.add_zero'] at hx273_4)
         replace hx273_0 := (HB.out.cell (World.block_lt_of_cell? w _ hx273_0)).trans hx273_0
         replace hx273_1 := (HB.out.cell (World.block_lt_of_cell? w _ hx273_1)).trans hx273_1
         replace hx273_2 := (HB.out.cell (World.block_lt_of_cell? w _ hx273_2)).trans hx273_2
         replace hx273_3 := (HB.out.cell (World.block_lt_of_cell? w _ hx273_3)).trans hx273_3
         replace hx273_4 := (HB.out.cell (World.block_lt_of_cell? w _ hx273_4)).trans hx273_4
         have HR273_2 := Aside0.mk hi273_2
         have HC273_2 := Aside0.mk hl273_2
         clear hi273_2 hl273_2
         have HR273_3 := Aside0.mk hi273_3
         have HC273_3 := Aside0.mk hl273_3
         clear hi273_3 hl273_3
         have HR273_4 := Aside0.mk hi273_4
         have HC273_4 := Aside0.mk hl273_4
         clear hi273_4 hl273_4
         replace p273 := eq_true p273
         replace q273 := eq_true q273
         have p274 : 0 ≤ (x3_1 : Int) := of_decide_eq_true (by first | (with_reducible assumption) | assumption)
         have q274 : x3_1 < (l0.length : Int) := of_decide_eq_true (by first | (with_reducible assumption) | assumption)
         obtain ⟨ad274, A274_2, c274_2, A274_3, c274_3, A274_4, c274_4, e274, hx274_0, hx274_1, hx274_2, hx274_3, hx274_4, hl274_2, hi274_2, hl274_3, hi274_3, hl274_4, hi274_4⟩ := at_T52 HR0.out x3_1 p274 q274
         have hw274_4 := hx274_4
         have hw274_3 := hx274_3
         have hw274_2 := hx274_2
         have hw274_1 := hx274_1
         have hw274_0 := hx274_0
         obtain rfl : ad270 = ad274 := (by injection e274)
         replace hx274_0 := (HB.out.cell (World.block_lt_of_cell? w _ hx274_0)).trans hx274_0
         replace hx274_1 := (HB.out.cell (World.block_lt_of_cell? w _ hx274_1)).trans hx274_1
         replace hx274_2 := (HB.out.cell (World.block_lt_of_cell? w _ hx274_2)).trans hx274_2
         replace hx274_3 := (HB.out.cell (World.block_lt_of_cell? w _ hx274_3)).trans hx274_3
         replace hx274_4 := (HB.out.cell (World.block_lt_of_cell? w _ hx274_4)).trans hx274_4
         have HR274_2 := Aside0.mk hi274_2
         have HC274_2 := Aside0.mk hl274_2
         clear hi274_2 hl274_2
         have HR274_3 := Aside0.mk hi274_3
         have HC274_3 := Aside0.mk hl274_3
         clear hi274_3 hl274_3
         have HR274_4 := Aside0.mk hi274_4
         have HC274_4 := Aside0.mk hl274_4
         clear hi274_4 hl274_4
         replace p274 := eq_true p274
         replace q274 := eq_true q274
         have ea_ := Option.some.inj (hx272_2.symm.trans hx274_2)
         injection ea_ with ea_ en_ ec_
         subst ea_
         subst ec_
         clear en_
         have ea_ := Option.some.inj (hx272_3.symm.trans hx274_3)
         injection ea_ with ea_ en_ ec_
         subst ea_
         subst ec_
         clear en_
         have ea_ := Option.some.inj (hx272_4.symm.trans hx274_4)
         injection ea_ with ea_ en_ ec_
         subst ea_
         subst ec_
         clear en_
         have p275 : 0 ≤ (0 : Int) := (by omega)
         have q275 : 0 < (l0.length : Int) := of_decide_eq_true (by first | (with_reducible assumption) | assumption)
         obtain ⟨ad275, A275_2, c275_2, A275_3, c275_3, A275_4, c275_4, e275, hx275_0, hx275_1, hx275_2, hx275_3, hx275_4, hl275_2, hi275_2, hl275_3, hi275_3, hl275_4, hi275_4⟩ := at_T52 HR0.out 0 p275 q275
         have hw275_4 := hx275_4
         (try rw [show ((0 : Int)).toNat = 0 from rfl] at hw275_4)
         (try rw [show 0 * 5 = 0 from rfl] at hw275_4)
         (try rw [Addr.add_zero'] at hw275_4)
         have hw275_3 := hx275_3
         (try rw [show ((0 : Int)).toNat = 0 from rfl] at hw275_3)
         (try rw [show 0 * 5 = 0 from rfl] at hw275_3)
         (try rw [Addr.add_zero'] at hw275_3)
         have hw275_2 := hx275_2
         (try rw [show ((0 : Int)).toNat = 0 from rfl] at hw275_2)
         (try rw [show 0 * 5 = 0 from rfl] at hw275_2)
         (try rw [Addr.add_zero'] at hw275_2)
         have hw275_1 := hx275_1
         (try rw [show ((0 : Int)).toNat = 0 from rfl] at hw275_1)
         (try rw [show 0 * 5 = 0 from rfl] at hw275_1)
         (try rw [Addr.add_zero'] at hw275_1)
         have hw275_0 := hx275_0
         (try rw [show ((0 : Int)).toNat = 0 from rfl] at hw275_0)
         (try rw [show 0 * 5 = 0 from rfl] at hw275_0)
         (try rw [Addr.add_zero'] at hw275_0)
         obtain rfl : ad270 = ad275 := (by injection e275)
         have qi275 : (0 < l0.length) = True := eq_true (by omega)
         (try rw [show ((0 : Int)).toNat = 0 from rfl] at hx275_0)
         (try rw [show 0 * 5 = 0 from rfl] at hx275_0)
         (try rw [Addr.add_zero'] at hx275_0)
         (try rw [show ((0 : Int)).toNat = 0 from rfl] at hx275_1)
         (try rw [show 0 * 5 = 0 from rfl] at hx275_1)
         (try rw [Addr.add_zero'] at hx275_1)
         (try rw [show ((0 : Int)).toNat = 0 from rfl] at hx275_2)
         (try rw [show 0 * 5 = 0 from rfl] at hx275_2)
         (try rw [Addr.add_zero'] at hx275_2)
         (try rw [show ((0 : Int)).toNat = 0 from rfl] at hx275_3)
         (try rw [show 0 * 5 = 0 from rfl] at hx275_3)
         (try rw [Addr.add_zero'] at hx275_3)
         (try rw [show ((0 : Int)).toNat = 0 from rfl] at hx275_4)
         (try rw [show 0 * 5 = 0 from rfl] at hx275_4)
         (try rw [Addr.add_zero'] at hx275_4)
         replace hx275_0 := (HB.out.cell (World.block_lt_of_cell? w _ hx275_0)).trans hx275_0
         replace hx275_1 := (HB.out.cell (World.block_lt_of_cell? w _ hx275_1)).trans hx275_1
         replace hx275_2 := (HB.out.cell (World.block_lt_of_cell? w _ hx275_2)).trans hx275_2
         replace hx275_3 := (HB.out.cell (World.block_lt_of_cell? w _ hx275_3)).trans hx275_3
         replace hx275_4 := (HB.out.cell (World.block_lt_of_cell? w _ hx275_4)).trans hx275_4
         have HR275_2 := Aside0.mk hi275_2
         have HC275_2 := Aside0.mk hl275_2
         clear hi275_2 hl275_2
         have HR275_3 := Aside0.mk hi275_3
         have HC275_3 := Aside0.mk hl275_3
         clear hi275_3 hl275_3
         have HR275_4 := Aside0.mk hi275_4
         have HC275_4 := Aside0.mk hl275_4
         clear hi275_4 hl275_4
         replace p275 := eq_true p275
         replace q275 := eq_true q275
         have ea_ := Option.some.inj (hx273_2.symm.trans hx275_2)
         injection ea_ with ea_ en_ ec_
         subst ea_
         subst ec_
         clear en_
         have ea_ := Option.some.inj (hx273_3.symm.trans hx275_3)
         injection ea_ with ea_ en_ ec_
         subst ea_
         subst ec_
         clear en_
         have ea_ := Option.some.inj (hx273_4.symm.trans hx275_4)
         injection ea_ with ea_ en_ ec_
         subst ea_
         subst ec_
         clear en_
         refine start_ (n := 30) (S := fun w' => w'.cell? (ad270.add ((x3_1).toNat * 5)) = some (.int .i64 ((rd_T52 l0 x3_1).f0)) ∧ w'.cell? ⟨(ad270.add ((x3_1).toNat * 5)).block, (ad270.add ((x3_1).toNat * 5)).off + 1, none⟩ = some (.int .i64 ((rd_T52 l0 x3_1).f1)) ∧ w'.cell? ⟨(ad270.add ((x3_1).toNat * 5)).block, (ad270.add ((x3_1).toNat * 5)).off + 2, none⟩ = some (.slice A270_2 ((rd_T52 l0 x3_1).f2).length c270_2) ∧ w'.cell? ⟨(ad270.add ((x3_1).toNat * 5)).block, (ad270.add ((x3_1).toNat * 5)).off + 3, none⟩ = some (.slice A270_3 ((rd_T52 l0 x3_1).f3).length c270_3) ∧ w'.cell? ⟨(ad270.add ((x3_1).toNat * 5)).block, (ad270.add ((x3_1).toNat * 5)).off + 4, none⟩ = some (.slice A270_4 ((rd_T52 l0 x3_1).f4).length c270_4) ∧ w'.cell? (ad270.add ((x3_1).toNat * 5)) = some (.int .i64 ((rd_T52 l0 x3_1).f0)) ∧ w'.cell? ⟨(ad270.add ((x3_1).toNat * 5)).block, (ad270.add ((x3_1).toNat * 5)).off + 1, none⟩ = some (.int .i64 ((rd_T52 l0 x3_1).f1)) ∧ w'.cell? ⟨(ad270.add ((x3_1).toNat * 5)).block, (ad270.add ((x3_1).toNat * 5)).off + 2, none⟩ = some (.slice A272_2 ((rd_T52 l0 x3_1).f2).length c272_2) ∧ w'.cell? ⟨(ad270.add ((x3_1).toNat * 5)).block, (ad270.add ((x3_1).toNat * 5)).off + 3, none⟩ = some (.slice A272_3 ((rd_T52 l0 x3_1).f3).length c272_3) ∧ w'.cell? ⟨(ad270.add ((x3_1).toNat * 5)).block, (ad270.add ((x3_1).toNat * 5)).off + 4, none⟩ = some (.slice A272_4 ((rd_T52 l0 x3_1).f4).length c272_4) ∧ w'.cell? ad270 = some (.int .i64 ((rd_T52 l0 0).f0)) ∧ w'.cell? ⟨ad270.block, ad270.off + 1, none⟩ = some (.int .i64 ((rd_T52 l0 0).f1)) ∧ w'.cell? ⟨ad270.block, ad270.off + 2, none⟩ = some (.slice A273_2 ((rd_T52 l0 0).f2).length c273_2) ∧ w'.cell? ⟨ad270.block, ad270.off + 3, none⟩ = some (.slice A273_3 ((rd_T52 l0 0).f3).length c273_3) ∧ w'.cell? ⟨ad270.block, ad270.off + 4, none⟩ = some (.slice A273_4 ((rd_T52 l0 0).f4).length c273_4) ∧ w'.cell? (ad270.add ((x3_1).toNat * 5)) = some (.int .i64 ((rd_T52 l0 x3_1).f0)) ∧ w'.cell? ⟨(ad270.add ((x3_1).toNat * 5)).block, (ad270.add ((x3_1).toNat * 5)).off + 1, none⟩ = some (.int .i64 ((rd_T52 l0 x3_1).f1)) ∧ w'.cell? ⟨(ad270.add ((x3_1).toNat * 5)).block, (ad270.add ((x3_1).toNat * 5)).off + 2, none⟩ = some (.slice A272_2 ((rd_T52 l0 x3_1).f2).length c272_2) ∧ w'.cell? ⟨(ad270.add ((x3_1).toNat * 5)).block, (ad270.add ((x3_1).toNat * 5)).off + 3, none⟩ = some (.slice A272_3 ((rd_T52 l0 x3_1).f3).length c272_3) ∧ w'.cell? ⟨(ad270.add ((x3_1).toNat * 5)).block, (ad270.add ((x3_1).toNat * 5)).off + 4, none⟩ = some (.slice A272_4 ((rd_T52 l0 x3_1).f4).length c272_4) ∧ w'.cell? ad270 = some (.int .i64 ((rd_T52 l0 0).f0)) ∧ w'.cell? ⟨ad270.block, ad270.off + 1, none⟩ = some (.int .i64 ((rd_T52 l0 0).f1)) ∧ w'.cell? ⟨ad270.block, ad270.off + 2, none⟩ = some (.slice A273_2 ((rd_T52 l0 0).f2).length c273_2) ∧ w'.cell? ⟨ad270.block, ad270.off + 3, none⟩ = some (.slice A273_3 ((rd_T52 l0 0).f3).length c273_3) ∧ w'.cell? ⟨ad270.block, ad270.off + 4, none⟩ = some (.slice A273_4 ((rd_T52 l0 0).f4).length c273_4)) (ds := []) #[false, false, false, false, false, false, false, false, false, false, false, false, false, false, false, false, false, false, false, false, false, false, false, false, false, false, false, false, false, false] (by kernel_rfl) rfl rfl ⟨((HB.out.cell (World.block_lt_of_cell? w _ hw270_0)).trans hw270_0), ((HB.out.cell (World.block_lt_of_cell? w _ hw270_1)).trans hw270_1), ((HB.out.cell (World.block_lt_of_cell? w _ hw270_2)).trans hw270_2), ((HB.out.cell (World.block_lt_of_cell? w _ hw270_3)).trans hw270_3), ((HB.out.cell (World.block_lt_of_cell? w _ hw270_4)).trans hw270_4), ((HB.out.cell (World.block_lt_of_cell? w _ hw272_0)).trans hw272_0), ((HB.out.cell (World.block_lt_of_cell? w _ hw272_1)).trans hw272_1), ((HB.out.cell (World.block_lt_of_cell? w _ hw272_2)).trans hw272_2), ((HB.out.cell (World.block_lt_of_cell? w _ hw272_3)).trans hw272_3), ((HB.out.cell (World.block_lt_of_cell? w _ hw272_4)).trans hw272_4), ((HB.out.cell (World.block_lt_of_cell? w _ hw273_0)).trans hw273_0), ((HB.out.cell (World.block_lt_of_cell? w _ hw273_1)).trans hw273_1), ((HB.out.cell (World.block_lt_of_cell? w _ hw273_2)).trans hw273_2), ((HB.out.cell (World.block_lt_of_cell? w _ hw273_3)).trans hw273_3), ((HB.out.cell (World.block_lt_of_cell? w _ hw273_4)).trans hw273_4), ((HB.out.cell (World.block_lt_of_cell? w _ hw274_0)).trans hw274_0), ((HB.out.cell (World.block_lt_of_cell? w _ hw274_1)).trans hw274_1), ((HB.out.cell (World.block_lt_of_cell? w _ hw274_2)).trans hw274_2), ((HB.out.cell (World.block_lt_of_cell? w _ hw274_3)).trans hw274_3), ((HB.out.cell (World.block_lt_of_cell? w _ hw274_4)).trans hw274_4), ((HB.out.cell (World.block_lt_of_cell? w _ hw275_0)).trans hw275_0), ((HB.out.cell (World.block_lt_of_cell? w _ hw275_1)).trans hw275_1), ((HB.out.cell (World.block_lt_of_cell? w _ hw275_2)).trans hw275_2), ((HB.out.cell (World.block_lt_of_cell? w _ hw275_3)).trans hw275_3), ((HB.out.cell (World.block_lt_of_cell? w _ hw275_4)).trans hw275_4)⟩ (fun hHeld => ?_); refine with_tabW cutroomref20_Alike.tab4 cutroomref20_Alike.bits4 (fun HT_ HW_ => ?_)
         generalize wr.drew = w9 at HB HR270_2 HR270_3 HR270_4 HR272_2 HR272_3 HR272_4 HR273_2 HR273_3 HR273_4 HR274_2 HR274_3 HR274_4 HR275_2 HR275_3 HR275_4 hx270_0 hx270_1 hx270_2 hx270_3 hx270_4 hx272_0 hx272_1 hx272_2 hx272_3 hx272_4 hx273_0 hx273_1 hx273_2 hx273_3 hx273_4 hx274_0 hx274_1 hx274_2 hx274_3 hx274_4 hx275_0 hx275_1 hx275_2 hx275_3 hx275_4 hHeld ⊢
         refine Abb.pS 0 10 #[T', F', F', F', F', F', F', F', F', F', F', F', F', F', F', F', F', F', F', F', F', F', F', F', F', F', F', F', F', F'] HT_ ?_
         refine Abb.pS 1 11 #[T', T', F', F', F', F', F', F', F', F', F', F', F', F', F', F', F', F', F', F', F', F', F', F', F', F', F', F', F', F'] HT_ ?_
         refine Abb.pS 2 12 #[T', T', T', F', F', F', F', F', F', F', F', F', F', F', F', F', F', F', F', F', F', F', F', F', F', F', F', F', F', F'] HT_ ?_
         refine Abb.pT 3 13 #[T', T', T', T', F', F', F', F', F', F', F', F', F', F', F', F', F', F', F', F', F', F', F', F', F', F', F', F', F', F'] HT_ HW_ hHeld ?_
         refine one_ (i := 4) (N := some 14) #[T', T', T', T', T', F', F', F', F', F', F', F', F', F', F', F', F', F', F', F', F', F', F', F', F', F', F', F', F', F'] rfl rfl (one_of HT_.out (by kernel_rfl)) (by decide) (fun K hK => ?_)
         refine goes_ Try.func73 (by kernel_rfl) rfl #[.agg #[.int .i64 ((rd_T52 l0 x3_1).f0), .int .i64 ((rd_T52 l0 x3_1).f1), .slice A270_2 ((rd_T52 l0 x3_1).f2).length c270_2, .slice A270_3 ((rd_T52 l0 x3_1).f3).length c270_3, .slice A270_4 ((rd_T52 l0 x3_1).f4).length c270_4]] (by rfl) rfl rfl (by (try simp only [List.map_toArray, List.map_cons, List.map_nil]); first | done | rfl | (simp only [List.length_drop, List.length_take]; rfl)) ?_
         with_reducible refine (cutroomref20_Valid.calls ((rd_T52 l0 x3_1).f0) ((rd_T52 l0 x3_1).f1) _ _ ((rd_T52 l0 x3_1).f2) _ _ ((rd_T52 l0 x3_1).f3) _ _ ((rd_T52 l0 x3_1).f4) true _ ?side1 ?side2 ?side3 ?side4 ?side5 ?side6 A4.out).mono ?_
         (case side1 => repeat (first | exact (Kd.C_below HR270_2.out HB.out) | (with_reducible refine Kd.C_alloc ?_ _) | (with_reducible refine Kd.C_drewN ?_ _) | (with_reducible refine Kd.C_drew ?_)))
         (case side2 => exact HC270_2.out)
         (case side3 => repeat (first | exact (Kd.C_below HR270_3.out HB.out) | (with_reducible refine Kd.C_alloc ?_ _) | (with_reducible refine Kd.C_drewN ?_ _) | (with_reducible refine Kd.C_drew ?_)))
         (case side4 => exact HC270_3.out)
         (case side5 => repeat (first | exact (Kd.C_below HR270_4.out HB.out) | (with_reducible refine Kd.C_alloc ?_ _) | (with_reducible refine Kd.C_drewN ?_ _) | (with_reducible refine Kd.C_drew ?_)))
         (case side6 => exact HC270_4.out)
         rintro e w10 ⟨rfl, hb⟩
         refine ⟨_, rfl, ?_⟩
         have n0_ := Aside0.mk (zT (by repeat (first | (with_reducible first | exact HB.out | apply zA | apply zN | apply zD) | exact HB.out)) hb)
         clear HB
         have HB := n0_
         clear n0_
         (try clear hb)
         (try clear hb2)
         (try clear hk)
         (try clear hi)
         refine hK.out _ _ ⟨((HB.out.cell (World.block_lt_of_cell? w _ hw270_0)).trans hw270_0), ((HB.out.cell (World.block_lt_of_cell? w _ hw270_1)).trans hw270_1), ((HB.out.cell (World.block_lt_of_cell? w _ hw270_2)).trans hw270_2), ((HB.out.cell (World.block_lt_of_cell? w _ hw270_3)).trans hw270_3), ((HB.out.cell (World.block_lt_of_cell? w _ hw270_4)).trans hw270_4), ((HB.out.cell (World.block_lt_of_cell? w _ hw272_0)).trans hw272_0), ((HB.out.cell (World.block_lt_of_cell? w _ hw272_1)).trans hw272_1), ((HB.out.cell (World.block_lt_of_cell? w _ hw272_2)).trans hw272_2), ((HB.out.cell (World.block_lt_of_cell? w _ hw272_3)).trans hw272_3), ((HB.out.cell (World.block_lt_of_cell? w _ hw272_4)).trans hw272_4), ((HB.out.cell (World.block_lt_of_cell? w _ hw273_0)).trans hw273_0), ((HB.out.cell (World.block_lt_of_cell? w _ hw273_1)).trans hw273_1), ((HB.out.cell (World.block_lt_of_cell? w _ hw273_2)).trans hw273_2), ((HB.out.cell (World.block_lt_of_cell? w _ hw273_3)).trans hw273_3), ((HB.out.cell (World.block_lt_of_cell? w _ hw273_4)).trans hw273_4), ((HB.out.cell (World.block_lt_of_cell? w _ hw274_0)).trans hw274_0), ((HB.out.cell (World.block_lt_of_cell? w _ hw274_1)).trans hw274_1), ((HB.out.cell (World.block_lt_of_cell? w _ hw274_2)).trans hw274_2), ((HB.out.cell (World.block_lt_of_cell? w _ hw274_3)).trans hw274_3), ((HB.out.cell (World.block_lt_of_cell? w _ hw274_4)).trans hw274_4), ((HB.out.cell (World.block_lt_of_cell? w _ hw275_0)).trans hw275_0), ((HB.out.cell (World.block_lt_of_cell? w _ hw275_1)).trans hw275_1), ((HB.out.cell (World.block_lt_of_cell? w _ hw275_2)).trans hw275_2), ((HB.out.cell (World.block_lt_of_cell? w _ hw275_3)).trans hw275_3), ((HB.out.cell (World.block_lt_of_cell? w _ hw275_4)).trans hw275_4)⟩ (fun hHeld => ?_)
         clear hK K
         refine norm_ (a' := ?_) ?_ ?_
         rotate_left
         ·show Act.put _ (some 14) _ = _
          simp only [Act.put, sA, sZ, sS, i64_w, i32_w]
          rfl
         refine Abb.pS 5 15 #[T', T', T', T', T', T', F', F', F', F', F', F', F', F', F', F', F', F', F', F', F', F', F', F', F', F', F', F', F', F'] HT_ ?_
         refine Abb.pS 6 16 #[T', T', T', T', T', T', T', F', F', F', F', F', F', F', F', F', F', F', F', F', F', F', F', F', F', F', F', F', F', F'] HT_ ?_
         refine Abb.pS 7 17 #[T', T', T', T', T', T', T', T', F', F', F', F', F', F', F', F', F', F', F', F', F', F', F', F', F', F', F', F', F', F'] HT_ ?_
         refine Abb.pS 8 18 #[T', T', T', T', T', T', T', T', T', F', F', F', F', F', F', F', F', F', F', F', F', F', F', F', F', F', F', F', F', F'] HT_ ?_
         refine Abb.pS 9 19 #[T', T', T', T', T', T', T', T', T', T', F', F', F', F', F', F', F', F', F', F', F', F', F', F', F', F', F', F', F', F'] HT_ ?_
         refine Abb.pS 10 20 #[T', T', T', T', T', T', T', T', T', T', T', F', F', F', F', F', F', F', F', F', F', F', F', F', F', F', F', F', F', F'] HT_ ?_
         refine Abb.pS 12 22 #[T', T', T', T', T', T', T', T', T', T', T', F', T', F', F', F', F', F', F', F', F', F', F', F', F', F', F', F', F', F'] HT_ ?_
         refine Abb.pS 13 23 #[T', T', T', T', T', T', T', T', T', T', T', F', T', T', F', F', F', F', F', F', F', F', F', F', F', F', F', F', F', F'] HT_ ?_
         refine Abb.pS 14 24 #[T', T', T', T', T', T', T', T', T', T', T', F', T', T', T', F', F', F', F', F', F', F', F', F', F', F', F', F', F', F'] HT_ ?_
         refine Abb.pT 11 21 #[T', T', T', T', T', T', T', T', T', T', T', T', T', T', T', F', F', F', F', F', F', F', F', F', F', F', F', F', F', F'] HT_ HW_ hHeld ?_
         refine Abb.pT 15 25 #[T', T', T', T', T', T', T', T', T', T', T', T', T', T', T', T', F', F', F', F', F', F', F', F', F', F', F', F', F', F'] HT_ HW_ hHeld ?_
         refine Abb.pS 16 26 #[T', T', T', T', T', T', T', T', T', T', T', T', T', T', T', T', T', F', F', F', F', F', F', F', F', F', F', F', F', F'] HT_ ?_
         refine Abb.pS 17 27 #[T', T', T', T', T', T', T', T', T', T', T', T', T', T', T', T', T', T', F', F', F', F', F', F', F', F', F', F', F', F'] HT_ ?_
         refine Abb.pS 18 28 #[T', T', T', T', T', T', T', T', T', T', T', T', T', T', T', T', T', T', T', F', F', F', F', F', F', F', F', F', F', F'] HT_ ?_
         refine Abb.pS 19 29 #[T', T', T', T', T', T', T', T', T', T', T', T', T', T', T', T', T', T', T', T', F', F', F', F', F', F', F', F', F', F'] HT_ ?_
         refine Abb.pS 20 30 #[T', T', T', T', T', T', T', T', T', T', T', T', T', T', T', T', T', T', T', T', T', F', F', F', F', F', F', F', F', F'] HT_ ?_
         refine Abb.pS 21 31 #[T', T', T', T', T', T', T', T', T', T', T', T', T', T', T', T', T', T', T', T', T', T', F', F', F', F', F', F', F', F'] HT_ ?_
         refine Abb.pS 22 32 #[T', T', T', T', T', T', T', T', T', T', T', T', T', T', T', T', T', T', T', T', T', T', T', F', F', F', F', F', F', F'] HT_ ?_
         refine Abb.pS 24 34 #[T', T', T', T', T', T', T', T', T', T', T', T', T', T', T', T', T', T', T', T', T', T', T', F', T', F', F', F', F', F'] HT_ ?_
         refine Abb.pS 25 35 #[T', T', T', T', T', T', T', T', T', T', T', T', T', T', T', T', T', T', T', T', T', T', T', F', T', T', F', F', F', F'] HT_ ?_
         refine Abb.pS 26 36 #[T', T', T', T', T', T', T', T', T', T', T', T', T', T', T', T', T', T', T', T', T', T', T', F', T', T', T', F', F', F'] HT_ ?_
         refine Abb.pT 23 33 #[T', T', T', T', T', T', T', T', T', T', T', T', T', T', T', T', T', T', T', T', T', T', T', T', T', T', T', F', F', F'] HT_ HW_ hHeld ?_
         refine Abb.pT 27 37 #[T', T', T', T', T', T', T', T', T', T', T', T', T', T', T', T', T', T', T', T', T', T', T', T', T', T', T', T', F', F'] HT_ HW_ hHeld ?_
         refine Abb.pS 28 38 #[T', T', T', T', T', T', T', T', T', T', T', T', T', T', T', T', T', T', T', T', T', T', T', T', T', T', T', T', T', F'] HT_ ?_
         refine Abb.pS 29 39 #[T', T', T', T', T', T', T', T', T', T', T', T', T', T', T', T', T', T', T', T', T', T', T', T', T', T', T', T', T', T'] HT_ ?_
         refine done_ (done_of HT_.out (by kernel_rfl)) ?_
         try go_wp2
         go_roundg k1
         case measure => have := HK1.out; omega
         case rel => exact ⟨(wrap64 (x3_1 + 1)), (by first | rfl | (simp; done) | (simp [*]; done)), H', ⟨by have := HK1.out; omega⟩, ⟨by repeat (first | (with_reducible first | exact HB.out | apply zA | apply zN | apply zD) | exact HB.out)⟩⟩
        ·rw [if_neg c8] at H
         have c8b0 : (((rd_T52 l0 x3_1).f1) == ((rd_T52 l0 0).f1)) = false := beq_eq_false_iff_ne.mpr c8
         have c8b1 : (((rd_T52 l0 x3_1).f1) != ((rd_T52 l0 0).f1)) = true := bne_iff_ne.mpr c8
         obtain rfl := Option.some.inj H
         try go_wp2
         have n0_ := Aside0.mk (zD HB.out)
         clear HB
         have HB := n0_
         clear n0_
         have p270 : 0 ≤ (x3_1 : Int) := of_decide_eq_true (by first | (with_reducible assumption) | assumption)
         have q270 : x3_1 < (l0.length : Int) := of_decide_eq_true (by first | (with_reducible assumption) | assumption)
         obtain ⟨ad270, A270_2, c270_2, A270_3, c270_3, A270_4, c270_4, e270, hx270_0, hx270_1, hx270_2, hx270_3, hx270_4, hl270_2, hi270_2, hl270_3, hi270_3, hl270_4, hi270_4⟩ := at_T52 HR0.out x3_1 p270 q270
         have hw270_4 := hx270_4
         have hw270_3 := hx270_3
         have hw270_2 := hx270_2
         have hw270_1 := hx270_1
         have hw270_0 := hx270_0
         cases e270
         replace hx270_0 := (HB.out.cell (World.block_lt_of_cell? w _ hx270_0)).trans hx270_0
         replace hx270_1 := (HB.out.cell (World.block_lt_of_cell? w _ hx270_1)).trans hx270_1
         replace hx270_2 := (HB.out.cell (World.block_lt_of_cell? w _ hx270_2)).trans hx270_2
         replace hx270_3 := (HB.out.cell (World.block_lt_of_cell? w _ hx270_3)).trans hx270_3
         replace hx270_4 := (HB.out.cell (World.block_lt_of_cell? w _ hx270_4)).trans hx270_4
         have HR270_2 := Aside0.mk hi270_2
         have HC270_2 := Aside0.mk hl270_2
         clear hi270_2 hl270_2
         have HR270_3 := Aside0.mk hi270_3
         have HC270_3 := Aside0.mk hl270_3
         clear hi270_3 hl270_3
         have HR270_4 := Aside0.mk hi270_4
         have HC270_4 := Aside0.mk hl270_4
         clear hi270_4 hl270_4
         replace p270 := eq_true p270
         replace q270 := eq_true q270
         have p272 : 0 ≤ (x3_1 : Int) := of_decide_eq_true (by first | (with_reducible assumption) | assumption)
         have q272 : x3_1 < (l0.length : Int) := of_decide_eq_true (by first | (with_reducible assumption) | assumption)
         obtain ⟨ad272, A272_2, c272_2, A272_3, c272_3, A272_4, c272_4, e272, hx272_0, hx272_1, hx272_2, hx272_3, hx272_4, hl272_2, hi272_2, hl272_3, hi272_3, hl272_4, hi272_4⟩ := at_T52 HR0.out x3_1 p272 q272
         have hw272_4 := hx272_4
         have hw272_3 := hx272_3
         have hw272_2 := hx272_2
         have hw272_1 := hx272_1
         have hw272_0 := hx272_0
         obtain rfl : ad270 = ad272 := (by injection e272)
         replace hx272_0 := (HB.out.cell (World.block_lt_of_cell? w _ hx272_0)).trans hx272_0
         replace hx272_1 := (HB.out.cell (World.block_lt_of_cell? w _ hx272_1)).trans hx272_1
         replace hx272_2 := (HB.out.cell (World.block_lt_of_cell? w _ hx272_2)).trans hx272_2
         replace hx272_3 := (HB.out.cell (World.block_lt_of_cell? w _ hx272_3)).trans hx272_3
         replace hx272_4 := (HB.out.cell (World.block_lt_of_cell? w _ hx272_4)).trans hx272_4
         have HR272_2 := Aside0.mk hi272_2
         have HC272_2 := Aside0.mk hl272_2
         clear hi272_2 hl272_2
         have HR272_3 := Aside0.mk hi272_3
         have HC272_3 := Aside0.mk hl272_3
         clear hi272_3 hl272_3
         have HR272_4 := Aside0.mk hi272_4
         have HC272_4 := Aside0.mk hl272_4
         clear hi272_4 hl272_4
         replace p272 := eq_true p272
         replace q272 := eq_true q272
         have p273 : 0 ≤ (0 : Int) := (by omega)
         have q273 : 0 < (l0.length : Int) := of_decide_eq_true (by first | (with_reducible assumption) | assumption)
         obtain ⟨ad273, A273_2, c273_2, A273_3, c273_3, A273_4, c273_4, e273, hx273_0, hx273_1, hx273_2, hx273_3, hx273_4, hl273_2, hi273_2, hl273_3, hi273_3, hl273_4, hi273_4⟩ := at_T52 HR0.out 0 p273 q273
         have hw273_4 := hx273_4
         (try rw [show ((0 : Int)).toNat = 0 from rfl] at hw273_4)
         (try rw [show 0 * 5 = 0 from rfl] at hw273_4)
         (try rw [Addr.add_zero'] at hw273_4)
         have hw273_3 := hx273_3
         (try rw [show ((0 : Int)).toNat = 0 from rfl] at hw273_3)
         (try rw [show 0 * 5 = 0 from rfl] at hw273_3)
         (try rw [Addr.add_zero'] at hw273_3)
         have hw273_2 := hx273_2
         (try rw [show ((0 : Int)).toNat = 0 from rfl] at hw273_2)
         (try rw [show 0 * 5 = 0 from rfl] at hw273_2)
         (try rw [Addr.add_zero'] at hw273_2)
         have hw273_1 := hx273_1
         (try rw [show ((0 : Int)).toNat = 0 from rfl] at hw273_1)
         (try rw [show 0 * 5 = 0 from rfl] at hw273_1)
         (try rw [Addr.add_zero'] at hw273_1)
         have hw273_0 := hx273_0
         (try rw [show ((0 : Int)).toNat = 0 from rfl] at hw273_0)
         (try rw [show 0 * 5 = 0 from rfl] at hw273_0)
         (try rw [Addr.add_zero'] at hw273_0)
         obtain rfl : ad270 = ad273 := (by injection e273)
         have qi273 : (0 < l0.length) = True := eq_true (by omega)
         (try rw [show ((0 : Int)).toNat = 0 from rfl] at hx273_0)
         (try rw [show 0 * 5 = 0 from rfl] at hx273_0)
         (try rw [Addr.add_zero'] at hx273_0)
         (try rw [show ((0 : Int)).toNat = 0 from rfl] at hx273_1)
         (try rw [show 0 * 5 = 0 from rfl] at hx273_1)
         (try rw [Addr.add_zero'] at hx273_1)
         (try rw [show ((0 : Int)).toNat = 0 from rfl] at hx273_2)
         (try rw [show 0 * 5 = 0 from rfl] at hx273_2)
         (try rw [Addr.add_zero'] at hx273_2)
         (try rw [show ((0 : Int)).toNat = 0 from rfl] at hx273_3)
         (try rw [show 0 * 5 = 0 from rfl] at hx273_3)
         (try rw [Addr.add_zero'] at hx273_3)
         (try rw [show ((0 : Int)).toNat = 0 from rfl] at hx273_4)
         (try rw [show 0 * 5 = 0 from rfl] at hx273_4)
         (try rw [Addr.add_zero'] at hx273_4)
         replace hx273_0 := (HB.out.cell (World.block_lt_of_cell? w _ hx273_0)).trans hx273_0
         replace hx273_1 := (HB.out.cell (World.block_lt_of_cell? w _ hx273_1)).trans hx273_1
         replace hx273_2 := (HB.out.cell (World.block_lt_of_cell? w _ hx273_2)).trans hx273_2
         replace hx273_3 := (HB.out.cell (World.block_lt_of_cell? w _ hx273_3)).trans hx273_3
         replace hx273_4 := (HB.out.cell (World.block_lt_of_cell? w _ hx273_4)).trans hx273_4
         have HR273_2 := Aside0.mk hi273_2
         have HC273_2 := Aside0.mk hl273_2
         clear hi273_2 hl273_2
         have HR273_3 := Aside0.mk hi273_3
         have HC273_3 := Aside0.mk hl273_3
         clear hi273_3 hl273_3
         have HR273_4 := Aside0.mk hi273_4
         have HC273_4 := Aside0.mk hl273_4
         clear hi273_4 hl273_4
         replace p273 := eq_true p273
         replace q273 := eq_true q273
         have p274 : 0 ≤ (x3_1 : Int) := of_decide_eq_true (by first | (with_reducible assumption) | assumption)
         have q274 : x3_1 < (l0.length : Int) := of_decide_eq_true (by first | (with_reducible assumption) | assumption)
         obtain ⟨ad274, A274_2, c274_2, A274_3, c274_3, A274_4, c274_4, e274, hx274_0, hx274_1, hx274_2, hx274_3, hx274_4, hl274_2, hi274_2, hl274_3, hi274_3, hl274_4, hi274_4⟩ := at_T52 HR0.out x3_1 p274 q274
         have hw274_4 := hx274_4
         have hw274_3 := hx274_3
         have hw274_2 := hx274_2
         have hw274_1 := hx274_1
         have hw274_0 := hx274_0
         obtain rfl : ad270 = ad274 := (by injection e274)
         replace hx274_0 := (HB.out.cell (World.block_lt_of_cell? w _ hx274_0)).trans hx274_0
         replace hx274_1 := (HB.out.cell (World.block_lt_of_cell? w _ hx274_1)).trans hx274_1
         replace hx274_2 := (HB.out.cell (World.block_lt_of_cell? w _ hx274_2)).trans hx274_2
         replace hx274_3 := (HB.out.cell (World.block_lt_of_cell? w _ hx274_3)).trans hx274_3
         replace hx274_4 := (HB.out.cell (World.block_lt_of_cell? w _ hx274_4)).trans hx274_4
         have HR274_2 := Aside0.mk hi274_2
         have HC274_2 := Aside0.mk hl274_2
         clear hi274_2 hl274_2
         have HR274_3 := Aside0.mk hi274_3
         have HC274_3 := Aside0.mk hl274_3
         clear hi274_3 hl274_3
         have HR274_4 := Aside0.mk hi274_4
         have HC274_4 := Aside0.mk hl274_4
         clear hi274_4 hl274_4
         replace p274 := eq_true p274
         replace q274 := eq_true q274
         have ea_ := Option.some.inj (hx272_2.symm.trans hx274_2)
         injection ea_ with ea_ en_ ec_
         subst ea_
         subst ec_
         clear en_
         have ea_ := Option.some.inj (hx272_3.symm.trans hx274_3)
         injection ea_ with ea_ en_ ec_
         subst ea_
         subst ec_
         clear en_
         have ea_ := Option.some.inj (hx272_4.symm.trans hx274_4)
         injection ea_ with ea_ en_ ec_
         subst ea_
         subst ec_
         clear en_
         have p275 : 0 ≤ (0 : Int) := (by omega)
         have q275 : 0 < (l0.length : Int) := of_decide_eq_true (by first | (with_reducible assumption) | assumption)
         obtain ⟨ad275, A275_2, c275_2, A275_3, c275_3, A275_4, c275_4, e275, hx275_0, hx275_1, hx275_2, hx275_3, hx275_4, hl275_2, hi275_2, hl275_3, hi275_3, hl275_4, hi275_4⟩ := at_T52 HR0.out 0 p275 q275
         have hw275_4 := hx275_4
         (try rw [show ((0 : Int)).toNat = 0 from rfl] at hw275_4)
         (try rw [show 0 * 5 = 0 from rfl] at hw275_4)
         (try rw [Addr.add_zero'] at hw275_4)
         have hw275_3 := hx275_3
         (try rw [show ((0 : Int)).toNat = 0 from rfl] at hw275_3)
         (try rw [show 0 * 5 = 0 from rfl] at hw275_3)
         (try rw [Addr.add_zero'] at hw275_3)
         have hw275_2 := hx275_2
         (try rw [show ((0 : Int)).toNat = 0 from rfl] at hw275_2)
         (try rw [show 0 * 5 = 0 from rfl] at hw275_2)
         (try rw [Addr.add_zero'] at hw275_2)
         have hw275_1 := hx275_1
         (try rw [show ((0 : Int)).toNat = 0 from rfl] at hw275_1)
         (try rw [show 0 * 5 = 0 from rfl] at hw275_1)
         (try rw [Addr.add_zero'] at hw275_1)
         have hw275_0 := hx275_0
         (try rw [show ((0 : Int)).toNat = 0 from rfl] at hw275_0)
         (try rw [show 0 * 5 = 0 from rfl] at hw275_0)
         (try rw [Addr.add_zero'] at hw275_0)
         obtain rfl : ad270 = ad275 := (by injection e275)
         have qi275 : (0 < l0.length) = True := eq_true (by omega)
         (try rw [show ((0 : Int)).toNat = 0 from rfl] at hx275_0)
         (try rw [show 0 * 5 = 0 from rfl] at hx275_0)
         (try rw [Addr.add_zero'] at hx275_0)
         (try rw [show ((0 : Int)).toNat = 0 from rfl] at hx275_1)
         (try rw [show 0 * 5 = 0 from rfl] at hx275_1)
         (try rw [Addr.add_zero'] at hx275_1)
         (try rw [show ((0 : Int)).toNat = 0 from rfl] at hx275_2)
         (try rw [show 0 * 5 = 0 from rfl] at hx275_2)
         (try rw [Addr.add_zero'] at hx275_2)
         (try rw [show ((0 : Int)).toNat = 0 from rfl] at hx275_3)
         (try rw [show 0 * 5 = 0 from rfl] at hx275_3)
         (try rw [Addr.add_zero'] at hx275_3)
         (try rw [show ((0 : Int)).toNat = 0 from rfl] at hx275_4)
         (try rw [show 0 * 5 = 0 from rfl] at hx275_4)
         (try rw [Addr.add_zero'] at hx275_4)
         replace hx275_0 := (HB.out.cell (World.block_lt_of_cell? w _ hx275_0)).trans hx275_0
         replace hx275_1 := (HB.out.cell (World.block_lt_of_cell? w _ hx275_1)).trans hx275_1
         replace hx275_2 := (HB.out.cell (World.block_lt_of_cell? w _ hx275_2)).trans hx275_2
         replace hx275_3 := (HB.out.cell (World.block_lt_of_cell? w _ hx275_3)).trans hx275_3
         replace hx275_4 := (HB.out.cell (World.block_lt_of_cell? w _ hx275_4)).trans hx275_4
         have HR275_2 := Aside0.mk hi275_2
         have HC275_2 := Aside0.mk hl275_2
         clear hi275_2 hl275_2
         have HR275_3 := Aside0.mk hi275_3
         have HC275_3 := Aside0.mk hl275_3
         clear hi275_3 hl275_3
         have HR275_4 := Aside0.mk hi275_4
         have HC275_4 := Aside0.mk hl275_4
         clear hi275_4 hl275_4
         replace p275 := eq_true p275
         replace q275 := eq_true q275
         have ea_ := Option.some.inj (hx273_2.symm.trans hx275_2)
         injection ea_ with ea_ en_ ec_
         subst ea_
         subst ec_
         clear en_
         have ea_ := Option.some.inj (hx273_3.symm.trans hx275_3)
         injection ea_ with ea_ en_ ec_
         subst ea_
         subst ec_
         clear en_
         have ea_ := Option.some.inj (hx273_4.symm.trans hx275_4)
         injection ea_ with ea_ en_ ec_
         subst ea_
         subst ec_
         clear en_
         refine start_ (n := 30) (S := fun w' => w'.cell? (ad270.add ((x3_1).toNat * 5)) = some (.int .i64 ((rd_T52 l0 x3_1).f0)) ∧ w'.cell? ⟨(ad270.add ((x3_1).toNat * 5)).block, (ad270.add ((x3_1).toNat * 5)).off + 1, none⟩ = some (.int .i64 ((rd_T52 l0 x3_1).f1)) ∧ w'.cell? ⟨(ad270.add ((x3_1).toNat * 5)).block, (ad270.add ((x3_1).toNat * 5)).off + 2, none⟩ = some (.slice A270_2 ((rd_T52 l0 x3_1).f2).length c270_2) ∧ w'.cell? ⟨(ad270.add ((x3_1).toNat * 5)).block, (ad270.add ((x3_1).toNat * 5)).off + 3, none⟩ = some (.slice A270_3 ((rd_T52 l0 x3_1).f3).length c270_3) ∧ w'.cell? ⟨(ad270.add ((x3_1).toNat * 5)).block, (ad270.add ((x3_1).toNat * 5)).off + 4, none⟩ = some (.slice A270_4 ((rd_T52 l0 x3_1).f4).length c270_4) ∧ w'.cell? (ad270.add ((x3_1).toNat * 5)) = some (.int .i64 ((rd_T52 l0 x3_1).f0)) ∧ w'.cell? ⟨(ad270.add ((x3_1).toNat * 5)).block, (ad270.add ((x3_1).toNat * 5)).off + 1, none⟩ = some (.int .i64 ((rd_T52 l0 x3_1).f1)) ∧ w'.cell? ⟨(ad270.add ((x3_1).toNat * 5)).block, (ad270.add ((x3_1).toNat * 5)).off + 2, none⟩ = some (.slice A272_2 ((rd_T52 l0 x3_1).f2).length c272_2) ∧ w'.cell? ⟨(ad270.add ((x3_1).toNat * 5)).block, (ad270.add ((x3_1).toNat * 5)).off + 3, none⟩ = some (.slice A272_3 ((rd_T52 l0 x3_1).f3).length c272_3) ∧ w'.cell? ⟨(ad270.add ((x3_1).toNat * 5)).block, (ad270.add ((x3_1).toNat * 5)).off + 4, none⟩ = some (.slice A272_4 ((rd_T52 l0 x3_1).f4).length c272_4) ∧ w'.cell? ad270 = some (.int .i64 ((rd_T52 l0 0).f0)) ∧ w'.cell? ⟨ad270.block, ad270.off + 1, none⟩ = some (.int .i64 ((rd_T52 l0 0).f1)) ∧ w'.cell? ⟨ad270.block, ad270.off + 2, none⟩ = some (.slice A273_2 ((rd_T52 l0 0).f2).length c273_2) ∧ w'.cell? ⟨ad270.block, ad270.off + 3, none⟩ = some (.slice A273_3 ((rd_T52 l0 0).f3).length c273_3) ∧ w'.cell? ⟨ad270.block, ad270.off + 4, none⟩ = some (.slice A273_4 ((rd_T52 l0 0).f4).length c273_4) ∧ w'.cell? (ad270.add ((x3_1).toNat * 5)) = some (.int .i64 ((rd_T52 l0 x3_1).f0)) ∧ w'.cell? ⟨(ad270.add ((x3_1).toNat * 5)).block, (ad270.add ((x3_1).toNat * 5)).off + 1, none⟩ = some (.int .i64 ((rd_T52 l0 x3_1).f1)) ∧ w'.cell? ⟨(ad270.add ((x3_1).toNat * 5)).block, (ad270.add ((x3_1).toNat * 5)).off + 2, none⟩ = some (.slice A272_2 ((rd_T52 l0 x3_1).f2).length c272_2) ∧ w'.cell? ⟨(ad270.add ((x3_1).toNat * 5)).block, (ad270.add ((x3_1).toNat * 5)).off + 3, none⟩ = some (.slice A272_3 ((rd_T52 l0 x3_1).f3).length c272_3) ∧ w'.cell? ⟨(ad270.add ((x3_1).toNat * 5)).block, (ad270.add ((x3_1).toNat * 5)).off + 4, none⟩ = some (.slice A272_4 ((rd_T52 l0 x3_1).f4).length c272_4) ∧ w'.cell? ad270 = some (.int .i64 ((rd_T52 l0 0).f0)) ∧ w'.cell? ⟨ad270.block, ad270.off + 1, none⟩ = some (.int .i64 ((rd_T52 l0 0).f1)) ∧ w'.cell? ⟨ad270.block, ad270.off + 2, none⟩ = some (.slice A273_2 ((rd_T52 l0 0).f2).length c273_2) ∧ w'.cell? ⟨ad270.block, ad270.off + 3, none⟩ = some (.slice A273_3 ((rd_T52 l0 0).f3).length c273_3) ∧ w'.cell? ⟨ad270.block, ad270.off + 4, none⟩ = some (.slice A273_4 ((rd_T52 l0 0).f4).length c273_4)) (ds := []) #[false, false, false, false, false, false, false, false, false, false, false, false, false, false, false, false, false, false, false, false, false, false, false, false, false, false, false, false, false, false] (by kernel_rfl) rfl rfl ⟨((HB.out.cell (World.block_lt_of_cell? w _ hw270_0)).trans hw270_0), ((HB.out.cell (World.block_lt_of_cell? w _ hw270_1)).trans hw270_1), ((HB.out.cell (World.block_lt_of_cell? w _ hw270_2)).trans hw270_2), ((HB.out.cell (World.block_lt_of_cell? w _ hw270_3)).trans hw270_3), ((HB.out.cell (World.block_lt_of_cell? w _ hw270_4)).trans hw270_4), ((HB.out.cell (World.block_lt_of_cell? w _ hw272_0)).trans hw272_0), ((HB.out.cell (World.block_lt_of_cell? w _ hw272_1)).trans hw272_1), ((HB.out.cell (World.block_lt_of_cell? w _ hw272_2)).trans hw272_2), ((HB.out.cell (World.block_lt_of_cell? w _ hw272_3)).trans hw272_3), ((HB.out.cell (World.block_lt_of_cell? w _ hw272_4)).trans hw272_4), ((HB.out.cell (World.block_lt_of_cell? w _ hw273_0)).trans hw273_0), ((HB.out.cell (World.block_lt_of_cell? w _ hw273_1)).trans hw273_1), ((HB.out.cell (World.block_lt_of_cell? w _ hw273_2)).trans hw273_2), ((HB.out.cell (World.block_lt_of_cell? w _ hw273_3)).trans hw273_3), ((HB.out.cell (World.block_lt_of_cell? w _ hw273_4)).trans hw273_4), ((HB.out.cell (World.block_lt_of_cell? w _ hw274_0)).trans hw274_0), ((HB.out.cell (World.block_lt_of_cell? w _ hw274_1)).trans hw274_1), ((HB.out.cell (World.block_lt_of_cell? w _ hw274_2)).trans hw274_2), ((HB.out.cell (World.block_lt_of_cell? w _ hw274_3)).trans hw274_3), ((HB.out.cell (World.block_lt_of_cell? w _ hw274_4)).trans hw274_4), ((HB.out.cell (World.block_lt_of_cell? w _ hw275_0)).trans hw275_0), ((HB.out.cell (World.block_lt_of_cell? w _ hw275_1)).trans hw275_1), ((HB.out.cell (World.block_lt_of_cell? w _ hw275_2)).trans hw275_2), ((HB.out.cell (World.block_lt_of_cell? w _ hw275_3)).trans hw275_3), ((HB.out.cell (World.block_lt_of_cell? w _ hw275_4)).trans hw275_4)⟩ (fun hHeld => ?_); refine with_tabW cutroomref20_Alike.tab4 cutroomref20_Alike.bits4 (fun HT_ HW_ => ?_)
         generalize wr.drew = w11 at HB HR270_2 HR270_3 HR270_4 HR272_2 HR272_3 HR272_4 HR273_2 HR273_3 HR273_4 HR274_2 HR274_3 HR274_4 HR275_2 HR275_3 HR275_4 hx270_0 hx270_1 hx270_2 hx270_3 hx270_4 hx272_0 hx272_1 hx272_2 hx272_3 hx272_4 hx273_0 hx273_1 hx273_2 hx273_3 hx273_4 hx274_0 hx274_1 hx274_2 hx274_3 hx274_4 hx275_0 hx275_1 hx275_2 hx275_3 hx275_4 hHeld ⊢
         refine Abb.pS 0 10 #[T', F', F', F', F', F', F', F', F', F', F', F', F', F', F', F', F', F', F', F', F', F', F', F', F', F', F', F', F', F'] HT_ ?_
         refine Abb.pS 1 11 #[T', T', F', F', F', F', F', F', F', F', F', F', F', F', F', F', F', F', F', F', F', F', F', F', F', F', F', F', F', F'] HT_ ?_
         refine Abb.pS 2 12 #[T', T', T', F', F', F', F', F', F', F', F', F', F', F', F', F', F', F', F', F', F', F', F', F', F', F', F', F', F', F'] HT_ ?_
         refine Abb.pT 3 13 #[T', T', T', T', F', F', F', F', F', F', F', F', F', F', F', F', F', F', F', F', F', F', F', F', F', F', F', F', F', F'] HT_ HW_ hHeld ?_
         refine one_ (i := 4) (N := some 14) #[T', T', T', T', T', F', F', F', F', F', F', F', F', F', F', F', F', F', F', F', F', F', F', F', F', F', F', F', F', F'] rfl rfl (one_of HT_.out (by kernel_rfl)) (by decide) (fun K hK => ?_)
         refine goes_ Try.func73 (by kernel_rfl) rfl #[.agg #[.int .i64 ((rd_T52 l0 x3_1).f0), .int .i64 ((rd_T52 l0 x3_1).f1), .slice A270_2 ((rd_T52 l0 x3_1).f2).length c270_2, .slice A270_3 ((rd_T52 l0 x3_1).f3).length c270_3, .slice A270_4 ((rd_T52 l0 x3_1).f4).length c270_4]] (by rfl) rfl rfl (by (try simp only [List.map_toArray, List.map_cons, List.map_nil]); first | done | rfl | (simp only [List.length_drop, List.length_take]; rfl)) ?_
         with_reducible refine (cutroomref20_Valid.calls ((rd_T52 l0 x3_1).f0) ((rd_T52 l0 x3_1).f1) _ _ ((rd_T52 l0 x3_1).f2) _ _ ((rd_T52 l0 x3_1).f3) _ _ ((rd_T52 l0 x3_1).f4) true _ ?side1 ?side2 ?side3 ?side4 ?side5 ?side6 A4.out).mono ?_
         (case side1 => repeat (first | exact (Kd.C_below HR270_2.out HB.out) | (with_reducible refine Kd.C_alloc ?_ _) | (with_reducible refine Kd.C_drewN ?_ _) | (with_reducible refine Kd.C_drew ?_)))
         (case side2 => exact HC270_2.out)
         (case side3 => repeat (first | exact (Kd.C_below HR270_3.out HB.out) | (with_reducible refine Kd.C_alloc ?_ _) | (with_reducible refine Kd.C_drewN ?_ _) | (with_reducible refine Kd.C_drew ?_)))
         (case side4 => exact HC270_3.out)
         (case side5 => repeat (first | exact (Kd.C_below HR270_4.out HB.out) | (with_reducible refine Kd.C_alloc ?_ _) | (with_reducible refine Kd.C_drewN ?_ _) | (with_reducible refine Kd.C_drew ?_)))
         (case side6 => exact HC270_4.out)
         rintro e w12 ⟨rfl, hb⟩
         refine ⟨_, rfl, ?_⟩
         have n0_ := Aside0.mk (zT (by repeat (first | (with_reducible first | exact HB.out | apply zA | apply zN | apply zD) | exact HB.out)) hb)
         clear HB
         have HB := n0_
         clear n0_
         (try clear hb)
         (try clear hb2)
         (try clear hk)
         (try clear hi)
         refine hK.out _ _ ⟨((HB.out.cell (World.block_lt_of_cell? w _ hw270_0)).trans hw270_0), ((HB.out.cell (World.block_lt_of_cell? w _ hw270_1)).trans hw270_1), ((HB.out.cell (World.block_lt_of_cell? w _ hw270_2)).trans hw270_2), ((HB.out.cell (World.block_lt_of_cell? w _ hw270_3)).trans hw270_3), ((HB.out.cell (World.block_lt_of_cell? w _ hw270_4)).trans hw270_4), ((HB.out.cell (World.block_lt_of_cell? w _ hw272_0)).trans hw272_0), ((HB.out.cell (World.block_lt_of_cell? w _ hw272_1)).trans hw272_1), ((HB.out.cell (World.block_lt_of_cell? w _ hw272_2)).trans hw272_2), ((HB.out.cell (World.block_lt_of_cell? w _ hw272_3)).trans hw272_3), ((HB.out.cell (World.block_lt_of_cell? w _ hw272_4)).trans hw272_4), ((HB.out.cell (World.block_lt_of_cell? w _ hw273_0)).trans hw273_0), ((HB.out.cell (World.block_lt_of_cell? w _ hw273_1)).trans hw273_1), ((HB.out.cell (World.block_lt_of_cell? w _ hw273_2)).trans hw273_2), ((HB.out.cell (World.block_lt_of_cell? w _ hw273_3)).trans hw273_3), ((HB.out.cell (World.block_lt_of_cell? w _ hw273_4)).trans hw273_4), ((HB.out.cell (World.block_lt_of_cell? w _ hw274_0)).trans hw274_0), ((HB.out.cell (World.block_lt_of_cell? w _ hw274_1)).trans hw274_1), ((HB.out.cell (World.block_lt_of_cell? w _ hw274_2)).trans hw274_2), ((HB.out.cell (World.block_lt_of_cell? w _ hw274_3)).trans hw274_3), ((HB.out.cell (World.block_lt_of_cell? w _ hw274_4)).trans hw274_4), ((HB.out.cell (World.block_lt_of_cell? w _ hw275_0)).trans hw275_0), ((HB.out.cell (World.block_lt_of_cell? w _ hw275_1)).trans hw275_1), ((HB.out.cell (World.block_lt_of_cell? w _ hw275_2)).trans hw275_2), ((HB.out.cell (World.block_lt_of_cell? w _ hw275_3)).trans hw275_3), ((HB.out.cell (World.block_lt_of_cell? w _ hw275_4)).trans hw275_4)⟩ (fun hHeld => ?_)
         clear hK K
         refine norm_ (a' := ?_) ?_ ?_
         rotate_left
         ·show Act.put _ (some 14) _ = _
          simp only [Act.put, sA, sZ, sS, i64_w, i32_w]
          rfl
         refine Abb.pS 5 15 #[T', T', T', T', T', T', F', F', F', F', F', F', F', F', F', F', F', F', F', F', F', F', F', F', F', F', F', F', F', F'] HT_ ?_
         refine Abb.pS 6 16 #[T', T', T', T', T', T', T', F', F', F', F', F', F', F', F', F', F', F', F', F', F', F', F', F', F', F', F', F', F', F'] HT_ ?_
         refine Abb.pS 7 17 #[T', T', T', T', T', T', T', T', F', F', F', F', F', F', F', F', F', F', F', F', F', F', F', F', F', F', F', F', F', F'] HT_ ?_
         refine Abb.pS 8 18 #[T', T', T', T', T', T', T', T', T', F', F', F', F', F', F', F', F', F', F', F', F', F', F', F', F', F', F', F', F', F'] HT_ ?_
         refine Abb.pS 9 19 #[T', T', T', T', T', T', T', T', T', T', F', F', F', F', F', F', F', F', F', F', F', F', F', F', F', F', F', F', F', F'] HT_ ?_
         refine Abb.pS 10 20 #[T', T', T', T', T', T', T', T', T', T', T', F', F', F', F', F', F', F', F', F', F', F', F', F', F', F', F', F', F', F'] HT_ ?_
         refine Abb.pS 12 22 #[T', T', T', T', T', T', T', T', T', T', T', F', T', F', F', F', F', F', F', F', F', F', F', F', F', F', F', F', F', F'] HT_ ?_
         refine Abb.pS 13 23 #[T', T', T', T', T', T', T', T', T', T', T', F', T', T', F', F', F', F', F', F', F', F', F', F', F', F', F', F', F', F'] HT_ ?_
         refine Abb.pS 14 24 #[T', T', T', T', T', T', T', T', T', T', T', F', T', T', T', F', F', F', F', F', F', F', F', F', F', F', F', F', F', F'] HT_ ?_
         refine Abb.pT 11 21 #[T', T', T', T', T', T', T', T', T', T', T', T', T', T', T', F', F', F', F', F', F', F', F', F', F', F', F', F', F', F'] HT_ HW_ hHeld ?_
         refine Abb.pT 15 25 #[T', T', T', T', T', T', T', T', T', T', T', T', T', T', T', T', F', F', F', F', F', F', F', F', F', F', F', F', F', F'] HT_ HW_ hHeld ?_
         refine Abb.pS 16 26 #[T', T', T', T', T', T', T', T', T', T', T', T', T', T', T', T', T', F', F', F', F', F', F', F', F', F', F', F', F', F'] HT_ ?_
         refine Abb.pS 17 27 #[T', T', T', T', T', T', T', T', T', T', T', T', T', T', T', T', T', T', F', F', F', F', F', F', F', F', F', F', F', F'] HT_ ?_
         refine Abb.pS 18 28 #[T', T', T', T', T', T', T', T', T', T', T', T', T', T', T', T', T', T', T', F', F', F', F', F', F', F', F', F', F', F'] HT_ ?_
         refine Abb.pS 19 29 #[T', T', T', T', T', T', T', T', T', T', T', T', T', T', T', T', T', T', T', T', F', F', F', F', F', F', F', F', F', F'] HT_ ?_
         refine Abb.pS 20 30 #[T', T', T', T', T', T', T', T', T', T', T', T', T', T', T', T', T', T', T', T', T', F', F', F', F', F', F', F', F', F'] HT_ ?_
         refine Abb.pS 21 31 #[T', T', T', T', T', T', T', T', T', T', T', T', T', T', T', T', T', T', T', T', T', T', F', F', F', F', F', F', F', F'] HT_ ?_
         refine Abb.pS 22 32 #[T', T', T', T', T', T', T', T', T', T', T', T', T', T', T', T', T', T', T', T', T', T', T', F', F', F', F', F', F', F'] HT_ ?_
         refine Abb.pS 24 34 #[T', T', T', T', T', T', T', T', T', T', T', T', T', T', T', T', T', T', T', T', T', T', T', F', T', F', F', F', F', F'] HT_ ?_
         refine Abb.pS 25 35 #[T', T', T', T', T', T', T', T', T', T', T', T', T', T', T', T', T', T', T', T', T', T', T', F', T', T', F', F', F', F'] HT_ ?_
         refine Abb.pS 26 36 #[T', T', T', T', T', T', T', T', T', T', T', T', T', T', T', T', T', T', T', T', T', T', T', F', T', T', T', F', F', F'] HT_ ?_
         refine Abb.pT 23 33 #[T', T', T', T', T', T', T', T', T', T', T', T', T', T', T', T', T', T', T', T', T', T', T', T', T', T', T', F', F', F'] HT_ HW_ hHeld ?_
         refine Abb.pT 27 37 #[T', T', T', T', T', T', T', T', T', T', T', T', T', T', T', T', T', T', T', T', T', T', T', T', T', T', T', T', F', F'] HT_ HW_ hHeld ?_
         refine Abb.pS 28 38 #[T', T', T', T', T', T', T', T', T', T', T', T', T', T', T', T', T', T', T', T', T', T', T', T', T', T', T', T', T', F'] HT_ ?_
         refine Abb.pS 29 39 #[T', T', T', T', T', T', T', T', T', T', T', T', T', T', T', T', T', T', T', T', T', T', T', T', T', T', T', T', T', T'] HT_ ?_
         refine done_ (done_of HT_.out (by kernel_rfl)) ?_
         try go_wp2
         go_ret
         exact ⟨by first | rfl | (simp [errW_none, errW_some] <;> rfl) | (simp [*, errW_none, errW_some] <;> rfl), by repeat (first | (with_reducible first | exact HB.out | apply zA | apply zN | apply zD) | exact HB.out)⟩
       ·rw [if_neg c7] at H
        have c7b0 : (((rd_T52 l0 x3_1).f0) == ((rd_T52 l0 0).f0)) = false := beq_eq_false_iff_ne.mpr c7
        have c7b1 : (((rd_T52 l0 x3_1).f0) != ((rd_T52 l0 0).f0)) = true := bne_iff_ne.mpr c7
        obtain rfl := Option.some.inj H
        try go_wp2
        have n0_ := Aside0.mk (zD HB.out)
        clear HB
        have HB := n0_
        clear n0_
        have p270 : 0 ≤ (x3_1 : Int) := of_decide_eq_true (by first | (with_reducible assumption) | assumption)
        have q270 : x3_1 < (l0.length : Int) := of_decide_eq_true (by first | (with_reducible assumption) | assumption)
        obtain ⟨ad270, A270_2, c270_2, A270_3, c270_3, A270_4, c270_4, e270, hx270_0, hx270_1, hx270_2, hx270_3, hx270_4, hl270_2, hi270_2, hl270_3, hi270_3, hl270_4, hi270_4⟩ := at_T52 HR0.out x3_1 p270 q270
        have hw270_4 := hx270_4
        have hw270_3 := hx270_3
        have hw270_2 := hx270_2
        have hw270_1 := hx270_1
        have hw270_0 := hx270_0
        cases e270
        replace hx270_0 := (HB.out.cell (World.block_lt_of_cell? w _ hx270_0)).trans hx270_0
        replace hx270_1 := (HB.out.cell (World.block_lt_of_cell? w _ hx270_1)).trans hx270_1
        replace hx270_2 := (HB.out.cell (World.block_lt_of_cell? w _ hx270_2)).trans hx270_2
        replace hx270_3 := (HB.out.cell (World.block_lt_of_cell? w _ hx270_3)).trans hx270_3
        replace hx270_4 := (HB.out.cell (World.block_lt_of_cell? w _ hx270_4)).trans hx270_4
        have HR270_2 := Aside0.mk hi270_2
        have HC270_2 := Aside0.mk hl270_2
        clear hi270_2 hl270_2
        have HR270_3 := Aside0.mk hi270_3
        have HC270_3 := Aside0.mk hl270_3
        clear hi270_3 hl270_3
        have HR270_4 := Aside0.mk hi270_4
        have HC270_4 := Aside0.mk hl270_4
        clear hi270_4 hl270_4
        replace p270 := eq_true p270
        replace q270 := eq_true q270
        have p272 : 0 ≤ (x3_1 : Int) := of_decide_eq_true (by first | (with_reducible assumption) | assumption)
        have q272 : x3_1 < (l0.length : Int) := of_decide_eq_true (by first | (with_reducible assumption) | assumption)
        obtain ⟨ad272, A272_2, c272_2, A272_3, c272_3, A272_4, c272_4, e272, hx272_0, hx272_1, hx272_2, hx272_3, hx272_4, hl272_2, hi272_2, hl272_3, hi272_3, hl272_4, hi272_4⟩ := at_T52 HR0.out x3_1 p272 q272
        have hw272_4 := hx272_4
        have hw272_3 := hx272_3
        have hw272_2 := hx272_2
        have hw272_1 := hx272_1
        have hw272_0 := hx272_0
        obtain rfl : ad270 = ad272 := (by injection e272)
        replace hx272_0 := (HB.out.cell (World.block_lt_of_cell? w _ hx272_0)).trans hx272_0
        replace hx272_1 := (HB.out.cell (World.block_lt_of_cell? w _ hx272_1)).trans hx272_1
        replace hx272_2 := (HB.out.cell (World.block_lt_of_cell? w _ hx272_2)).trans hx272_2
        replace hx272_3 := (HB.out.cell (World.block_lt_of_cell? w _ hx272_3)).trans hx272_3
        replace hx272_4 := (HB.out.cell (World.block_lt_of_cell? w _ hx272_4)).trans hx272_4
        have HR272_2 := Aside0.mk hi272_2
        have HC272_2 := Aside0.mk hl272_2
        clear hi272_2 hl272_2
        have HR272_3 := Aside0.mk hi272_3
        have HC272_3 := Aside0.mk hl272_3
        clear hi272_3 hl272_3
        have HR272_4 := Aside0.mk hi272_4
        have HC272_4 := Aside0.mk hl272_4
        clear hi272_4 hl272_4
        replace p272 := eq_true p272
        replace q272 := eq_true q272
        have p273 : 0 ≤ (0 : Int) := (by omega)
        have q273 : 0 < (l0.length : Int) := of_decide_eq_true (by first | (with_reducible assumption) | assumption)
        obtain ⟨ad273, A273_2, c273_2, A273_3, c273_3, A273_4, c273_4, e273, hx273_0, hx273_1, hx273_2, hx273_3, hx273_4, hl273_2, hi273_2, hl273_3, hi273_3, hl273_4, hi273_4⟩ := at_T52 HR0.out 0 p273 q273
        have hw273_4 := hx273_4
        (try rw [show ((0 : Int)).toNat = 0 from rfl] at hw273_4)
        (try rw [show 0 * 5 = 0 from rfl] at hw273_4)
        (try rw [Addr.add_zero'] at hw273_4)
        have hw273_3 := hx273_3
        (try rw [show ((0 : Int)).toNat = 0 from rfl] at hw273_3)
        (try rw [show 0 * 5 = 0 from rfl] at hw273_3)
        (try rw [Addr.add_zero'] at hw273_3)
        have hw273_2 := hx273_2
        (try rw [show ((0 : Int)).toNat = 0 from rfl] at hw273_2)
        (try rw [show 0 * 5 = 0 from rfl] at hw273_2)
        (try rw [Addr.add_zero'] at hw273_2)
        have hw273_1 := hx273_1
        (try rw [show ((0 : Int)).toNat = 0 from rfl] at hw273_1)
        (try rw [show 0 * 5 = 0 from rfl] at hw273_1)
        (try rw [Addr.add_zero'] at hw273_1)
        have hw273_0 := hx273_0
        (try rw [show ((0 : Int)).toNat = 0 from rfl] at hw273_0)
        (try rw [show 0 * 5 = 0 from rfl] at hw273_0)
        (try rw [Addr.add_zero'] at hw273_0)
        obtain rfl : ad270 = ad273 := (by injection e273)
        have qi273 : (0 < l0.length) = True := eq_true (by omega)
        (try rw [show ((0 : Int)).toNat = 0 from rfl] at hx273_0)
        (try rw [show 0 * 5 = 0 from rfl] at hx273_0)
        (try rw [Addr.add_zero'] at hx273_0)
        (try rw [show ((0 : Int)).toNat = 0 from rfl] at hx273_1)
        (try rw [show 0 * 5 = 0 from rfl] at hx273_1)
        (try rw [Addr.add_zero'] at hx273_1)
        (try rw [show ((0 : Int)).toNat = 0 from rfl] at hx273_2)
        (try rw [show 0 * 5 = 0 from rfl] at hx273_2)
        (try rw [Addr.add_zero'] at hx273_2)
        (try rw [show ((0 : Int)).toNat = 0 from rfl] at hx273_3)
        (try rw [show 0 * 5 = 0 from rfl] at hx273_3)
        (try rw [Addr.add_zero'] at hx273_3)
        (try rw [show ((0 : Int)).toNat = 0 from rfl] at hx273_4)
        (try rw [show 0 * 5 = 0 from rfl] at hx273_4)
        (try rw [Addr.add_zero'] at hx273_4)
        replace hx273_0 := (HB.out.cell (World.block_lt_of_cell? w _ hx273_0)).trans hx273_0
        replace hx273_1 := (HB.out.cell (World.block_lt_of_cell? w _ hx273_1)).trans hx273_1
        replace hx273_2 := (HB.out.cell (World.block_lt_of_cell? w _ hx273_2)).trans hx273_2
        replace hx273_3 := (HB.out.cell (World.block_lt_of_cell? w _ hx273_3)).trans hx273_3
        replace hx273_4 := (HB.out.cell (World.block_lt_of_cell? w _ hx273_4)).trans hx273_4
        have HR273_2 := Aside0.mk hi273_2
        have HC273_2 := Aside0.mk hl273_2
        clear hi273_2 hl273_2
        have HR273_3 := Aside0.mk hi273_3
        have HC273_3 := Aside0.mk hl273_3
        clear hi273_3 hl273_3
        have HR273_4 := Aside0.mk hi273_4
        have HC273_4 := Aside0.mk hl273_4
        clear hi273_4 hl273_4
        replace p273 := eq_true p273
        replace q273 := eq_true q273
        refine start_ (n := 30) (S := fun w' => w'.cell? (ad270.add ((x3_1).toNat * 5)) = some (.int .i64 ((rd_T52 l0 x3_1).f0)) ∧ w'.cell? ⟨(ad270.add ((x3_1).toNat * 5)).block, (ad270.add ((x3_1).toNat * 5)).off + 1, none⟩ = some (.int .i64 ((rd_T52 l0 x3_1).f1)) ∧ w'.cell? ⟨(ad270.add ((x3_1).toNat * 5)).block, (ad270.add ((x3_1).toNat * 5)).off + 2, none⟩ = some (.slice A270_2 ((rd_T52 l0 x3_1).f2).length c270_2) ∧ w'.cell? ⟨(ad270.add ((x3_1).toNat * 5)).block, (ad270.add ((x3_1).toNat * 5)).off + 3, none⟩ = some (.slice A270_3 ((rd_T52 l0 x3_1).f3).length c270_3) ∧ w'.cell? ⟨(ad270.add ((x3_1).toNat * 5)).block, (ad270.add ((x3_1).toNat * 5)).off + 4, none⟩ = some (.slice A270_4 ((rd_T52 l0 x3_1).f4).length c270_4) ∧ w'.cell? (ad270.add ((x3_1).toNat * 5)) = some (.int .i64 ((rd_T52 l0 x3_1).f0)) ∧ w'.cell? ⟨(ad270.add ((x3_1).toNat * 5)).block, (ad270.add ((x3_1).toNat * 5)).off + 1, none⟩ = some (.int .i64 ((rd_T52 l0 x3_1).f1)) ∧ w'.cell? ⟨(ad270.add ((x3_1).toNat * 5)).block, (ad270.add ((x3_1).toNat * 5)).off + 2, none⟩ = some (.slice A272_2 ((rd_T52 l0 x3_1).f2).length c272_2) ∧ w'.cell? ⟨(ad270.add ((x3_1).toNat * 5)).block, (ad270.add ((x3_1).toNat * 5)).off + 3, none⟩ = some (.slice A272_3 ((rd_T52 l0 x3_1).f3).length c272_3) ∧ w'.cell? ⟨(ad270.add ((x3_1).toNat * 5)).block, (ad270.add ((x3_1).toNat * 5)).off + 4, none⟩ = some (.slice A272_4 ((rd_T52 l0 x3_1).f4).length c272_4) ∧ w'.cell? ad270 = some (.int .i64 ((rd_T52 l0 0).f0)) ∧ w'.cell? ⟨ad270.block, ad270.off + 1, none⟩ = some (.int .i64 ((rd_T52 l0 0).f1)) ∧ w'.cell? ⟨ad270.block, ad270.off + 2, none⟩ = some (.slice A273_2 ((rd_T52 l0 0).f2).length c273_2) ∧ w'.cell? ⟨ad270.block, ad270.off + 3, none⟩ = some (.slice A273_3 ((rd_T52 l0 0).f3).length c273_3) ∧ w'.cell? ⟨ad270.block, ad270.off + 4, none⟩ = some (.slice A273_4 ((rd_T52 l0 0).f4).length c273_4)) (ds := []) #[false, false, false, false, false, false, false, false, false, false, false, false, false, false, false, false, false, false, false, false, false, false, false, false, false, false, false, false, false, false] (by kernel_rfl) rfl rfl ⟨((HB.out.cell (World.block_lt_of_cell? w _ hw270_0)).trans hw270_0), ((HB.out.cell (World.block_lt_of_cell? w _ hw270_1)).trans hw270_1), ((HB.out.cell (World.block_lt_of_cell? w _ hw270_2)).trans hw270_2), ((HB.out.cell (World.block_lt_of_cell? w _ hw270_3)).trans hw270_3), ((HB.out.cell (World.block_lt_of_cell? w _ hw270_4)).trans hw270_4), ((HB.out.cell (World.block_lt_of_cell? w _ hw272_0)).trans hw272_0), ((HB.out.cell (World.block_lt_of_cell? w _ hw272_1)).trans hw272_1), ((HB.out.cell (World.block_lt_of_cell? w _ hw272_2)).trans hw272_2), ((HB.out.cell (World.block_lt_of_cell? w _ hw272_3)).trans hw272_3), ((HB.out.cell (World.block_lt_of_cell? w _ hw272_4)).trans hw272_4), ((HB.out.cell (World.block_lt_of_cell? w _ hw273_0)).trans hw273_0), ((HB.out.cell (World.block_lt_of_cell? w _ hw273_1)).trans hw273_1), ((HB.out.cell (World.block_lt_of_cell? w _ hw273_2)).trans hw273_2), ((HB.out.cell (World.block_lt_of_cell? w _ hw273_3)).trans hw273_3), ((HB.out.cell (World.block_lt_of_cell? w _ hw273_4)).trans hw273_4)⟩ (fun hHeld => ?_); refine with_tabW cutroomref20_Alike.tab4 cutroomref20_Alike.bits4 (fun HT_ HW_ => ?_)
        generalize wr.drew = w13 at HB HR270_2 HR270_3 HR270_4 HR272_2 HR272_3 HR272_4 HR273_2 HR273_3 HR273_4 hx270_0 hx270_1 hx270_2 hx270_3 hx270_4 hx272_0 hx272_1 hx272_2 hx272_3 hx272_4 hx273_0 hx273_1 hx273_2 hx273_3 hx273_4 hHeld ⊢
        refine Abb.pS 0 10 #[T', F', F', F', F', F', F', F', F', F', F', F', F', F', F', F', F', F', F', F', F', F', F', F', F', F', F', F', F', F'] HT_ ?_
        refine Abb.pS 1 11 #[T', T', F', F', F', F', F', F', F', F', F', F', F', F', F', F', F', F', F', F', F', F', F', F', F', F', F', F', F', F'] HT_ ?_
        refine Abb.pS 2 12 #[T', T', T', F', F', F', F', F', F', F', F', F', F', F', F', F', F', F', F', F', F', F', F', F', F', F', F', F', F', F'] HT_ ?_
        refine Abb.pT 3 13 #[T', T', T', T', F', F', F', F', F', F', F', F', F', F', F', F', F', F', F', F', F', F', F', F', F', F', F', F', F', F'] HT_ HW_ hHeld ?_
        refine one_ (i := 4) (N := some 14) #[T', T', T', T', T', F', F', F', F', F', F', F', F', F', F', F', F', F', F', F', F', F', F', F', F', F', F', F', F', F'] rfl rfl (one_of HT_.out (by kernel_rfl)) (by decide) (fun K hK => ?_)
        refine goes_ Try.func73 (by kernel_rfl) rfl #[.agg #[.int .i64 ((rd_T52 l0 x3_1).f0), .int .i64 ((rd_T52 l0 x3_1).f1), .slice A270_2 ((rd_T52 l0 x3_1).f2).length c270_2, .slice A270_3 ((rd_T52 l0 x3_1).f3).length c270_3, .slice A270_4 ((rd_T52 l0 x3_1).f4).length c270_4]] (by rfl) rfl rfl (by (try simp only [List.map_toArray, List.map_cons, List.map_nil]); first | done | rfl | (simp only [List.length_drop, List.length_take]; rfl)) ?_
        with_reducible refine (cutroomref20_Valid.calls ((rd_T52 l0 x3_1).f0) ((rd_T52 l0 x3_1).f1) _ _ ((rd_T52 l0 x3_1).f2) _ _ ((rd_T52 l0 x3_1).f3) _ _ ((rd_T52 l0 x3_1).f4) true _ ?side1 ?side2 ?side3 ?side4 ?side5 ?side6 A4.out).mono ?_
        (case side1 => repeat (first | exact (Kd.C_below HR270_2.out HB.out) | (with_reducible refine Kd.C_alloc ?_ _) | (with_reducible refine Kd.C_drewN ?_ _) | (with_reducible refine Kd.C_drew ?_)))
        (case side2 => exact HC270_2.out)
        (case side3 => repeat (first | exact (Kd.C_below HR270_3.out HB.out) | (with_reducible refine Kd.C_alloc ?_ _) | (with_reducible refine Kd.C_drewN ?_ _) | (with_reducible refine Kd.C_drew ?_)))
        (case side4 => exact HC270_3.out)
        (case side5 => repeat (first | exact (Kd.C_below HR270_4.out HB.out) | (with_reducible refine Kd.C_alloc ?_ _) | (with_reducible refine Kd.C_drewN ?_ _) | (with_reducible refine Kd.C_drew ?_)))
        (case side6 => exact HC270_4.out)
        rintro e w14 ⟨rfl, hb⟩
        refine ⟨_, rfl, ?_⟩
        have n0_ := Aside0.mk (zT (by repeat (first | (with_reducible first | exact HB.out | apply zA | apply zN | apply zD) | exact HB.out)) hb)
        clear HB
        have HB := n0_
        clear n0_
        (try clear hb)
        (try clear hb2)
        (try clear hk)
        (try clear hi)
        refine hK.out _ _ ⟨((HB.out.cell (World.block_lt_of_cell? w _ hw270_0)).trans hw270_0), ((HB.out.cell (World.block_lt_of_cell? w _ hw270_1)).trans hw270_1), ((HB.out.cell (World.block_lt_of_cell? w _ hw270_2)).trans hw270_2), ((HB.out.cell (World.block_lt_of_cell? w _ hw270_3)).trans hw270_3), ((HB.out.cell (World.block_lt_of_cell? w _ hw270_4)).trans hw270_4), ((HB.out.cell (World.block_lt_of_cell? w _ hw272_0)).trans hw272_0), ((HB.out.cell (World.block_lt_of_cell? w _ hw272_1)).trans hw272_1), ((HB.out.cell (World.block_lt_of_cell? w _ hw272_2)).trans hw272_2), ((HB.out.cell (World.block_lt_of_cell? w _ hw272_3)).trans hw272_3), ((HB.out.cell (World.block_lt_of_cell? w _ hw272_4)).trans hw272_4), ((HB.out.cell (World.block_lt_of_cell? w _ hw273_0)).trans hw273_0), ((HB.out.cell (World.block_lt_of_cell? w _ hw273_1)).trans hw273_1), ((HB.out.cell (World.block_lt_of_cell? w _ hw273_2)).trans hw273_2), ((HB.out.cell (World.block_lt_of_cell? w _ hw273_3)).trans hw273_3), ((HB.out.cell (World.block_lt_of_cell? w _ hw273_4)).trans hw273_4)⟩ (fun hHeld => ?_)
        clear hK K
        refine norm_ (a' := ?_) ?_ ?_
        rotate_left
        ·show Act.put _ (some 14) _ = _
         simp only [Act.put, sA, sZ, sS, i64_w, i32_w]
         rfl
        refine Abb.pS 5 15 #[T', T', T', T', T', T', F', F', F', F', F', F', F', F', F', F', F', F', F', F', F', F', F', F', F', F', F', F', F', F'] HT_ ?_
        refine Abb.pS 6 16 #[T', T', T', T', T', T', T', F', F', F', F', F', F', F', F', F', F', F', F', F', F', F', F', F', F', F', F', F', F', F'] HT_ ?_
        refine Abb.pS 7 17 #[T', T', T', T', T', T', T', T', F', F', F', F', F', F', F', F', F', F', F', F', F', F', F', F', F', F', F', F', F', F'] HT_ ?_
        refine Abb.pS 8 18 #[T', T', T', T', T', T', T', T', T', F', F', F', F', F', F', F', F', F', F', F', F', F', F', F', F', F', F', F', F', F'] HT_ ?_
        refine Abb.pS 9 19 #[T', T', T', T', T', T', T', T', T', T', F', F', F', F', F', F', F', F', F', F', F', F', F', F', F', F', F', F', F', F'] HT_ ?_
        refine Abb.pS 10 20 #[T', T', T', T', T', T', T', T', T', T', T', F', F', F', F', F', F', F', F', F', F', F', F', F', F', F', F', F', F', F'] HT_ ?_
        refine Abb.pS 12 22 #[T', T', T', T', T', T', T', T', T', T', T', F', T', F', F', F', F', F', F', F', F', F', F', F', F', F', F', F', F', F'] HT_ ?_
        refine Abb.pS 13 23 #[T', T', T', T', T', T', T', T', T', T', T', F', T', T', F', F', F', F', F', F', F', F', F', F', F', F', F', F', F', F'] HT_ ?_
        refine Abb.pS 14 24 #[T', T', T', T', T', T', T', T', T', T', T', F', T', T', T', F', F', F', F', F', F', F', F', F', F', F', F', F', F', F'] HT_ ?_
        refine Abb.pT 11 21 #[T', T', T', T', T', T', T', T', T', T', T', T', T', T', T', F', F', F', F', F', F', F', F', F', F', F', F', F', F', F'] HT_ HW_ hHeld ?_
        refine Abb.pT 15 25 #[T', T', T', T', T', T', T', T', T', T', T', T', T', T', T', T', F', F', F', F', F', F', F', F', F', F', F', F', F', F'] HT_ HW_ hHeld ?_
        refine Abb.pS 16 26 #[T', T', T', T', T', T', T', T', T', T', T', T', T', T', T', T', T', F', F', F', F', F', F', F', F', F', F', F', F', F'] HT_ ?_
        refine Abb.pS 17 27 #[T', T', T', T', T', T', T', T', T', T', T', T', T', T', T', T', T', T', F', F', F', F', F', F', F', F', F', F', F', F'] HT_ ?_
        refine Abb.pS 18 28 #[T', T', T', T', T', T', T', T', T', T', T', T', T', T', T', T', T', T', T', F', F', F', F', F', F', F', F', F', F', F'] HT_ ?_
        refine pure_ (i := 19) (N := some 29) (v := undef) (a' := ?_) #[T', T', T', T', T', T', T', T', T', T', T', T', T', T', T', T', T', T', T', T', F', F', F', F', F', F', F', F', F', F'] rfl rfl (any_of HT_.out (by kernel_rfl)) (fun _ _ _ h => h) (Or.inr ⟨by rfl, rfl⟩) ?_ ?_
        rotate_left
        ·simp only [Act.put, sA, sZ, sS, i64_w, i32_w]
         rfl
        refine pure_ (i := 20) (N := some 30) (v := undef) (a' := ?_) #[T', T', T', T', T', T', T', T', T', T', T', T', T', T', T', T', T', T', T', T', T', F', F', F', F', F', F', F', F', F'] rfl rfl (any_of HT_.out (by kernel_rfl)) (fun _ _ _ h => h) (Or.inr ⟨by rfl, rfl⟩) ?_ ?_
        rotate_left
        ·simp only [Act.put, sA, sZ, sS, i64_w, i32_w]
         rfl
        refine pure_ (i := 21) (N := some 31) (v := undef) (a' := ?_) #[T', T', T', T', T', T', T', T', T', T', T', T', T', T', T', T', T', T', T', T', T', T', F', F', F', F', F', F', F', F'] rfl rfl (any_of HT_.out (by kernel_rfl)) (fun _ _ _ h => h) (Or.inr ⟨by rfl, rfl⟩) ?_ ?_
        rotate_left
        ·simp only [Act.put, sA, sZ, sS, i64_w, i32_w]
         rfl
        refine pure_ (i := 22) (N := some 32) (v := undef) (a' := ?_) #[T', T', T', T', T', T', T', T', T', T', T', T', T', T', T', T', T', T', T', T', T', T', T', F', F', F', F', F', F', F'] rfl rfl (any_of HT_.out (by kernel_rfl)) (fun _ _ _ h => h) (Or.inr ⟨by rfl, rfl⟩) ?_ ?_
        rotate_left
        ·simp only [Act.put, sA, sZ, sS, i64_w, i32_w]
         rfl
        refine pure_ (i := 23) (N := some 33) (v := undef) (a' := ?_) #[T', T', T', T', T', T', T', T', T', T', T', T', T', T', T', T', T', T', T', T', T', T', T', T', F', F', F', F', F', F'] rfl rfl (any_of HT_.out (by kernel_rfl)) (fun _ _ _ h => h) (Or.inr ⟨by rfl, rfl⟩) ?_ ?_
        rotate_left
        ·simp only [Act.put, sA, sZ, sS, i64_w, i32_w]
         rfl
        refine pure_ (i := 24) (N := some 34) (v := undef) (a' := ?_) #[T', T', T', T', T', T', T', T', T', T', T', T', T', T', T', T', T', T', T', T', T', T', T', T', T', F', F', F', F', F'] rfl rfl (any_of HT_.out (by kernel_rfl)) (fun _ _ _ h => h) (Or.inr ⟨by rfl, rfl⟩) ?_ ?_
        rotate_left
        ·simp only [Act.put, sA, sZ, sS, i64_w, i32_w]
         rfl
        refine pure_ (i := 25) (N := some 35) (v := undef) (a' := ?_) #[T', T', T', T', T', T', T', T', T', T', T', T', T', T', T', T', T', T', T', T', T', T', T', T', T', T', F', F', F', F'] rfl rfl (any_of HT_.out (by kernel_rfl)) (fun _ _ _ h => h) (Or.inr ⟨by rfl, rfl⟩) ?_ ?_
        rotate_left
        ·simp only [Act.put, sA, sZ, sS, i64_w, i32_w]
         rfl
        refine pure_ (i := 26) (N := some 36) (v := undef) (a' := ?_) #[T', T', T', T', T', T', T', T', T', T', T', T', T', T', T', T', T', T', T', T', T', T', T', T', T', T', T', F', F', F'] rfl rfl (any_of HT_.out (by kernel_rfl)) (fun _ _ _ h => h) (Or.inr ⟨by rfl, rfl⟩) ?_ ?_
        rotate_left
        ·simp only [Act.put, sA, sZ, sS, i64_w, i32_w]
         rfl
        refine pure_ (i := 27) (N := some 37) (v := undef) (a' := ?_) #[T', T', T', T', T', T', T', T', T', T', T', T', T', T', T', T', T', T', T', T', T', T', T', T', T', T', T', T', F', F'] rfl rfl (any_of HT_.out (by kernel_rfl)) (fun _ _ _ h => h) (Or.inr ⟨by rfl, rfl⟩) ?_ ?_
        rotate_left
        ·simp only [Act.put, sA, sZ, sS, i64_w, i32_w]
         rfl
        refine pure_ (i := 28) (N := some 38) (v := undef) (a' := ?_) #[T', T', T', T', T', T', T', T', T', T', T', T', T', T', T', T', T', T', T', T', T', T', T', T', T', T', T', T', T', F'] rfl rfl (any_of HT_.out (by kernel_rfl)) (fun _ _ _ h => h) (Or.inr ⟨by rfl, rfl⟩) ?_ ?_
        rotate_left
        ·simp only [Act.put, sA, sZ, sS, i64_w, i32_w]
         rfl
        refine Abb.pS 29 39 #[T', T', T', T', T', T', T', T', T', T', T', T', T', T', T', T', T', T', T', T', T', T', T', T', T', T', T', T', T', T'] HT_ ?_
        refine done_ (done_of HT_.out (by kernel_rfl)) ?_
        try go_wp2
        go_ret
        exact ⟨by first | rfl | (simp [errW_none, errW_some] <;> rfl) | (simp [*, errW_none, errW_some] <;> rfl), by repeat (first | (with_reducible first | exact HB.out | apply zA | apply zN | apply zD) | exact HB.out)⟩
      ·rw [if_neg c6] at H
       exact absurd H (by simp)
     ·replace c5 := Bool.eq_false_iff.mpr c5
      subst c5
      have H1 : (some false) = some r := by rw [if_neg (show ¬ (false = true) by decide)] at H; exact H
      clear H
      have H := H1
      clear H1
      obtain rfl := Option.some.inj H
      try go_wp2
      have n0_ := Aside0.mk (zD HB.out)
      clear HB
      have HB := n0_
      clear n0_
      have p270 : 0 ≤ (x3_1 : Int) := of_decide_eq_true (by first | (with_reducible assumption) | assumption)
      have q270 : x3_1 < (l0.length : Int) := of_decide_eq_true (by first | (with_reducible assumption) | assumption)
      obtain ⟨ad270, A270_2, c270_2, A270_3, c270_3, A270_4, c270_4, e270, hx270_0, hx270_1, hx270_2, hx270_3, hx270_4, hl270_2, hi270_2, hl270_3, hi270_3, hl270_4, hi270_4⟩ := at_T52 HR0.out x3_1 p270 q270
      have hw270_4 := hx270_4
      have hw270_3 := hx270_3
      have hw270_2 := hx270_2
      have hw270_1 := hx270_1
      have hw270_0 := hx270_0
      cases e270
      replace hx270_0 := (HB.out.cell (World.block_lt_of_cell? w _ hx270_0)).trans hx270_0
      replace hx270_1 := (HB.out.cell (World.block_lt_of_cell? w _ hx270_1)).trans hx270_1
      replace hx270_2 := (HB.out.cell (World.block_lt_of_cell? w _ hx270_2)).trans hx270_2
      replace hx270_3 := (HB.out.cell (World.block_lt_of_cell? w _ hx270_3)).trans hx270_3
      replace hx270_4 := (HB.out.cell (World.block_lt_of_cell? w _ hx270_4)).trans hx270_4
      have HR270_2 := Aside0.mk hi270_2
      have HC270_2 := Aside0.mk hl270_2
      clear hi270_2 hl270_2
      have HR270_3 := Aside0.mk hi270_3
      have HC270_3 := Aside0.mk hl270_3
      clear hi270_3 hl270_3
      have HR270_4 := Aside0.mk hi270_4
      have HC270_4 := Aside0.mk hl270_4
      clear hi270_4 hl270_4
      replace p270 := eq_true p270
      replace q270 := eq_true q270
      refine start_ (n := 30) (S := fun w' => w'.cell? (ad270.add ((x3_1).toNat * 5)) = some (.int .i64 ((rd_T52 l0 x3_1).f0)) ∧ w'.cell? ⟨(ad270.add ((x3_1).toNat * 5)).block, (ad270.add ((x3_1).toNat * 5)).off + 1, none⟩ = some (.int .i64 ((rd_T52 l0 x3_1).f1)) ∧ w'.cell? ⟨(ad270.add ((x3_1).toNat * 5)).block, (ad270.add ((x3_1).toNat * 5)).off + 2, none⟩ = some (.slice A270_2 ((rd_T52 l0 x3_1).f2).length c270_2) ∧ w'.cell? ⟨(ad270.add ((x3_1).toNat * 5)).block, (ad270.add ((x3_1).toNat * 5)).off + 3, none⟩ = some (.slice A270_3 ((rd_T52 l0 x3_1).f3).length c270_3) ∧ w'.cell? ⟨(ad270.add ((x3_1).toNat * 5)).block, (ad270.add ((x3_1).toNat * 5)).off + 4, none⟩ = some (.slice A270_4 ((rd_T52 l0 x3_1).f4).length c270_4)) (ds := []) #[false, false, false, false, false, false, false, false, false, false, false, false, false, false, false, false, false, false, false, false, false, false, false, false, false, false, false, false, false, false] (by kernel_rfl) rfl rfl ⟨((HB.out.cell (World.block_lt_of_cell? w _ hw270_0)).trans hw270_0), ((HB.out.cell (World.block_lt_of_cell? w _ hw270_1)).trans hw270_1), ((HB.out.cell (World.block_lt_of_cell? w _ hw270_2)).trans hw270_2), ((HB.out.cell (World.block_lt_of_cell? w _ hw270_3)).trans hw270_3), ((HB.out.cell (World.block_lt_of_cell? w _ hw270_4)).trans hw270_4)⟩ (fun hHeld => ?_); refine with_tabW cutroomref20_Alike.tab4 cutroomref20_Alike.bits4 (fun HT_ HW_ => ?_)
      generalize wr.drew = w15 at HB HR270_2 HR270_3 HR270_4 hx270_0 hx270_1 hx270_2 hx270_3 hx270_4 hHeld ⊢
      refine Abb.pS 0 10 #[T', F', F', F', F', F', F', F', F', F', F', F', F', F', F', F', F', F', F', F', F', F', F', F', F', F', F', F', F', F'] HT_ ?_
      refine Abb.pS 1 11 #[T', T', F', F', F', F', F', F', F', F', F', F', F', F', F', F', F', F', F', F', F', F', F', F', F', F', F', F', F', F'] HT_ ?_
      refine Abb.pS 2 12 #[T', T', T', F', F', F', F', F', F', F', F', F', F', F', F', F', F', F', F', F', F', F', F', F', F', F', F', F', F', F'] HT_ ?_
      refine Abb.pT 3 13 #[T', T', T', T', F', F', F', F', F', F', F', F', F', F', F', F', F', F', F', F', F', F', F', F', F', F', F', F', F', F'] HT_ HW_ hHeld ?_
      refine one_ (i := 4) (N := some 14) #[T', T', T', T', T', F', F', F', F', F', F', F', F', F', F', F', F', F', F', F', F', F', F', F', F', F', F', F', F', F'] rfl rfl (one_of HT_.out (by kernel_rfl)) (by decide) (fun K hK => ?_)
      refine goes_ Try.func73 (by kernel_rfl) rfl #[.agg #[.int .i64 ((rd_T52 l0 x3_1).f0), .int .i64 ((rd_T52 l0 x3_1).f1), .slice A270_2 ((rd_T52 l0 x3_1).f2).length c270_2, .slice A270_3 ((rd_T52 l0 x3_1).f3).length c270_3, .slice A270_4 ((rd_T52 l0 x3_1).f4).length c270_4]] (by rfl) rfl rfl (by (try simp only [List.map_toArray, List.map_cons, List.map_nil]); first | done | rfl | (simp only [List.length_drop, List.length_take]; rfl)) ?_
      with_reducible refine (cutroomref20_Valid.calls ((rd_T52 l0 x3_1).f0) ((rd_T52 l0 x3_1).f1) _ _ ((rd_T52 l0 x3_1).f2) _ _ ((rd_T52 l0 x3_1).f3) _ _ ((rd_T52 l0 x3_1).f4) false _ ?side1 ?side2 ?side3 ?side4 ?side5 ?side6 A4.out).mono ?_
      (case side1 => repeat (first | exact (Kd.C_below HR270_2.out HB.out) | (with_reducible refine Kd.C_alloc ?_ _) | (with_reducible refine Kd.C_drewN ?_ _) | (with_reducible refine Kd.C_drew ?_)))
      (case side2 => exact HC270_2.out)
      (case side3 => repeat (first | exact (Kd.C_below HR270_3.out HB.out) | (with_reducible refine Kd.C_alloc ?_ _) | (with_reducible refine Kd.C_drewN ?_ _) | (with_reducible refine Kd.C_drew ?_)))
      (case side4 => exact HC270_3.out)
      (case side5 => repeat (first | exact (Kd.C_below HR270_4.out HB.out) | (with_reducible refine Kd.C_alloc ?_ _) | (with_reducible refine Kd.C_drewN ?_ _) | (with_reducible refine Kd.C_drew ?_)))
      (case side6 => exact HC270_4.out)
      rintro e w16 ⟨rfl, hb⟩
      refine ⟨_, rfl, ?_⟩
      have n0_ := Aside0.mk (zT (by repeat (first | (with_reducible first | exact HB.out | apply zA | apply zN | apply zD) | exact HB.out)) hb)
      clear HB
      have HB := n0_
      clear n0_
      (try clear hb)
      (try clear hb2)
      (try clear hk)
      (try clear hi)
      refine hK.out _ _ ⟨((HB.out.cell (World.block_lt_of_cell? w _ hw270_0)).trans hw270_0), ((HB.out.cell (World.block_lt_of_cell? w _ hw270_1)).trans hw270_1), ((HB.out.cell (World.block_lt_of_cell? w _ hw270_2)).trans hw270_2), ((HB.out.cell (World.block_lt_of_cell? w _ hw270_3)).trans hw270_3), ((HB.out.cell (World.block_lt_of_cell? w _ hw270_4)).trans hw270_4)⟩ (fun hHeld => ?_)
      clear hK K
      refine norm_ (a' := ?_) ?_ ?_
      rotate_left
      ·show Act.put _ (some 14) _ = _
       simp only [Act.put, sA, sZ, sS, i64_w, i32_w]
       rfl
      refine Abb.pS 5 15 #[T', T', T', T', T', T', F', F', F', F', F', F', F', F', F', F', F', F', F', F', F', F', F', F', F', F', F', F', F', F'] HT_ ?_
      refine Abb.pS 6 16 #[T', T', T', T', T', T', T', F', F', F', F', F', F', F', F', F', F', F', F', F', F', F', F', F', F', F', F', F', F', F'] HT_ ?_
      refine pure_ (i := 7) (N := some 17) (v := undef) (a' := ?_) #[T', T', T', T', T', T', T', T', F', F', F', F', F', F', F', F', F', F', F', F', F', F', F', F', F', F', F', F', F', F'] rfl rfl (any_of HT_.out (by kernel_rfl)) (fun _ _ _ h => h) (Or.inr ⟨by rfl, rfl⟩) ?_ ?_
      rotate_left
      ·simp only [Act.put, sA, sZ, sS, i64_w, i32_w]
       rfl
      refine pure_ (i := 8) (N := some 18) (v := undef) (a' := ?_) #[T', T', T', T', T', T', T', T', T', F', F', F', F', F', F', F', F', F', F', F', F', F', F', F', F', F', F', F', F', F'] rfl rfl (any_of HT_.out (by kernel_rfl)) (fun _ _ _ h => h) (Or.inr ⟨by rfl, rfl⟩) ?_ ?_
      rotate_left
      ·simp only [Act.put, sA, sZ, sS, i64_w, i32_w]
       rfl
      refine pure_ (i := 9) (N := some 19) (v := undef) (a' := ?_) #[T', T', T', T', T', T', T', T', T', T', F', F', F', F', F', F', F', F', F', F', F', F', F', F', F', F', F', F', F', F'] rfl rfl (any_of HT_.out (by kernel_rfl)) (fun _ _ _ h => h) (Or.inr ⟨by rfl, rfl⟩) ?_ ?_
      rotate_left
      ·simp only [Act.put, sA, sZ, sS, i64_w, i32_w]
       rfl
      refine pure_ (i := 10) (N := some 20) (v := undef) (a' := ?_) #[T', T', T', T', T', T', T', T', T', T', T', F', F', F', F', F', F', F', F', F', F', F', F', F', F', F', F', F', F', F'] rfl rfl (any_of HT_.out (by kernel_rfl)) (fun _ _ _ h => h) (Or.inr ⟨by rfl, rfl⟩) ?_ ?_
      rotate_left
      ·simp only [Act.put, sA, sZ, sS, i64_w, i32_w]
       rfl
      refine pure_ (i := 11) (N := some 21) (v := undef) (a' := ?_) #[T', T', T', T', T', T', T', T', T', T', T', T', F', F', F', F', F', F', F', F', F', F', F', F', F', F', F', F', F', F'] rfl rfl (any_of HT_.out (by kernel_rfl)) (fun _ _ _ h => h) (Or.inr ⟨by rfl, rfl⟩) ?_ ?_
      rotate_left
      ·simp only [Act.put, sA, sZ, sS, i64_w, i32_w]
       rfl
      refine pure_ (i := 12) (N := some 22) (v := undef) (a' := ?_) #[T', T', T', T', T', T', T', T', T', T', T', T', T', F', F', F', F', F', F', F', F', F', F', F', F', F', F', F', F', F'] rfl rfl (any_of HT_.out (by kernel_rfl)) (fun _ _ _ h => h) (Or.inr ⟨by rfl, rfl⟩) ?_ ?_
      rotate_left
      ·simp only [Act.put, sA, sZ, sS, i64_w, i32_w]
       rfl
      refine pure_ (i := 13) (N := some 23) (v := undef) (a' := ?_) #[T', T', T', T', T', T', T', T', T', T', T', T', T', T', F', F', F', F', F', F', F', F', F', F', F', F', F', F', F', F'] rfl rfl (any_of HT_.out (by kernel_rfl)) (fun _ _ _ h => h) (Or.inr ⟨by rfl, rfl⟩) ?_ ?_
      rotate_left
      ·simp only [Act.put, sA, sZ, sS, i64_w, i32_w]
       rfl
      refine pure_ (i := 14) (N := some 24) (v := undef) (a' := ?_) #[T', T', T', T', T', T', T', T', T', T', T', T', T', T', T', F', F', F', F', F', F', F', F', F', F', F', F', F', F', F'] rfl rfl (any_of HT_.out (by kernel_rfl)) (fun _ _ _ h => h) (Or.inr ⟨by rfl, rfl⟩) ?_ ?_
      rotate_left
      ·simp only [Act.put, sA, sZ, sS, i64_w, i32_w]
       rfl
      refine pure_ (i := 15) (N := some 25) (v := undef) (a' := ?_) #[T', T', T', T', T', T', T', T', T', T', T', T', T', T', T', T', F', F', F', F', F', F', F', F', F', F', F', F', F', F'] rfl rfl (any_of HT_.out (by kernel_rfl)) (fun _ _ _ h => h) (Or.inr ⟨by rfl, rfl⟩) ?_ ?_
      rotate_left
      ·simp only [Act.put, sA, sZ, sS, i64_w, i32_w]
       rfl
      refine pure_ (i := 16) (N := some 26) (v := undef) (a' := ?_) #[T', T', T', T', T', T', T', T', T', T', T', T', T', T', T', T', T', F', F', F', F', F', F', F', F', F', F', F', F', F'] rfl rfl (any_of HT_.out (by kernel_rfl)) (fun _ _ _ h => h) (Or.inr ⟨by rfl, rfl⟩) ?_ ?_
      rotate_left
      ·simp only [Act.put, sA, sZ, sS, i64_w, i32_w]
       rfl
      refine Abb.pS 17 27 #[T', T', T', T', T', T', T', T', T', T', T', T', T', T', T', T', T', T', F', F', F', F', F', F', F', F', F', F', F', F'] HT_ ?_
      refine Abb.pS 18 28 #[T', T', T', T', T', T', T', T', T', T', T', T', T', T', T', T', T', T', T', F', F', F', F', F', F', F', F', F', F', F'] HT_ ?_
      refine pure_ (i := 19) (N := some 29) (v := undef) (a' := ?_) #[T', T', T', T', T', T', T', T', T', T', T', T', T', T', T', T', T', T', T', T', F', F', F', F', F', F', F', F', F', F'] rfl rfl (any_of HT_.out (by kernel_rfl)) (fun _ _ _ h => h) (Or.inr ⟨by rfl, rfl⟩) ?_ ?_
      rotate_left
      ·simp only [Act.put, sA, sZ, sS, i64_w, i32_w]
       rfl
      refine pure_ (i := 20) (N := some 30) (v := undef) (a' := ?_) #[T', T', T', T', T', T', T', T', T', T', T', T', T', T', T', T', T', T', T', T', T', F', F', F', F', F', F', F', F', F'] rfl rfl (any_of HT_.out (by kernel_rfl)) (fun _ _ _ h => h) (Or.inr ⟨by rfl, rfl⟩) ?_ ?_
      rotate_left
      ·simp only [Act.put, sA, sZ, sS, i64_w, i32_w]
       rfl
      refine pure_ (i := 21) (N := some 31) (v := undef) (a' := ?_) #[T', T', T', T', T', T', T', T', T', T', T', T', T', T', T', T', T', T', T', T', T', T', F', F', F', F', F', F', F', F'] rfl rfl (any_of HT_.out (by kernel_rfl)) (fun _ _ _ h => h) (Or.inr ⟨by rfl, rfl⟩) ?_ ?_
      rotate_left
      ·simp only [Act.put, sA, sZ, sS, i64_w, i32_w]
       rfl
      refine pure_ (i := 22) (N := some 32) (v := undef) (a' := ?_) #[T', T', T', T', T', T', T', T', T', T', T', T', T', T', T', T', T', T', T', T', T', T', T', F', F', F', F', F', F', F'] rfl rfl (any_of HT_.out (by kernel_rfl)) (fun _ _ _ h => h) (Or.inr ⟨by rfl, rfl⟩) ?_ ?_
      rotate_left
      ·simp only [Act.put, sA, sZ, sS, i64_w, i32_w]
       rfl
      refine pure_ (i := 23) (N := some 33) (v := undef) (a' := ?_) #[T', T', T', T', T', T', T', T', T', T', T', T', T', T', T', T', T', T', T', T', T', T', T', T', F', F', F', F', F', F'] rfl rfl (any_of HT_.out (by kernel_rfl)) (fun _ _ _ h => h) (Or.inr ⟨by rfl, rfl⟩) ?_ ?_
      rotate_left
      ·simp only [Act.put, sA, sZ, sS, i64_w, i32_w]
       rfl
      refine pure_ (i := 24) (N := some 34) (v := undef) (a' := ?_) #[T', T', T', T', T', T', T', T', T', T', T', T', T', T', T', T', T', T', T', T', T', T', T', T', T', F', F', F', F', F'] rfl rfl (any_of HT_.out (by kernel_rfl)) (fun _ _ _ h => h) (Or.inr ⟨by rfl, rfl⟩) ?_ ?_
      rotate_left
      ·simp only [Act.put, sA, sZ, sS, i64_w, i32_w]
       rfl
      refine pure_ (i := 25) (N := some 35) (v := undef) (a' := ?_) #[T', T', T', T', T', T', T', T', T', T', T', T', T', T', T', T', T', T', T', T', T', T', T', T', T', T', F', F', F', F'] rfl rfl (any_of HT_.out (by kernel_rfl)) (fun _ _ _ h => h) (Or.inr ⟨by rfl, rfl⟩) ?_ ?_
      rotate_left
      ·simp only [Act.put, sA, sZ, sS, i64_w, i32_w]
       rfl
      refine pure_ (i := 26) (N := some 36) (v := undef) (a' := ?_) #[T', T', T', T', T', T', T', T', T', T', T', T', T', T', T', T', T', T', T', T', T', T', T', T', T', T', T', F', F', F'] rfl rfl (any_of HT_.out (by kernel_rfl)) (fun _ _ _ h => h) (Or.inr ⟨by rfl, rfl⟩) ?_ ?_
      rotate_left
      ·simp only [Act.put, sA, sZ, sS, i64_w, i32_w]
       rfl
      refine pure_ (i := 27) (N := some 37) (v := undef) (a' := ?_) #[T', T', T', T', T', T', T', T', T', T', T', T', T', T', T', T', T', T', T', T', T', T', T', T', T', T', T', T', F', F'] rfl rfl (any_of HT_.out (by kernel_rfl)) (fun _ _ _ h => h) (Or.inr ⟨by rfl, rfl⟩) ?_ ?_
      rotate_left
      ·simp only [Act.put, sA, sZ, sS, i64_w, i32_w]
       rfl
      refine pure_ (i := 28) (N := some 38) (v := undef) (a' := ?_) #[T', T', T', T', T', T', T', T', T', T', T', T', T', T', T', T', T', T', T', T', T', T', T', T', T', T', T', T', T', F'] rfl rfl (any_of HT_.out (by kernel_rfl)) (fun _ _ _ h => h) (Or.inr ⟨by rfl, rfl⟩) ?_ ?_
      rotate_left
      ·simp only [Act.put, sA, sZ, sS, i64_w, i32_w]
       rfl
      refine Abb.pS 29 39 #[T', T', T', T', T', T', T', T', T', T', T', T', T', T', T', T', T', T', T', T', T', T', T', T', T', T', T', T', T', T'] HT_ ?_
      refine done_ (done_of HT_.out (by kernel_rfl)) ?_
      try go_wp2
      go_ret
      exact ⟨by first | rfl | (simp [errW_none, errW_some] <;> rfl) | (simp [*, errW_none, errW_some] <;> rfl), by repeat (first | (with_reducible first | exact HB.out | apply zA | apply zN | apply zD) | exact HB.out)⟩
    ·rw [if_neg c3] at H
     exact absurd H (by simp)
   ·rw [if_neg c2] at H
    have c2b0 : decide (x3_1 < (l0.length : Int)) = false := decide_eq_false c2
    clear c2
    obtain rfl := Option.some.inj H
    go_wp2
    go_ret
    exact ⟨by first | rfl | (simp [errW_none, errW_some] <;> rfl) | (simp [*, errW_none, errW_some] <;> rfl), by repeat (first | (with_reducible first | exact HB.out | apply zA | apply zN | apply zD) | exact HB.out)⟩

end Go.Proofs.Ytcofjbbflcnaaaa.P
