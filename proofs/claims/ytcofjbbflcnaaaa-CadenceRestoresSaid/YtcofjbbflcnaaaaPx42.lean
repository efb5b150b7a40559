-- Written by this session's own program (wip/tools/myprint.py), which runs the kit's print with turns of its own: not a text of the kit's print.sh.
import Derived.Test.YtcofjbbflcnaaaaPx0
import Derived.Test.YtcofjbbflcnaaaaPx47
import Derived.Test.YtcofjbbflcnaaaaPx62
import Derived.Test.YtcofjbbflcnaaaaAbb
namespace Go.Proofs.Ytcofjbbflcnaaaa.P
open Go.RowKit Go.Proofs.YtcofjbbflcnaaaaW.PrintWords Go.Proofs.YtcofjbbflcnaaaaW.PrintLast Go.Proofs.YtcofjbbflcnaaaaW.PrintMore
open List renaming setIfInBounds_toArray → sA, set_cons_zero → sZ, set_cons_succ → sS
open Bool renaming true → T', false → F'
open Go.Proofs.YtcofjbbflcnaaaaW.PrintWords renaming below_alloc → zA, pw_below_drewN → zN, below_drew1 → zD, blk_drewN → yN, blk_drew → yD, blk_alloc → yA, below_size → zS, below_step → zT, blk_below → yB, below_set → zP, cell_far → xF, add_block → xB, gate_callee → xC, gate_dst → xD
attribute [local go_sem] max2_int min2_int max_two min_two max_three min_three max_four min_four   -- for this text's walks alone
set_option linter.unusedVariables false
set_option linter.unusedSimpArgs false

/-! ### cutroomref20_Pull: function 41 -/
mutual
def cutroomref20_Pull.l0 : Nat → List (S52) → List (S43) → Int → Option ((List (S52)) × Int)
 | 0, _, _, _ => none
 | k + 1, x0, x1, x6 => if x6 < (x1.length : Int) then (if 0 ≤ x6 then (if ((rd_T43 x1 x6).f0) < 0 then (some (([] : List (S52)), 1)) else (if ((rd_T43 x1 x6).f0) ≥ (x0.length : Int) then (some (([] : List (S52)), 1)) else (if ((rd_T43 x1 x6).f1) < 0 then (some (([] : List (S52)), 1)) else (if ((rd_T43 x1 x6).f1) ≥ (x0.length : Int) then (some (([] : List (S52)), 1)) else (cutroomref20_Pull.l0 k x0 x1 (wrap64 (x6 + 1))))))) else (none)) else (if (x1.length : Int) > 256 then (some (([] : List (S52)), 5)) else (cutroomref20_Pull.l1 k x0 x1 ([] : List (S52)) 0))
def cutroomref20_Pull.l1 : Nat → List (S52) → List (S43) → List (S52) → Int → Option ((List (S52)) × Int)
 | 0, _, _, _, _ => none
 | k + 1, x0, x1, x7, x8 => if x8 < (x1.length : Int) then (if 0 ≤ x8 then (if 0 ≤ ((rd_T43 x1 x8).f0) then (if ((rd_T43 x1 x8).f0) < (x0.length : Int) then (if 0 ≤ ((rd_T43 x1 x8).f1) then (if ((rd_T43 x1 x8).f1) < (x0.length : Int) then ((cutroomref20_Join.f k ((rd_T52 x0 ((rd_T43 x1 x8).f0)).f0) ((rd_T52 x0 ((rd_T43 x1 x8).f0)).f1) ((rd_T52 x0 ((rd_T43 x1 x8).f0)).f2) ((rd_T52 x0 ((rd_T43 x1 x8).f0)).f3) ((rd_T52 x0 ((rd_T43 x1 x8).f0)).f4) ((rd_T52 x0 ((rd_T43 x1 x8).f1)).f0) ((rd_T52 x0 ((rd_T43 x1 x8).f1)).f1) ((rd_T52 x0 ((rd_T43 x1 x8).f1)).f2) ((rd_T52 x0 ((rd_T43 x1 x8).f1)).f3) ((rd_T52 x0 ((rd_T43 x1 x8).f1)).f4)).bind fun bt285 => (if x7.length < 1599289640401 then (cutroomref20_Pull.l1 k x0 x1 (x7 ++ [(⟨bt285.1, bt285.2.1, bt285.2.2.1, bt285.2.2.2.1, bt285.2.2.2.2⟩ : S52)]) (wrap64 (x8 + 1))) else (none))) else (none)) else (none)) else (none)) else (none)) else (none)) else (some (x7, 0))
end
def cutroomref20_Pull.f (k : Nat) (l0 : List (S52)) (l1 : List (S43)) : Option ((List (S52)) × Int) := (cutroomref20_Alike.f k l0).bind fun t276 => (if t276 = true then (cutroomref20_Pull.l0 k l0 l1 0) else (some (([] : List (S52)), 1)))
theorem cutroomref20_Pull.mono_l : ∀ k, (∀ y0 y1 y2, LeO (cutroomref20_Pull.l0 k y0 y1 y2) (cutroomref20_Pull.l0 (k + 1) y0 y1 y2)) ∧ (∀ y0 y1 y2 y3, LeO (cutroomref20_Pull.l1 k y0 y1 y2 y3) (cutroomref20_Pull.l1 (k + 1) y0 y1 y2 y3))
 | 0 => ⟨fun _ _ _ r h => by simp [cutroomref20_Pull.l0] at h, fun _ _ _ _ r h => by simp [cutroomref20_Pull.l1] at h⟩
 | k + 1 => by
  obtain ⟨ih0, ih1⟩ := cutroomref20_Pull.mono_l k
  refine ⟨?_, ?_⟩
  ·intro y0 y1 y2
   unfold cutroomref20_Pull.l0
   repeat' first
   | (with_reducible exact ih0 _ _ _)
   | (with_reducible exact ih1 _ _ _ _)
   | (with_reducible exact cutroomref20_Alike.mono _ _)
   | (with_reducible exact cutroomref20_Join.mono _ _ _ _ _ _ _ _ _ _ _)
   | (with_reducible exact LeO.refl _)
   | (with_reducible exact LeO.none _)
   | (with_reducible refine LeO.ite ?_ ?_)
   | (with_reducible refine LeO.bind ?_ (fun _ => ?_))
   | exact ih0 _ _ _
   | exact ih1 _ _ _ _
   | exact cutroomref20_Alike.mono _ _
   | exact cutroomref20_Join.mono _ _ _ _ _ _ _ _ _ _ _
   | exact LeO.none _
   | refine LeO.ite ?_ ?_
   | refine LeO.bind ?_ (fun _ => ?_)
  ·intro y0 y1 y2 y3
   unfold cutroomref20_Pull.l1
   repeat' first
   | (with_reducible exact ih0 _ _ _)
   | (with_reducible exact ih1 _ _ _ _)
   | (with_reducible exact cutroomref20_Alike.mono _ _)
   | (with_reducible exact cutroomref20_Join.mono _ _ _ _ _ _ _ _ _ _ _)
   | (with_reducible exact LeO.refl _)
   | (with_reducible exact LeO.none _)
   | (with_reducible refine LeO.ite ?_ ?_)
   | (with_reducible refine LeO.bind ?_ (fun _ => ?_))
   | exact ih0 _ _ _
   | exact ih1 _ _ _ _
   | exact cutroomref20_Alike.mono _ _
   | exact cutroomref20_Join.mono _ _ _ _ _ _ _ _ _ _ _
   | exact LeO.none _
   | refine LeO.ite ?_ ?_
   | refine LeO.bind ?_ (fun _ => ?_)
theorem cutroomref20_Pull.mono : ∀ a0 a1 k, LeO (cutroomref20_Pull.f k a0 a1) (cutroomref20_Pull.f (k + 1) a0 a1) := by
 intro a0 a1 k
 obtain ⟨ih0, ih1⟩ := cutroomref20_Pull.mono_l k
 unfold cutroomref20_Pull.f
 repeat' first
   | (with_reducible exact ih0 _ _ _)
   | (with_reducible exact ih1 _ _ _ _)
   | (with_reducible exact cutroomref20_Alike.mono _ _)
   | (with_reducible exact cutroomref20_Join.mono _ _ _ _ _ _ _ _ _ _ _)
   | (with_reducible exact LeO.refl _)
   | (with_reducible exact LeO.none _)
   | (with_reducible refine LeO.ite ?_ ?_)
   | (with_reducible refine LeO.bind ?_ (fun _ => ?_))
   | exact ih0 _ _ _
   | exact ih1 _ _ _ _
   | exact cutroomref20_Alike.mono _ _
   | exact cutroomref20_Join.mono _ _ _ _ _ _ _ _ _ _ _
   | exact LeO.none _
   | refine LeO.ite ?_ ?_
   | refine LeO.bind ?_ (fun _ => ?_)
def cutroomref20_Pull.T14 : Bool × List (List Nat × List Nat) := (true, [([], []), ([], []), ([], []), ([], []), ([2, 3], [2, 3]), ([4], [4]), ([5], [5]), ([1, 6], [1, 6]), ([7], [7]), ([], []), ([], []), ([], []), ([10, 11], [10, 11]), ([12], [12]), ([13], [13]), ([9, 14], [9, 14]), ([15], [15]), ([8, 16], [8, 16]), ([17], [17]), ([0, 18, 17], [0, 18]), ([19, 19, 0, 1, 2, 3, 4, 5, 6, 7, 8, 9, 10, 11, 12, 13, 14, 15, 16, 17, 18, 19], [0, 19])])
def cutroomref20_Pull.B14 : List Nat := [0, 0, 0, 0, 12, 28, 60, 126, 254, 0, 0, 0, 3072, 7168, 15360, 32256, 65024, 131070, 262142, 524287, 1048575]
theorem cutroomref20_Pull.tab14 : rtab .any (opsOf Try.f41 14) = cutroomref20_Pull.T14 := by kernel_rfl
theorem cutroomref20_Pull.bits14 : waitsOk cutroomref20_Pull.T14.2 cutroomref20_Pull.B14 = true := by kernel_rfl
set_option maxHeartbeats 8000000 in
set_option maxRecDepth 100000 in
theorem cutroomref20_Pull.calls (k : Nat) (A0 : Option Addr) (c0 : Nat) (l0 : List (S52)) (A1 : Option Addr) (c1 : Nat) (l1 : List (S43)) (r1 : List (S52)) (r2 : Int) (w : World) (hr0 : Kd.C k52 w A0 l0.length l0) (hc0 : l0.length ≤ c0) (hr1 : Kd.C k43 w A1 l1.length l1) (hc1 : l1.length ≤ c1) (h : cutroomref20_Pull.f k l0 l1 = some (r1, r2)) :
  Calls Try.prog 41 #[.slice A0 l0.length c0, .slice A1 l1.length c1] w fun e w' => ∃ v0_ : Value, e = .returned (.tuple #[v0_, .int .i64 r2]) ∧ Kd.S k52 52 w' w.heap.size (fun _ => True) v0_ r1 ∧ Below w.heap.size w w' := by
 have hu52 := Try.underlying52
 have HR0 := Aside0.mk hr0
 have HC0 := Aside0.mk hc0
 clear hr0 hc0
 have HR1 := Aside0.mk hr1
 have HC1 := Aside0.mk hc1
 clear hr1 hc1
 have HB := Aside0.mk (Below.refl w.heap.size w)
 have H : ((cutroomref20_Alike.f k l0).bind fun t276 => (if t276 = true then (cutroomref20_Pull.l0 k l0 l1 0) else (some (([] : List (S52)), 1)))) = some (r1, r2) := h
 clear h
 replace H := Option.bind_eq_some_iff.mp H
 obtain ⟨t276, A30, H⟩ := H
 replace H : (if t276 = true then (cutroomref20_Pull.l0 k l0 l1 0) else (some (([] : List (S52)), 1))) = some (r1, r2) := H
 have A3 := Aside0.mk A30
 clear A30
 by_cases c4 : t276 = true
 ·subst c4
  have H1 : (cutroomref20_Pull.l0 k l0 l1 0) = some (r1, r2) := by rw [if_pos rfl] at H; exact H
  clear H
  have H := H1
  clear H1
  have H' := Aside0.mk H
  clear H
  go_enter Try.func41, Try.ntmps41
  go_wp2_with (first | ((with_reducible refine xC (f := 61) rfl ?_); refine goesL_ (some 10) rfl rfl Try.func61 (by kernel_rfl) rfl #[.slice A0 l0.length c0] rfl (by (try simp only [List.map_toArray, List.map_cons, List.map_nil]); first | done | rfl | (simp only [List.length_drop, List.length_take]; rfl)) ?_; (with_reducible refine (cutroomref20_Alike.calls k _ _ l0 true _ ?side1 ?side2 A3.out).mono ?_); (case side1 => repeat (first | exact HR0.out | (with_reducible refine Kd.C_alloc ?_ _) | (with_reducible refine Kd.C_drewN ?_ _) | (with_reducible refine Kd.C_drew ?_))); (case side2 => exact HC0.out); rintro e w5 ⟨rfl, hb⟩; refine ⟨_, rfl, ?_⟩; have n0_ := Aside0.mk (zT (by repeat (first | (with_reducible first | exact HB.out | apply zA | apply zN | apply zD) | exact HB.out)) hb); clear HB; have HB := n0_; clear n0_; (try clear hb); (try clear hb2); (try clear hk); (try clear hi)))
  go_loopg [6] k (fun kq v6 w' => ∃ (x6_1 : Int), v6 = .int .i64 x6_1 ∧ Aside0 (cutroomref20_Pull.l0 kq l0 l1 x6_1 = some (r1, r2)) ∧ Aside0 (kq ≤ k) ∧ Aside0 (Below w.heap.size w w'))
  case atStart => exact ⟨(0), (by first | rfl | (simp; done) | (simp [*]; done)), H', ⟨Nat.le_refl _⟩, ⟨by repeat (first | (with_reducible first | exact HB.out | apply zA | apply zN | apply zD) | exact HB.out)⟩⟩
  case round =>
   clear H'
   (try clear c1);(try clear p2);(try clear c4)
   obtain ⟨x6_1, rfl, HA, HK1, HB⟩ := hrel
   cases gk with
   | zero => exact absurd HA.out (by simp [cutroomref20_Pull.l0])
   | succ k1 =>
    have H := HA.out
    clear HA
    simp only [cutroomref20_Pull.l0] at H
    by_cases c6 : x6_1 < (l1.length : Int)
    ·rw [if_pos c6] at H
     have c6b0 : decide (x6_1 < (l1.length : Int)) = true := decide_eq_true c6
     clear c6
     by_cases c7 : 0 ≤ x6_1
     ·rw [if_pos c7] at H
      have c7b0 : decide (0 ≤ x6_1) = true := decide_eq_true c7
      clear c7
      by_cases c8 : ((rd_T43 l1 x6_1).f0) < 0
      ·rw [if_pos c8] at H
       have c8b0 : decide (((rd_T43 l1 x6_1).f0) < 0) = true := decide_eq_true c8
       clear c8
       simp only [Option.some.injEq, Prod.mk.injEq] at H
       obtain ⟨rfl, rfl⟩ := H
       have p277 : 0 ≤ (x6_1 : Int) := of_decide_eq_true (by first | (with_reducible assumption) | assumption)
       have q277 : x6_1 < (l1.length : Int) := of_decide_eq_true (by first | (with_reducible assumption) | assumption)
       obtain ⟨ad277, e277, hx277_0, hx277_1⟩ := at_T43 HR1.out x6_1 p277 q277
       cases e277
       replace hx277_0 := (HB.out.cell (World.block_lt_of_cell? w _ hx277_0)).trans hx277_0
       replace hx277_1 := (HB.out.cell (World.block_lt_of_cell? w _ hx277_1)).trans hx277_1
       replace p277 := eq_true p277
       replace q277 := eq_true q277
       go_wp2
       go_ret2
       exact ⟨_, by first | rfl | (simp [errW_none, errW_some] <;> rfl) | (simp [*, errW_none, errW_some] <;> rfl), by first | exact Kd.S_nil _ _ _ _ _ | exact Kd.N_nil _ _ _ _ _ | exact Kd.V_nil _ _ _ _ _ | exact Kd.Q_nil _ _ _ _ _ | exact Kd.R_nil _ _ _ _ _, by repeat (first | (with_reducible first | exact HB.out | apply zA | apply zN | apply zD) | exact HB.out)⟩
      ·rw [if_neg c8] at H
       have c8b0 : decide (((rd_T43 l1 x6_1).f0) < 0) = false := decide_eq_false c8
       clear c8
       by_cases c9 : ((rd_T43 l1 x6_1).f0) ≥ (l0.length : Int)
       ·rw [if_pos c9] at H
        have c9b0 : decide ((l0.length : Int) ≤ ((rd_T43 l1 x6_1).f0)) = true := decide_eq_true c9
        clear c9
        simp only [Option.some.injEq, Prod.mk.injEq] at H
        obtain ⟨rfl, rfl⟩ := H
        have p277 : 0 ≤ (x6_1 : Int) := of_decide_eq_true (by first | (with_reducible assumption) | assumption)
        have q277 : x6_1 < (l1.length : Int) := of_decide_eq_true (by first | (with_reducible assumption) | assumption)
        obtain ⟨ad277, e277, hx277_0, hx277_1⟩ := at_T43 HR1.out x6_1 p277 q277
        cases e277
        replace hx277_0 := (HB.out.cell (World.block_lt_of_cell? w _ hx277_0)).trans hx277_0
        replace hx277_1 := (HB.out.cell (World.block_lt_of_cell? w _ hx277_1)).trans hx277_1
        replace p277 := eq_true p277
        replace q277 := eq_true q277
        have p278 : 0 ≤ (x6_1 : Int) := of_decide_eq_true (by first | (with_reducible assumption) | assumption)
        have q278 : x6_1 < (l1.length : Int) := of_decide_eq_true (by first | (with_reducible assumption) | assumption)
        obtain ⟨ad278, e278, hx278_0, hx278_1⟩ := at_T43 HR1.out x6_1 p278 q278
        obtain rfl : ad277 = ad278 := (by injection e278)
        replace hx278_0 := (HB.out.cell (World.block_lt_of_cell? w _ hx278_0)).trans hx278_0
        replace hx278_1 := (HB.out.cell (World.block_lt_of_cell? w _ hx278_1)).trans hx278_1
        replace p278 := eq_true p278
        replace q278 := eq_true q278
        go_wp2
        go_ret2
        exact ⟨_, by first | rfl | (simp [errW_none, errW_some] <;> rfl) | (simp [*, errW_none, errW_some] <;> rfl), by first | exact Kd.S_nil _ _ _ _ _ | exact Kd.N_nil _ _ _ _ _ | exact Kd.V_nil _ _ _ _ _ | exact Kd.Q_nil _ _ _ _ _ | exact Kd.R_nil _ _ _ _ _, by repeat (first | (with_reducible first | exact HB.out | apply zA | apply zN | apply zD) | exact HB.out)⟩
       ·rw [if_neg c9] at H
        have c9b0 : decide ((l0.length : Int) ≤ ((rd_T43 l1 x6_1).f0)) = false := decide_eq_false c9
        clear c9
        by_cases c10 : ((rd_T43 l1 x6_1).f1) < 0
        ·rw [if_pos c10] at H
         have c10b0 : decide (((rd_T43 l1 x6_1).f1) < 0) = true := decide_eq_true c10
         clear c10
         simp only [Option.some.injEq, Prod.mk.injEq] at H
         obtain ⟨rfl, rfl⟩ := H
         have p277 : 0 ≤ (x6_1 : Int) := of_decide_eq_true (by first | (with_reducible assumption) | assumption)
         have q277 : x6_1 < (l1.length : Int) := of_decide_eq_true (by first | (with_reducible assumption) | assumption)
         obtain ⟨ad277, e277, hx277_0, hx277_1⟩ := at_T43 HR1.out x6_1 p277 q277
         cases e277
         replace hx277_0 := (HB.out.cell (World.block_lt_of_cell? w _ hx277_0)).trans hx277_0
         replace hx277_1 := (HB.out.cell (World.block_lt_of_cell? w _ hx277_1)).trans hx277_1
         replace p277 := eq_true p277
         replace q277 := eq_true q277
         have p278 : 0 ≤ (x6_1 : Int) := of_decide_eq_true (by first | (with_reducible assumption) | assumption)
         have q278 : x6_1 < (l1.length : Int) := of_decide_eq_true (by first | (with_reducible assumption) | assumption)
         obtain ⟨ad278, e278, hx278_0, hx278_1⟩ := at_T43 HR1.out x6_1 p278 q278
         obtain rfl : ad277 = ad278 := (by injection e278)
         replace hx278_0 := (HB.out.cell (World.block_lt_of_cell? w _ hx278_0)).trans hx278_0
         replace hx278_1 := (HB.out.cell (World.block_lt_of_cell? w _ hx278_1)).trans hx278_1
         replace p278 := eq_true p278
         replace q278 := eq_true q278
         have p279 : 0 ≤ (x6_1 : Int) := of_decide_eq_true (by first | (with_reducible assumption) | assumption)
         have q279 : x6_1 < (l1.length : Int) := of_decide_eq_true (by first | (with_reducible assumption) | assumption)
         obtain ⟨ad279, e279, hx279_0, hx279_1⟩ := at_T43 HR1.out x6_1 p279 q279
         obtain rfl : ad277 = ad279 := (by injection e279)
         replace hx279_0 := (HB.out.cell (World.block_lt_of_cell? w _ hx279_0)).trans hx279_0
         replace hx279_1 := (HB.out.cell (World.block_lt_of_cell? w _ hx279_1)).trans hx279_1
         replace p279 := eq_true p279
         replace q279 := eq_true q279
         go_wp2
         go_ret2
         exact ⟨_, by first | rfl | (simp [errW_none, errW_some] <;> rfl) | (simp [*, errW_none, errW_some] <;> rfl), by first | exact Kd.S_nil _ _ _ _ _ | exact Kd.N_nil _ _ _ _ _ | exact Kd.V_nil _ _ _ _ _ | exact Kd.Q_nil _ _ _ _ _ | exact Kd.R_nil _ _ _ _ _, by repeat (first | (with_reducible first | exact HB.out | apply zA | apply zN | apply zD) | exact HB.out)⟩
        ·rw [if_neg c10] at H
         have c10b0 : decide (((rd_T43 l1 x6_1).f1) < 0) = false := decide_eq_false c10
         clear c10
         by_cases c11 : ((rd_T43 l1 x6_1).f1) ≥ (l0.length : Int)
         ·rw [if_pos c11] at H
          have c11b0 : decide ((l0.length : Int) ≤ ((rd_T43 l1 x6_1).f1)) = true := decide_eq_true c11
          clear c11
          simp only [Option.some.injEq, Prod.mk.injEq] at H
          obtain ⟨rfl, rfl⟩ := H
          have p277 : 0 ≤ (x6_1 : Int) := of_decide_eq_true (by first | (with_reducible assumption) | assumption)
          have q277 : x6_1 < (l1.length : Int) := of_decide_eq_true (by first | (with_reducible assumption) | assumption)
          obtain ⟨ad277, e277, hx277_0, hx277_1⟩ := at_T43 HR1.out x6_1 p277 q277
          cases e277
          replace hx277_0 := (HB.out.cell (World.block_lt_of_cell? w _ hx277_0)).trans hx277_0
          replace hx277_1 := (HB.out.cell (World.block_lt_of_cell? w _ hx277_1)).trans hx277_1
          replace p277 := eq_true p277
          replace q277 := eq_true q277
          have p278 : 0 ≤ (x6_1 : Int) := of_decide_eq_true (by first | (with_reducible assumption) | assumption)
          have q278 : x6_1 < (l1.length : Int) := of_decide_eq_true (by first | (with_reducible assumption) | assumption)
          obtain ⟨ad278, e278, hx278_0, hx278_1⟩ := at_T43 HR1.out x6_1 p278 q278
          obtain rfl : ad277 = ad278 := (by injection e278)
          replace hx278_0 := (HB.out.cell (World.block_lt_of_cell? w _ hx278_0)).trans hx278_0
          replace hx278_1 := (HB.out.cell (World.block_lt_of_cell? w _ hx278_1)).trans hx278_1
          replace p278 := eq_true p278
          replace q278 := eq_true q278
          have p279 : 0 ≤ (x6_1 : Int) := of_decide_eq_true (by first | (with_reducible assumption) | assumption)
          have q279 : x6_1 < (l1.length : Int) := of_decide_eq_true (by first | (with_reducible assumption) | assumption)
          obtain ⟨ad279, e279, hx279_0, hx279_1⟩ := at_T43 HR1.out x6_1 p279 q279
          obtain rfl : ad277 = ad279 := (by injection e279)
          replace hx279_0 := (HB.out.cell (World.block_lt_of_cell? w _ hx279_0)).trans hx279_0
          replace hx279_1 := (HB.out.cell (World.block_lt_of_cell? w _ hx279_1)).trans hx279_1
          replace p279 := eq_true p279
          replace q279 := eq_true q279
          have p280 : 0 ≤ (x6_1 : Int) := of_decide_eq_true (by first | (with_reducible assumption) | assumption)
          have q280 : x6_1 < (l1.length : Int) := of_decide_eq_true (by first | (with_reducible assumption) | assumption)
          obtain ⟨ad280, e280, hx280_0, hx280_1⟩ := at_T43 HR1.out x6_1 p280 q280
          obtain rfl : ad277 = ad280 := (by injection e280)
          replace hx280_0 := (HB.out.cell (World.block_lt_of_cell? w _ hx280_0)).trans hx280_0
          replace hx280_1 := (HB.out.cell (World.block_lt_of_cell? w _ hx280_1)).trans hx280_1
          replace p280 := eq_true p280
          replace q280 := eq_true q280
          go_wp2
          go_ret2
          exact ⟨_, by first | rfl | (simp [errW_none, errW_some] <;> rfl) | (simp [*, errW_none, errW_some] <;> rfl), by first | exact Kd.S_nil _ _ _ _ _ | exact Kd.N_nil _ _ _ _ _ | exact Kd.V_nil _ _ _ _ _ | exact Kd.Q_nil _ _ _ _ _ | exact Kd.R_nil _ _ _ _ _, by repeat (first | (with_reducible first | exact HB.out | apply zA | apply zN | apply zD) | exact HB.out)⟩
         ·rw [if_neg c11] at H
          have c11b0 : decide ((l0.length : Int) ≤ ((rd_T43 l1 x6_1).f1)) = false := decide_eq_false c11
          clear c11
          have H' := Aside0.mk H
          clear H
          have p277 : 0 ≤ (x6_1 : Int) := of_decide_eq_true (by first | (with_reducible assumption) | assumption)
          have q277 : x6_1 < (l1.length : Int) := of_decide_eq_true (by first | (with_reducible assumption) | assumption)
          obtain ⟨ad277, e277, hx277_0, hx277_1⟩ := at_T43 HR1.out x6_1 p277 q277
          cases e277
          replace hx277_0 := (HB.out.cell (World.block_lt_of_cell? w _ hx277_0)).trans hx277_0
          replace hx277_1 := (HB.out.cell (World.block_lt_of_cell? w _ hx277_1)).trans hx277_1
          replace p277 := eq_true p277
          replace q277 := eq_true q277
          have p278 : 0 ≤ (x6_1 : Int) := of_decide_eq_true (by first | (with_reducible assumption) | assumption)
          have q278 : x6_1 < (l1.length : Int) := of_decide_eq_true (by first | (with_reducible assumption) | assumption)
          obtain ⟨ad278, e278, hx278_0, hx278_1⟩ := at_T43 HR1.out x6_1 p278 q278
          obtain rfl : ad277 = ad278 := (by injection e278)
          replace hx278_0 := (HB.out.cell (World.block_lt_of_cell? w _ hx278_0)).trans hx278_0
          replace hx278_1 := (HB.out.cell (World.block_lt_of_cell? w _ hx278_1)).trans hx278_1
          replace p278 := eq_true p278
          replace q278 := eq_true q278
          have p279 : 0 ≤ (x6_1 : Int) := of_decide_eq_true (by first | (with_reducible assumption) | assumption)
          have q279 : x6_1 < (l1.length : Int) := of_decide_eq_true (by first | (with_reducible assumption) | assumption)
          obtain ⟨ad279, e279, hx279_0, hx279_1⟩ := at_T43 HR1.out x6_1 p279 q279
          obtain rfl : ad277 = ad279 := (by injection e279)
          replace hx279_0 := (HB.out.cell (World.block_lt_of_cell? w _ hx279_0)).trans hx279_0
          replace hx279_1 := (HB.out.cell (World.block_lt_of_cell? w _ hx279_1)).trans hx279_1
          replace p279 := eq_true p279
          replace q279 := eq_true q279
          have p280 : 0 ≤ (x6_1 : Int) := of_decide_eq_true (by first | (with_reducible assumption) | assumption)
          have q280 : x6_1 < (l1.length : Int) := of_decide_eq_true (by first | (with_reducible assumption) | assumption)
          obtain ⟨ad280, e280, hx280_0, hx280_1⟩ := at_T43 HR1.out x6_1 p280 q280
          obtain rfl : ad277 = ad280 := (by injection e280)
          replace hx280_0 := (HB.out.cell (World.block_lt_of_cell? w _ hx280_0)).trans hx280_0
          replace hx280_1 := (HB.out.cell (World.block_lt_of_cell? w _ hx280_1)).trans hx280_1
          replace p280 := eq_true p280
          replace q280 := eq_true q280
          go_wp2
          go_roundg k1
          case measure => have := HK1.out; omega
          case rel => exact ⟨(wrap64 (x6_1 + 1)), (by first | rfl | (simp; done) | (simp [*]; done)), H', ⟨by have := HK1.out; omega⟩, ⟨by repeat (first | (with_reducible first | exact HB.out | apply zA | apply zN | apply zD) | exact HB.out)⟩⟩
     ·rw [if_neg c7] at H
      exact absurd H (by simp)
    ·rw [if_neg c6] at H
     have c6b0 : decide (x6_1 < (l1.length : Int)) = false := decide_eq_false c6
     clear c6
     by_cases c12 : (l1.length : Int) > 256
     ·rw [if_pos c12] at H
      have c12b0 : decide (256 < (l1.length : Int)) = true := decide_eq_true c12
      have c12b1 : decide (256 < l1.length) = true := decide_eq_true (by omega)
      clear c12
      simp only [Option.some.injEq, Prod.mk.injEq] at H
      obtain ⟨rfl, rfl⟩ := H
      go_wp2
      go_ret2
      exact ⟨_, by first | rfl | (simp [errW_none, errW_some] <;> rfl) | (simp [*, errW_none, errW_some] <;> rfl), by first | exact Kd.S_nil _ _ _ _ _ | exact Kd.N_nil _ _ _ _ _ | exact Kd.V_nil _ _ _ _ _ | exact Kd.Q_nil _ _ _ _ _ | exact Kd.R_nil _ _ _ _ _, by repeat (first | (with_reducible first | exact HB.out | apply zA | apply zN | apply zD) | exact HB.out)⟩
     ·rw [if_neg c12] at H
      have c12b0 : decide (256 < (l1.length : Int)) = false := decide_eq_false c12
      have c12b1 : decide (256 < l1.length) = false := decide_eq_false (by omega)
      clear c12
      have H' := Aside0.mk H
      clear H
      go_wp2
      go_loopg [7, 8] k1 (fun kq v7 v8 w' => ∃ (x7_2 : List (S52)) (x8_2 : Int), v8 = .int .i64 x8_2 ∧ Aside0 (cutroomref20_Pull.l1 kq l0 l1 x7_2 x8_2 = some (r1, r2)) ∧ Aside0 (kq ≤ k1) ∧ Aside0 (Kd.S k52 52 w' w.heap.size (fun _ => True) v7 x7_2) ∧ Aside0 (Below w.heap.size w w'))
      case atStart => exact ⟨(([] : List (S52))), (0), (by first | rfl | (simp; done) | (simp [*]; done)), H', ⟨Nat.le_refl _⟩, ⟨by first | exact Kd.S_nil _ _ _ _ _ | exact Kd.N_nil _ _ _ _ _ | exact Kd.V_nil _ _ _ _ _ | exact Kd.Q_nil _ _ _ _ _ | exact Kd.R_nil _ _ _ _ _⟩, ⟨by repeat (first | (with_reducible first | exact HB.out | apply zA | apply zN | apply zD) | exact HB.out)⟩⟩
      case round =>
       clear H'
       (try clear c1);(try clear p2);(try clear q2);(try clear hx2);(try clear c4);(try clear c6);(try clear c6b0);(try clear p6);(try clear c7);(try clear c7b0);(try clear c8);(try clear c8b0);(try clear c9);(try clear c9b0);(try clear c10);(try clear c10b0);(try clear c11);(try clear c11b0);(try clear c12);(try clear c12b0);(try clear c12b1);(try clear hx277_0);(try clear hx277_1);(try clear hx278_0);(try clear hx278_1);(try clear hx279_0);(try clear hx279_1);(try clear hx280_0);(try clear hx280_1);(try clear p2);(try clear p277);(try clear p278);(try clear p279);(try clear p280);(try clear q277);(try clear q278);(try clear q279);(try clear q280)
       obtain ⟨x7_2, x8_2, rfl, HA, HK2, HO_7, HB⟩ := hrel
       cases gk with
       | zero => exact absurd HA.out (by simp [cutroomref20_Pull.l1])
       | succ k2 =>
        have H := HA.out
        clear HA
        simp only [cutroomref20_Pull.l1] at H
        by_cases c13 : x8_2 < (l1.length : Int)
        ·rw [if_pos c13] at H
         have c13b0 : decide (x8_2 < (l1.length : Int)) = true := decide_eq_true c13
         clear c13
         by_cases c14 : 0 ≤ x8_2
         ·rw [if_pos c14] at H
          have c14b0 : decide (0 ≤ x8_2) = true := decide_eq_true c14
          clear c14
          by_cases c15 : 0 ≤ ((rd_T43 l1 x8_2).f0)
          ·rw [if_pos c15] at H
           have c15b0 : decide (0 ≤ ((rd_T43 l1 x8_2).f0)) = true := decide_eq_true c15
           clear c15
           by_cases c16 : ((rd_T43 l1 x8_2).f0) < (l0.length : Int)
           ·rw [if_pos c16] at H
            have c16b0 : decide (((rd_T43 l1 x8_2).f0) < (l0.length : Int)) = true := decide_eq_true c16
            clear c16
            by_cases c17 : 0 ≤ ((rd_T43 l1 x8_2).f1)
            ·rw [if_pos c17] at H
             have c17b0 : decide (0 ≤ ((rd_T43 l1 x8_2).f1)) = true := decide_eq_true c17
             clear c17
             by_cases c18 : ((rd_T43 l1 x8_2).f1) < (l0.length : Int)
             ·rw [if_pos c18] at H
              have c18b0 : decide (((rd_T43 l1 x8_2).f1) < (l0.length : Int)) = true := decide_eq_true c18
              clear c18
              replace H := Option.bind_eq_some_iff.mp H
              obtain ⟨⟨t285, t286, t287, t290, t293⟩, A190, H⟩ := H
              replace H : (if x7_2.length < 1599289640401 then (cutroomref20_Pull.l1 k2 l0 l1 (x7_2 ++ [(⟨t285, t286, t287, t290, t293⟩ : S52)]) (wrap64 (x8_2 + 1))) else (none)) = some (r1, r2) := H
              have A19 := Aside0.mk A190
              clear A190
              by_cases c20 : x7_2.length < 1599289640401
              ·rw [if_pos c20] at H
               have LMc20 := Aside0.mk c20
               clear c20
               obtain ⟨y296, hy296⟩ : ∃ y_ : List (S52), y_ = (x7_2 ++ [(⟨t285, t286, t287, t290, t293⟩ : S52)]) := ⟨_, rfl⟩
               replace H : (cutroomref20_Pull.l1 k2 l0 l1 y296 (wrap64 (x8_2 + 1))) = some (r1, r2) := by first | (rw [hy296]; with_reducible exact H) | (have H2_ := (Option.bind_some _ _).symm.trans H; rw [hy296]; with_reducible exact H2_) | (have H2_ := (Option.bind_some _ _).symm.trans H; with_reducible exact H2_) | with_reducible exact H | (rw [hy296]; exact H) | exact H
               have Ny296 := Aside0.mk hy296
               clear hy296
               have H' := Aside0.mk H
               clear H
               try go_wp2
               have n0_ := Aside0.mk (Kd.S_drew HO_7.out)
               have n1_ := Aside0.mk (zD HB.out)
               clear HO_7
               clear HB
               have HO_7 := n0_
               have HB := n1_
               clear n0_ n1_
               have p281 : 0 ≤ (x8_2 : Int) := of_decide_eq_true (by first | (with_reducible assumption) | assumption)
               have q281 : x8_2 < (l1.length : Int) := of_decide_eq_true (by first | (with_reducible assumption) | assumption)
               obtain ⟨ad281, e281, hx281_0, hx281_1⟩ := at_T43 HR1.out x8_2 p281 q281
               have hw281_1 := hx281_1
               have hw281_0 := hx281_0
               cases e281
               replace hx281_0 := (HB.out.cell (World.block_lt_of_cell? w _ hx281_0)).trans hx281_0
               replace hx281_1 := (HB.out.cell (World.block_lt_of_cell? w _ hx281_1)).trans hx281_1
               replace p281 := eq_true p281
               replace q281 := eq_true q281
               have p282 : 0 ≤ (((rd_T43 l1 x8_2).f0) : Int) := of_decide_eq_true (by first | (with_reducible assumption) | assumption)
               have q282 : ((rd_T43 l1 x8_2).f0) < (l0.length : Int) := of_decide_eq_true (by first | (with_reducible assumption) | assumption)
               obtain ⟨ad282, A282_2, c282_2, A282_3, c282_3, A282_4, c282_4, e282, hx282_0, hx282_1, hx282_2, hx282_3, hx282_4, hl282_2, hi282_2, hl282_3, hi282_3, hl282_4, hi282_4⟩ := at_T52 HR0.out ((rd_T43 l1 x8_2).f0) p282 q282
               have hw282_4 := hx282_4
               have hw282_3 := hx282_3
               have hw282_2 := hx282_2
               have hw282_1 := hx282_1
               have hw282_0 := hx282_0
               cases e282
               replace hx282_0 := (HB.out.cell (World.block_lt_of_cell? w _ hx282_0)).trans hx282_0
               replace hx282_1 := (HB.out.cell (World.block_lt_of_cell? w _ hx282_1)).trans hx282_1
               replace hx282_2 := (HB.out.cell (World.block_lt_of_cell? w _ hx282_2)).trans hx282_2
               replace hx282_3 := (HB.out.cell (World.block_lt_of_cell? w _ hx282_3)).trans hx282_3
               replace hx282_4 := (HB.out.cell (World.block_lt_of_cell? w _ hx282_4)).trans hx282_4
               have HR282_2 := Aside0.mk hi282_2
               have HC282_2 := Aside0.mk hl282_2
               clear hi282_2 hl282_2
               have HR282_3 := Aside0.mk hi282_3
               have HC282_3 := Aside0.mk hl282_3
               clear hi282_3 hl282_3
               have HR282_4 := Aside0.mk hi282_4
               have HC282_4 := Aside0.mk hl282_4
               clear hi282_4 hl282_4
               replace p282 := eq_true p282
               replace q282 := eq_true q282
               have p283 : 0 ≤ (x8_2 : Int) := of_decide_eq_true (by first | (with_reducible assumption) | assumption)
               have q283 : x8_2 < (l1.length : Int) := of_decide_eq_true (by first | (with_reducible assumption) | assumption)
               obtain ⟨ad283, e283, hx283_0, hx283_1⟩ := at_T43 HR1.out x8_2 p283 q283
               have hw283_1 := hx283_1
               have hw283_0 := hx283_0
               obtain rfl : ad281 = ad283 := (by injection e283)
               replace hx283_0 := (HB.out.cell (World.block_lt_of_cell? w _ hx283_0)).trans hx283_0
               replace hx283_1 := (HB.out.cell (World.block_lt_of_cell? w _ hx283_1)).trans hx283_1
               replace p283 := eq_true p283
               replace q283 := eq_true q283
               have p284 : 0 ≤ (((rd_T43 l1 x8_2).f1) : Int) := of_decide_eq_true (by first | (with_reducible assumption) | assumption)
               have q284 : ((rd_T43 l1 x8_2).f1) < (l0.length : Int) := of_decide_eq_true (by first | (with_reducible assumption) | assumption)
               obtain ⟨ad284, A284_2, c284_2, A284_3, c284_3, A284_4, c284_4, e284, hx284_0, hx284_1, hx284_2, hx284_3, hx284_4, hl284_2, hi284_2, hl284_3, hi284_3, hl284_4, hi284_4⟩ := at_T52 HR0.out ((rd_T43 l1 x8_2).f1) p284 q284
               have hw284_4 := hx284_4
               have hw284_3 := hx284_3
               have hw284_2 := hx284_2
               have hw284_1 := hx284_1
               have hw284_0 := hx284_0
               obtain rfl : ad282 = ad284 := (by injection e284)
               replace hx284_0 := (HB.out.cell (World.block_lt_of_cell? w _ hx284_0)).trans hx284_0
               replace hx284_1 := (HB.out.cell (World.block_lt_of_cell? w _ hx284_1)).trans hx284_1
               replace hx284_2 := (HB.out.cell (World.block_lt_of_cell? w _ hx284_2)).trans hx284_2
               replace hx284_3 := (HB.out.cell (World.block_lt_of_cell? w _ hx284_3)).trans hx284_3
               replace hx284_4 := (HB.out.cell (World.block_lt_of_cell? w _ hx284_4)).trans hx284_4
               have HR284_2 := Aside0.mk hi284_2
               have HC284_2 := Aside0.mk hl284_2
               clear hi284_2 hl284_2
               have HR284_3 := Aside0.mk hi284_3
               have HC284_3 := Aside0.mk hl284_3
               clear hi284_3 hl284_3
               have HR284_4 := Aside0.mk hi284_4
               have HC284_4 := Aside0.mk hl284_4
               clear hi284_4 hl284_4
               replace p284 := eq_true p284
               replace q284 := eq_true q284
               refine start_ (n := 21) (S := fun w' => w'.cell? (ad281.add ((x8_2).toNat * 2)) = some (.int .i64 ((rd_T43 l1 x8_2).f0)) ∧ w'.cell? ⟨(ad281.add ((x8_2).toNat * 2)).block, (ad281.add ((x8_2).toNat * 2)).off + 1, none⟩ = some (.int .i64 ((rd_T43 l1 x8_2).f1)) ∧ w'.cell? (ad282.add ((((rd_T43 l1 x8_2).f0)).toNat * 5)) = some (.int .i64 ((rd_T52 l0 ((rd_T43 l1 x8_2).f0)).f0)) ∧ w'.cell? ⟨(ad282.add ((((rd_T43 l1 x8_2).f0)).toNat * 5)).block, (ad282.add ((((rd_T43 l1 x8_2).f0)).toNat * 5)).off + 1, none⟩ = some (.int .i64 ((rd_T52 l0 ((rd_T43 l1 x8_2).f0)).f1)) ∧ w'.cell? ⟨(ad282.add ((((rd_T43 l1 x8_2).f0)).toNat * 5)).block, (ad282.add ((((rd_T43 l1 x8_2).f0)).toNat * 5)).off + 2, none⟩ = some (.slice A282_2 ((rd_T52 l0 ((rd_T43 l1 x8_2).f0)).f2).length c282_2) ∧ w'.cell? ⟨(ad282.add ((((rd_T43 l1 x8_2).f0)).toNat * 5)).block, (ad282.add ((((rd_T43 l1 x8_2).f0)).toNat * 5)).off + 3, none⟩ = some (.slice A282_3 ((rd_T52 l0 ((rd_T43 l1 x8_2).f0)).f3).length c282_3) ∧ w'.cell? ⟨(ad282.add ((((rd_T43 l1 x8_2).f0)).toNat * 5)).block, (ad282.add ((((rd_T43 l1 x8_2).f0)).toNat * 5)).off + 4, none⟩ = some (.slice A282_4 ((rd_T52 l0 ((rd_T43 l1 x8_2).f0)).f4).length c282_4) ∧ w'.cell? (ad281.add ((x8_2).toNat * 2)) = some (.int .i64 ((rd_T43 l1 x8_2).f0)) ∧ w'.cell? ⟨(ad281.add ((x8_2).toNat * 2)).block, (ad281.add ((x8_2).toNat * 2)).off + 1, none⟩ = some (.int .i64 ((rd_T43 l1 x8_2).f1)) ∧ w'.cell? (ad282.add ((((rd_T43 l1 x8_2).f1)).toNat * 5)) = some (.int .i64 ((rd_T52 l0 ((rd_T43 l1 x8_2).f1)).f0)) ∧ w'.cell? ⟨(ad282.add ((((rd_T43 l1 x8_2).f1)).toNat * 5)).block, (ad282.add ((((rd_T43 l1 x8_2).f1)).toNat * 5)).off + 1, none⟩ = some (.int .i64 ((rd_T52 l0 ((rd_T43 l1 x8_2).f1)).f1)) ∧ w'.cell? ⟨(ad282.add ((((rd_T43 l1 x8_2).f1)).toNat * 5)).block, (ad282.add ((((rd_T43 l1 x8_2).f1)).toNat * 5)).off + 2, none⟩ = some (.slice A284_2 ((rd_T52 l0 ((rd_T43 l1 x8_2).f1)).f2).length c284_2) ∧ w'.cell? ⟨(ad282.add ((((rd_T43 l1 x8_2).f1)).toNat * 5)).block, (ad282.add ((((rd_T43 l1 x8_2).f1)).toNat * 5)).off + 3, none⟩ = some (.slice A284_3 ((rd_T52 l0 ((rd_T43 l1 x8_2).f1)).f3).length c284_3) ∧ w'.cell? ⟨(ad282.add ((((rd_T43 l1 x8_2).f1)).toNat * 5)).block, (ad282.add ((((rd_T43 l1 x8_2).f1)).toNat * 5)).off + 4, none⟩ = some (.slice A284_4 ((rd_T52 l0 ((rd_T43 l1 x8_2).f1)).f4).length c284_4)) (ds := []) #[false, false, false, false, false, false, false, false, false, false, false, false, false, false, false, false, false, false, false, false, false] (by kernel_rfl) rfl rfl ⟨((HB.out.cell (World.block_lt_of_cell? w _ hw281_0)).trans hw281_0), ((HB.out.cell (World.block_lt_of_cell? w _ hw281_1)).trans hw281_1), ((HB.out.cell (World.block_lt_of_cell? w _ hw282_0)).trans hw282_0), ((HB.out.cell (World.block_lt_of_cell? w _ hw282_1)).trans hw282_1), ((HB.out.cell (World.block_lt_of_cell? w _ hw282_2)).trans hw282_2), ((HB.out.cell (World.block_lt_of_cell? w _ hw282_3)).trans hw282_3), ((HB.out.cell (World.block_lt_of_cell? w _ hw282_4)).trans hw282_4), ((HB.out.cell (World.block_lt_of_cell? w _ hw283_0)).trans hw283_0), ((HB.out.cell (World.block_lt_of_cell? w _ hw283_1)).trans hw283_1), ((HB.out.cell (World.block_lt_of_cell? w _ hw284_0)).trans hw284_0), ((HB.out.cell (World.block_lt_of_cell? w _ hw284_1)).trans hw284_1), ((HB.out.cell (World.block_lt_of_cell? w _ hw284_2)).trans hw284_2), ((HB.out.cell (World.block_lt_of_cell? w _ hw284_3)).trans hw284_3), ((HB.out.cell (World.block_lt_of_cell? w _ hw284_4)).trans hw284_4)⟩ (fun hHeld => ?_); refine with_tabW cutroomref20_Pull.tab14 cutroomref20_Pull.bits14 (fun HT_ HW_ => ?_)
               generalize wr.drew = w21 at HO_7 HB HR282_2 HR282_3 HR282_4 HR284_2 HR284_3 HR284_4 hx281_0 hx281_1 hx282_0 hx282_1 hx282_2 hx282_3 hx282_4 hx283_0 hx283_1 hx284_0 hx284_1 hx284_2 hx284_3 hx284_4 hHeld ⊢
               refine Abb.pS 0 61 #[T', F', F', F', F', F', F', F', F', F', F', F', F', F', F', F', F', F', F', F', F'] HT_ ?_
               refine Abb.pS 1 62 #[T', T', F', F', F', F', F', F', F', F', F', F', F', F', F', F', F', F', F', F', F'] HT_ ?_
               refine Abb.pS 2 63 #[T', T', T', F', F', F', F', F', F', F', F', F', F', F', F', F', F', F', F', F', F'] HT_ ?_
               refine Abb.pS 3 64 #[T', T', T', T', F', F', F', F', F', F', F', F', F', F', F', F', F', F', F', F', F'] HT_ ?_
               refine Abb.pS 4 65 #[T', T', T', T', T', F', F', F', F', F', F', F', F', F', F', F', F', F', F', F', F'] HT_ ?_
               refine Abb.pS 5 66 #[T', T', T', T', T', T', F', F', F', F', F', F', F', F', F', F', F', F', F', F', F'] HT_ ?_
               refine Abb.pS 9 70 #[T', T', T', T', T', T', F', F', F', T', F', F', F', F', F', F', F', F', F', F', F'] HT_ ?_
               refine Abb.pS 10 71 #[T', T', T', T', T', T', F', F', F', T', T', F', F', F', F', F', F', F', F', F', F'] HT_ ?_
               refine Abb.pS 11 72 #[T', T', T', T', T', T', F', F', F', T', T', T', F', F', F', F', F', F', F', F', F'] HT_ ?_
               refine Abb.pS 12 73 #[T', T', T', T', T', T', F', F', F', T', T', T', T', F', F', F', F', F', F', F', F'] HT_ ?_
               refine Abb.pS 13 74 #[T', T', T', T', T', T', F', F', F', T', T', T', T', T', F', F', F', F', F', F', F'] HT_ ?_
               refine Abb.pT 6 67 #[T', T', T', T', T', T', T', F', F', T', T', T', T', T', F', F', F', F', F', F', F'] HT_ HW_ hHeld ?_
               refine Abb.pS 7 68 #[T', T', T', T', T', T', T', T', F', T', T', T', T', T', F', F', F', F', F', F', F'] HT_ ?_
               refine Abb.pT 8 69 #[T', T', T', T', T', T', T', T', T', T', T', T', T', T', F', F', F', F', F', F', F'] HT_ HW_ hHeld ?_
               refine Abb.pT 14 75 #[T', T', T', T', T', T', T', T', T', T', T', T', T', T', T', F', F', F', F', F', F'] HT_ HW_ hHeld ?_
               refine Abb.pS 15 76 #[T', T', T', T', T', T', T', T', T', T', T', T', T', T', T', T', F', F', F', F', F'] HT_ ?_
               refine Abb.pT 16 77 #[T', T', T', T', T', T', T', T', T', T', T', T', T', T', T', T', T', F', F', F', F'] HT_ HW_ hHeld ?_
               refine one_ (i := 17) (N := some 78) #[T', T', T', T', T', T', T', T', T', T', T', T', T', T', T', T', T', T', F', F', F'] rfl rfl (one_of HT_.out (by kernel_rfl)) (by decide) (fun K hK => ?_)
               refine goes_ Try.func46 (by kernel_rfl) rfl #[.agg #[.int .i64 ((rd_T52 l0 ((rd_T43 l1 x8_2).f0)).f0), .int .i64 ((rd_T52 l0 ((rd_T43 l1 x8_2).f0)).f1), .slice A282_2 ((rd_T52 l0 ((rd_T43 l1 x8_2).f0)).f2).length c282_2, .slice A282_3 ((rd_T52 l0 ((rd_T43 l1 x8_2).f0)).f3).length c282_3, .slice A282_4 ((rd_T52 l0 ((rd_T43 l1 x8_2).f0)).f4).length c282_4], .agg #[.int .i64 ((rd_T52 l0 ((rd_T43 l1 x8_2).f1)).f0), .int .i64 ((rd_T52 l0 ((rd_T43 l1 x8_2).f1)).f1), .slice A284_2 ((rd_T52 l0 ((rd_T43 l1 x8_2).f1)).f2).length c284_2, .slice A284_3 ((rd_T52 l0 ((rd_T43 l1 x8_2).f1)).f3).length c284_3, .slice A284_4 ((rd_T52 l0 ((rd_T43 l1 x8_2).f1)).f4).length c284_4]] (by rfl) rfl rfl (by (try simp only [List.map_toArray, List.map_cons, List.map_nil]); first | done | rfl | (simp only [List.length_drop, List.length_take]; rfl)) ?_
               with_reducible refine (cutroomref20_Join.calls k2 ((rd_T52 l0 ((rd_T43 l1 x8_2).f0)).f0) ((rd_T52 l0 ((rd_T43 l1 x8_2).f0)).f1) _ _ ((rd_T52 l0 ((rd_T43 l1 x8_2).f0)).f2) _ _ ((rd_T52 l0 ((rd_T43 l1 x8_2).f0)).f3) _ _ ((rd_T52 l0 ((rd_T43 l1 x8_2).f0)).f4) ((rd_T52 l0 ((rd_T43 l1 x8_2).f1)).f0) ((rd_T52 l0 ((rd_T43 l1 x8_2).f1)).f1) _ _ ((rd_T52 l0 ((rd_T43 l1 x8_2).f1)).f2) _ _ ((rd_T52 l0 ((rd_T43 l1 x8_2).f1)).f3) _ _ ((rd_T52 l0 ((rd_T43 l1 x8_2).f1)).f4) t285 t286 t287 t290 t293 _ ?side1 ?side2 ?side3 ?side4 ?side5 ?side6 ?side7 ?side8 ?side9 ?side10 ?side11 ?side12 A19.out).mono ?_
               (case side1 => repeat (first | exact (Kd.C_below HR282_2.out HB.out) | (with_reducible refine Kd.C_alloc ?_ _) | (with_reducible refine Kd.C_drewN ?_ _) | (with_reducible refine Kd.C_drew ?_)))
               (case side2 => exact HC282_2.out)
               (case side3 => repeat (first | exact (Kd.C_below HR282_3.out HB.out) | (with_reducible refine Kd.C_alloc ?_ _) | (with_reducible refine Kd.C_drewN ?_ _) | (with_reducible refine Kd.C_drew ?_)))
               (case side4 => exact HC282_3.out)
               (case side5 => repeat (first | exact (Kd.C_below HR282_4.out HB.out) | (with_reducible refine Kd.C_alloc ?_ _) | (with_reducible refine Kd.C_drewN ?_ _) | (with_reducible refine Kd.C_drew ?_)))
               (case side6 => exact HC282_4.out)
               (case side7 => repeat (first | exact (Kd.C_below HR284_2.out HB.out) | (with_reducible refine Kd.C_alloc ?_ _) | (with_reducible refine Kd.C_drewN ?_ _) | (with_reducible refine Kd.C_drew ?_)))
               (case side8 => exact HC284_2.out)
               (case side9 => repeat (first | exact (Kd.C_below HR284_3.out HB.out) | (with_reducible refine Kd.C_alloc ?_ _) | (with_reducible refine Kd.C_drewN ?_ _) | (with_reducible refine Kd.C_drew ?_)))
               (case side10 => exact HC284_3.out)
               (case side11 => repeat (first | exact (Kd.C_below HR284_4.out HB.out) | (with_reducible refine Kd.C_alloc ?_ _) | (with_reducible refine Kd.C_drewN ?_ _) | (with_reducible refine Kd.C_drew ?_)))
               (case side12 => exact HC284_4.out)
               rintro e w22 ⟨v288, v291, v294, rfl, ho0, ho1, ho2, hb⟩
               refine ⟨_, rfl, ?_⟩
               have n0_ := Aside0.mk (Kd.S_mono (Kd.S_told (Kd.S_told (Kd.S_told (Kd.S_old (by (with_reducible repeat (first | apply Kd.S_alloc | apply Kd.S_drewN | apply Kd.S_drew)); exact HO_7.out) hb) (Kd.R_base ho0)) (Kd.R_base ho1)) (Kd.R_base ho2)) (fun _ h_ => h_.1))
               have n1_ := Aside0.mk (Kd.R_lower ho0 (zS (by repeat (first | (with_reducible first | exact HB.out | apply zA | apply zN | apply zD) | exact HB.out))))
               have n2_ := Aside0.mk (Kd.R_lower ho1 (zS (by repeat (first | (with_reducible first | exact HB.out | apply zA | apply zN | apply zD) | exact HB.out))))
               have n3_ := Aside0.mk (Kd.R_lower ho2 (zS (by repeat (first | (with_reducible first | exact HB.out | apply zA | apply zN | apply zD) | exact HB.out))))
               have n4_ := Aside0.mk (zT (by repeat (first | (with_reducible first | exact HB.out | apply zA | apply zN | apply zD) | exact HB.out)) hb)
               clear HO_7
               clear HB
               have HO_7 := n0_
               have HO289 := n1_
               have HO292 := n2_
               have HO295 := n3_
               have HB := n4_
               clear n0_ n1_ n2_ n3_ n4_
               (try clear hb)
               (try clear hb2)
               (try clear hk)
               (try clear hi)
               (try clear ho0)
               (try clear ho1)
               (try clear ho2)
               obtain ⟨Ao24, co24, eo24⟩ := Kd.R_slice HO289.out
               (first | subst eo24 | (injection eo24 with f1_ f2_ f3_; have f4_ := f1_.symm; have f5_ := f3_.symm; clear f1_ f2_ f3_; subst f4_; subst f5_))
               obtain ⟨Ao25, co25, eo25⟩ := Kd.R_slice HO292.out
               (first | subst eo25 | (injection eo25 with f1_ f2_ f3_; have f4_ := f1_.symm; have f5_ := f3_.symm; clear f1_ f2_ f3_; subst f4_; subst f5_))
               obtain ⟨Ao26, co26, eo26⟩ := Kd.R_slice HO295.out
               (first | subst eo26 | (injection eo26 with f1_ f2_ f3_; have f4_ := f1_.symm; have f5_ := f3_.symm; clear f1_ f2_ f3_; subst f4_; subst f5_))
               refine hK.out _ _ ⟨((HB.out.cell (World.block_lt_of_cell? w _ hw281_0)).trans hw281_0), ((HB.out.cell (World.block_lt_of_cell? w _ hw281_1)).trans hw281_1), ((HB.out.cell (World.block_lt_of_cell? w _ hw282_0)).trans hw282_0), ((HB.out.cell (World.block_lt_of_cell? w _ hw282_1)).trans hw282_1), ((HB.out.cell (World.block_lt_of_cell? w _ hw282_2)).trans hw282_2), ((HB.out.cell (World.block_lt_of_cell? w _ hw282_3)).trans hw282_3), ((HB.out.cell (World.block_lt_of_cell? w _ hw282_4)).trans hw282_4), ((HB.out.cell (World.block_lt_of_cell? w _ hw283_0)).trans hw283_0), ((HB.out.cell (World.block_lt_of_cell? w _ hw283_1)).trans hw283_1), ((HB.out.cell (World.block_lt_of_cell? w _ hw284_0)).trans hw284_0), ((HB.out.cell (World.block_lt_of_cell? w _ hw284_1)).trans hw284_1), ((HB.out.cell (World.block_lt_of_cell? w _ hw284_2)).trans hw284_2), ((HB.out.cell (World.block_lt_of_cell? w _ hw284_3)).trans hw284_3), ((HB.out.cell (World.block_lt_of_cell? w _ hw284_4)).trans hw284_4)⟩ (fun hHeld => ?_)
               clear hK K
               refine norm_ (a' := ?_) ?_ ?_
               rotate_left
               ·show Act.put _ (some 78) _ = _
                simp only [Act.put, sA, sZ, sS, i64_w, i32_w]
                rfl
               refine one_ (i := 18) (N := some 79) #[T', T', T', T', T', T', T', T', T', T', T', T', T', T', T', T', T', T', T', F', F'] rfl rfl (one_of HT_.out (by kernel_rfl)) (by decide) (fun K hK => ?_)
               refine value_ (w1 := ?_) (v := ?_) (by rfl) rfl ?_ ?_
               rotate_left 2
               ·go_simp
                constructor
                ·rfl
                ·rfl
               refine hK.out _ _ ⟨(World.cell?_alloc_lt _ _ _ (World.block_lt_of_cell? _ _ (((HB.out.cell (World.block_lt_of_cell? w _ hw281_0)).trans hw281_0)))).trans (((HB.out.cell (World.block_lt_of_cell? w _ hw281_0)).trans hw281_0)), (World.cell?_alloc_lt _ _ _ (World.block_lt_of_cell? _ _ (((HB.out.cell (World.block_lt_of_cell? w _ hw281_1)).trans hw281_1)))).trans (((HB.out.cell (World.block_lt_of_cell? w _ hw281_1)).trans hw281_1)), (World.cell?_alloc_lt _ _ _ (World.block_lt_of_cell? _ _ (((HB.out.cell (World.block_lt_of_cell? w _ hw282_0)).trans hw282_0)))).trans (((HB.out.cell (World.block_lt_of_cell? w _ hw282_0)).trans hw282_0)), (World.cell?_alloc_lt _ _ _ (World.block_lt_of_cell? _ _ (((HB.out.cell (World.block_lt_of_cell? w _ hw282_1)).trans hw282_1)))).trans (((HB.out.cell (World.block_lt_of_cell? w _ hw282_1)).trans hw282_1)), (World.cell?_alloc_lt _ _ _ (World.block_lt_of_cell? _ _ (((HB.out.cell (World.block_lt_of_cell? w _ hw282_2)).trans hw282_2)))).trans (((HB.out.cell (World.block_lt_of_cell? w _ hw282_2)).trans hw282_2)), (World.cell?_alloc_lt _ _ _ (World.block_lt_of_cell? _ _ (((HB.out.cell (World.block_lt_of_cell? w _ hw282_3)).trans hw282_3)))).trans (((HB.out.cell (World.block_lt_of_cell? w _ hw282_3)).trans hw282_3)), (World.cell?_alloc_lt _ _ _ (World.block_lt_of_cell? _ _ (((HB.out.cell (World.block_lt_of_cell? w _ hw282_4)).trans hw282_4)))).trans (((HB.out.cell (World.block_lt_of_cell? w _ hw282_4)).trans hw282_4)), (World.cell?_alloc_lt _ _ _ (World.block_lt_of_cell? _ _ (((HB.out.cell (World.block_lt_of_cell? w _ hw283_0)).trans hw283_0)))).trans (((HB.out.cell (World.block_lt_of_cell? w _ hw283_0)).trans hw283_0)), (World.cell?_alloc_lt _ _ _ (World.block_lt_of_cell? _ _ (((HB.out.cell (World.block_lt_of_cell? w _ hw283_1)).trans hw283_1)))).trans (((HB.out.cell (World.block_lt_of_cell? w _ hw283_1)).trans hw283_1)), (World.cell?_alloc_lt _ _ _ (World.block_lt_of_cell? _ _ (((HB.out.cell (World.block_lt_of_cell? w _ hw284_0)).trans hw284_0)))).trans (((HB.out.cell (World.block_lt_of_cell? w _ hw284_0)).trans hw284_0)), (World.cell?_alloc_lt _ _ _ (World.block_lt_of_cell? _ _ (((HB.out.cell (World.block_lt_of_cell? w _ hw284_1)).trans hw284_1)))).trans (((HB.out.cell (World.block_lt_of_cell? w _ hw284_1)).trans hw284_1)), (World.cell?_alloc_lt _ _ _ (World.block_lt_of_cell? _ _ (((HB.out.cell (World.block_lt_of_cell? w _ hw284_2)).trans hw284_2)))).trans (((HB.out.cell (World.block_lt_of_cell? w _ hw284_2)).trans hw284_2)), (World.cell?_alloc_lt _ _ _ (World.block_lt_of_cell? _ _ (((HB.out.cell (World.block_lt_of_cell? w _ hw284_3)).trans hw284_3)))).trans (((HB.out.cell (World.block_lt_of_cell? w _ hw284_3)).trans hw284_3)), (World.cell?_alloc_lt _ _ _ (World.block_lt_of_cell? _ _ (((HB.out.cell (World.block_lt_of_cell? w _ hw284_4)).trans hw284_4)))).trans (((HB.out.cell (World.block_lt_of_cell? w _ hw284_4)).trans hw284_4))⟩ (fun hHeld => ?_)
               clear hK K
               refine norm_ (a' := ?_) ?_ ?_
               rotate_left
               ·show Act.put _ (some 79) _ = _
                simp only [Act.put, sA, sZ, sS, i64_w, i32_w]
                rfl
               refine one_ (i := 19) (N := some 80) #[T', T', T', T', T', T', T', T', T', T', T', T', T', T', T', T', T', T', T', T', F'] rfl rfl (one_of HT_.out (by kernel_rfl)) (by decide) (fun K hK => ?_)
               refine Kd.S_append_step k52 (w0 := w) w.heap.size (by rfl) (.tmp 61) (.tmp 79) 48 52 (.agg #[(.int .i64 0), (.int .i64 0), (.slice none 0 0), (.slice none 0 0), (.slice none 0 0)]) 88 rfl Try.underlying48 info52 rfl (by decide) (by omega) u7 x7_2 (⟨t285, t286, t287, t290, t293⟩ : S52) [.int .i64 t285, .int .i64 t286, .slice Ao24 t287.length co24, .slice Ao25 t290.length co25, .slice Ao26 t293.length co26] (fun _ => True) (fun k_ => some k_ = (.slice Ao24 t287.length co24 : Value).ownBlock ∨ some k_ = (.slice Ao25 t290.length co25 : Value).ownBlock ∨ some k_ = (.slice Ao26 t293.length co26 : Value).ownBlock) rfl rfl ?aP (fun k_ hk_ => hk_.elim (fun h_ => ((Kd.R_mono (ok' := fun k_ => ((fun _ => True)) k_ ∧ some k_ ≠ (u7 : Value).ownBlock) (Kd.R_apart' (HO289.out) (Kd.S_typed HO_7.out) (by decide)) (fun k_ hk => ⟨trivial, hk.2⟩))).1 k_ h_.symm) (fun h_ => h_.elim (fun h_ => ((Kd.R_mono (ok' := fun k_ => ((fun _ => True)) k_ ∧ some k_ ≠ (u7 : Value).ownBlock) (Kd.R_apart' (HO292.out) (Kd.S_typed HO_7.out) (by decide)) (fun k_ hk => ⟨trivial, hk.2⟩))).1 k_ h_.symm) (fun h_ => ((Kd.R_mono (ok' := fun k_ => ((fun _ => True)) k_ ∧ some k_ ≠ (u7 : Value).ownBlock) (Kd.R_apart' (HO295.out) (Kd.S_typed HO_7.out) (by decide)) (fun k_ hk => ⟨trivial, hk.2⟩))).1 k_ h_.symm))) ?aF ?aO ?aB ?aS ?aL ?_
               (case aP => exact k52_mkM _ _ _ (⟨t285, t286, t287, t290, t293⟩ : S52) (Kd.R_mono (Kd.R_tight rfl (Kd.R_mono (ok' := fun k_ => ((fun _ => True)) k_ ∧ some k_ ≠ (u7 : Value).ownBlock) (Kd.R_apart' (HO289.out) (Kd.S_typed HO_7.out) (by decide)) (fun k_ hk => ⟨trivial, hk.2⟩))) (fun _ h_ => Or.inl h_)) (Kd.R_mono (Kd.R_tight rfl (Kd.R_mono (ok' := fun k_ => ((fun _ => True)) k_ ∧ some k_ ≠ (u7 : Value).ownBlock) (Kd.R_apart' (HO292.out) (Kd.S_typed HO_7.out) (by decide)) (fun k_ hk => ⟨trivial, hk.2⟩))) (fun _ h_ => Or.inr (Or.inl h_))) (Kd.R_mono (Kd.R_tight rfl (Kd.R_mono (ok' := fun k_ => ((fun _ => True)) k_ ∧ some k_ ≠ (u7 : Value).ownBlock) (Kd.R_apart' (HO295.out) (Kd.S_typed HO_7.out) (by decide)) (fun k_ hk => ⟨trivial, hk.2⟩))) (fun _ h_ => Or.inr (Or.inr (h_)))))
               (case aB => exact (by repeat (first | (with_reducible first | exact HB.out | apply zA | apply zN | apply zD) | exact HB.out)))
               (case aF => exact (fun _ _ => trivial))
               (case aO => exact (by (with_reducible repeat (first | apply Kd.S_alloc | apply Kd.S_drewN | apply Kd.S_drew)); exact Kd.S_mono HO_7.out (fun k_ hk => ⟨trivial, fun e_ => e_.elim (fun h_ => hk.1.1.2 h_) (fun h_ => h_.elim (fun h_ => hk.1.2 h_) (fun h_ => hk.2 h_))⟩)))
               (case aS => exact (zS (by repeat (first | (with_reducible first | exact HB.out | apply zA | apply zN | apply zD) | exact HB.out))))
               (case aL => have := LMc20.out; omega)
               intro v297 w23 ho hb hg hat
               rw [← Ny296.out] at ho
               have n0_ := Aside0.mk (hb)
               have n1_ := Aside0.mk (ho)
               clear HB
               clear HO_7
               clear HO289
               clear HO292
               clear HO295
               have HB := n0_
               have HO298 := n1_
               clear n0_ n1_
               clear ho hb hg hat
               refine hK.out _ _ ⟨((HB.out.cell (World.block_lt_of_cell? w _ hw281_0)).trans hw281_0), ((HB.out.cell (World.block_lt_of_cell? w _ hw281_1)).trans hw281_1), ((HB.out.cell (World.block_lt_of_cell? w _ hw282_0)).trans hw282_0), ((HB.out.cell (World.block_lt_of_cell? w _ hw282_1)).trans hw282_1), ((HB.out.cell (World.block_lt_of_cell? w _ hw282_2)).trans hw282_2), ((HB.out.cell (World.block_lt_of_cell? w _ hw282_3)).trans hw282_3), ((HB.out.cell (World.block_lt_of_cell? w _ hw282_4)).trans hw282_4), ((HB.out.cell (World.block_lt_of_cell? w _ hw283_0)).trans hw283_0), ((HB.out.cell (World.block_lt_of_cell? w _ hw283_1)).trans hw283_1), ((HB.out.cell (World.block_lt_of_cell? w _ hw284_0)).trans hw284_0), ((HB.out.cell (World.block_lt_of_cell? w _ hw284_1)).trans hw284_1), ((HB.out.cell (World.block_lt_of_cell? w _ hw284_2)).trans hw284_2), ((HB.out.cell (World.block_lt_of_cell? w _ hw284_3)).trans hw284_3), ((HB.out.cell (World.block_lt_of_cell? w _ hw284_4)).trans hw284_4)⟩ (fun hHeld => ?_)
               clear hK K
               refine norm_ (a' := ?_) ?_ ?_
               rotate_left
               ·show Act.put _ (some 80) _ = _
                simp only [Act.put, sA, sZ, sS, i64_w, i32_w]
                rfl
               refine Abb.pS 20 7 #[T', T', T', T', T', T', T', T', T', T', T', T', T', T', T', T', T', T', T', T', T'] HT_ ?_
               refine done_ (done_of HT_.out (by kernel_rfl)) ?_
               try go_wp2
               go_roundg k2
               case measure => have := HK1.out; have := HK2.out; omega
               case rel => exact ⟨(y296), (wrap64 (x8_2 + 1)), (by first | rfl | (simp; done) | (simp [*]; done)), H', ⟨by have := HK1.out; have := HK2.out; omega⟩, ⟨by (with_reducible repeat (first | apply Kd.S_alloc | apply Kd.S_drewN | apply Kd.S_drew)); exact HO298.out⟩, ⟨by repeat (first | (with_reducible first | exact HB.out | apply zA | apply zN | apply zD) | exact HB.out)⟩⟩
              ·rw [if_neg c20] at H
               exact absurd H (by simp)
             ·rw [if_neg c18] at H
              exact absurd H (by simp)
            ·rw [if_neg c17] at H
             exact absurd H (by simp)
           ·rw [if_neg c16] at H
            exact absurd H (by simp)
          ·rw [if_neg c15] at H
           exact absurd H (by simp)
         ·rw [if_neg c14] at H
          exact absurd H (by simp)
        ·rw [if_neg c13] at H
         have c13b0 : decide (x8_2 < (l1.length : Int)) = false := decide_eq_false c13
         clear c13
         simp only [Option.some.injEq, Prod.mk.injEq] at H
         obtain ⟨rfl, rfl⟩ := H
         go_wp2
         go_ret2
         exact ⟨_, by first | rfl | (simp [errW_none, errW_some] <;> rfl) | (simp [*, errW_none, errW_some] <;> rfl), by (with_reducible repeat (first | apply Kd.S_alloc | apply Kd.S_drewN | apply Kd.S_drew)); exact HO_7.out, by repeat (first | (with_reducible first | exact HB.out | apply zA | apply zN | apply zD) | exact HB.out)⟩
 ·replace c4 := Bool.eq_false_iff.mpr c4
  subst c4
  have H1 : (some (([] : List (S52)), 1)) = some (r1, r2) := by rw [if_neg (show ¬ (false = true) by decide)] at H; exact H
  clear H
  have H := H1
  clear H1
  simp only [Option.some.injEq, Prod.mk.injEq] at H
  obtain ⟨rfl, rfl⟩ := H
  go_enter Try.func41, Try.ntmps41
  go_wp2_with (first | ((with_reducible refine xC (f := 61) rfl ?_); refine goesL_ (some 10) rfl rfl Try.func61 (by kernel_rfl) rfl #[.slice A0 l0.length c0] rfl (by (try simp only [List.map_toArray, List.map_cons, List.map_nil]); first | done | rfl | (simp only [List.length_drop, List.length_take]; rfl)) ?_; (with_reducible refine (cutroomref20_Alike.calls k _ _ l0 false _ ?side1 ?side2 A3.out).mono ?_); (case side1 => repeat (first | exact HR0.out | (with_reducible refine Kd.C_alloc ?_ _) | (with_reducible refine Kd.C_drewN ?_ _) | (with_reducible refine Kd.C_drew ?_))); (case side2 => exact HC0.out); rintro e w27 ⟨rfl, hb⟩; refine ⟨_, rfl, ?_⟩; have n0_ := Aside0.mk (zT (by repeat (first | (with_reducible first | exact HB.out | apply zA | apply zN | apply zD) | exact HB.out)) hb); clear HB; have HB := n0_; clear n0_; (try clear hb); (try clear hb2); (try clear hk); (try clear hi)))
  go_ret2
  exact ⟨_, by first | rfl | (simp [errW_none, errW_some] <;> rfl) | (simp [*, errW_none, errW_some] <;> rfl), by first | exact Kd.S_nil _ _ _ _ _ | exact Kd.N_nil _ _ _ _ _ | exact Kd.V_nil _ _ _ _ _ | exact Kd.Q_nil _ _ _ _ _ | exact Kd.R_nil _ _ _ _ _, by repeat (first | (with_reducible first | exact HB.out | apply zA | apply zN | apply zD) | exact HB.out)⟩

end Go.Proofs.Ytcofjbbflcnaaaa.P
