-- Written by this session's own program (wip/tools/myprint.py), which runs the kit's print with turns of its own: not a text of the kit's print.sh.
import Derived.Test.YtcofjbbflcnaaaaPx0
import Derived.Test.YtcofjbbflcnaaaaPx60
import Derived.Test.YtcofjbbflcnaaaaPx63
import Derived.Test.YtcofjbbflcnaaaaAbb
namespace Go.Proofs.Ytcofjbbflcnaaaa.P
open Go.RowKit Go.Proofs.YtcofjbbflcnaaaaW.PrintWords Go.Proofs.YtcofjbbflcnaaaaW.PrintLast Go.Proofs.YtcofjbbflcnaaaaW.PrintMore
open List renaming setIfInBounds_toArray → sA, set_cons_zero → sZ, set_cons_succ → sS
open Bool renaming true → T', false → F'
open Go.Proofs.YtcofjbbflcnaaaaW.PrintWords renaming below_alloc → zA, pw_below_drewN → zN, below_drew1 → zD, blk_drewN → yN, blk_drew → yD, blk_alloc → yA, below_size → zS, below_step → zT, blk_below → yB, below_set → zP, cell_far → xF, add_block → xB, gate_callee → xC, gate_dst → xD
attribute [local go_sem] max2_int min2_int max_two min_two max_three min_three max_four min_four   -- for this text's walks alone
set_option linter.unusedVariables false
set_option linter.unusedSimpArgs false

/-! ### cadence_Pull: function 40 -/
mutual
def cadence_Pull.l0 : Nat → List (S52) → List (S43) → List (S43) → Int → Int → Option ((List (S52)) × Int)
 | 0, _, _, _, _, _ => none
 | k + 1, x0, x1, x14, x15, x16 => if x16 < x15 then (if 0 ≤ x16 then (if x16 < (x14.length : Int) then (if ((rd_T43 x14 x16).f0) < 0 then (some (([] : List (S52)), 1)) else (if ((rd_T43 x14 x16).f0) ≥ (x0.length : Int) then (some (([] : List (S52)), 1)) else (if ((rd_T43 x14 x16).f1) < 0 then (some (([] : List (S52)), 1)) else (if ((rd_T43 x14 x16).f1) ≥ (x0.length : Int) then (some (([] : List (S52)), 1)) else (cadence_Pull.l0 k x0 x1 x14 x15 (wrap64 (x16 + 1))))))) else (none)) else (none)) else (if (x1.length : Int) > 256 then (some (([] : List (S52)), 5)) else (cadence_Pull.l1 k x0 ([] : List (S52)) x1 (x1.length : Int) 0))
def cadence_Pull.l1 : Nat → List (S52) → List (S52) → List (S43) → Int → Int → Option ((List (S52)) × Int)
 | 0, _, _, _, _, _ => none
 | k + 1, x0, x8, x46, x47, x48 => if x48 < x47 then (if 0 ≤ x48 then (if x48 < (x46.length : Int) then (if 0 ≤ ((rd_T43 x46 x48).f0) then (if ((rd_T43 x46 x48).f0) < (x0.length : Int) then (if 0 ≤ ((rd_T43 x46 x48).f1) then (if ((rd_T43 x46 x48).f1) < (x0.length : Int) then ((cadence_woven.f ((rd_T52 x0 ((rd_T43 x46 x48).f0)).f0) ((rd_T52 x0 ((rd_T43 x46 x48).f0)).f1) ((rd_T52 x0 ((rd_T43 x46 x48).f0)).f2) ((rd_T52 x0 ((rd_T43 x46 x48).f0)).f3) ((rd_T52 x0 ((rd_T43 x46 x48).f0)).f4) ((rd_T52 x0 ((rd_T43 x46 x48).f1)).f0) ((rd_T52 x0 ((rd_T43 x46 x48).f1)).f1) ((rd_T52 x0 ((rd_T43 x46 x48).f1)).f2) ((rd_T52 x0 ((rd_T43 x46 x48).f1)).f3) ((rd_T52 x0 ((rd_T43 x46 x48).f1)).f4)).bind fun bt236 => (if x8.length < 1599289640401 then (cadence_Pull.l1 k x0 (x8 ++ [(⟨bt236.1, bt236.2.1, bt236.2.2.1, bt236.2.2.2.1, bt236.2.2.2.2⟩ : S52)]) x46 x47 (wrap64 (x48 + 1))) else (none))) else (none)) else (none)) else (none)) else (none)) else (none)) else (none)) else (some (x8, 0))
end
def cadence_Pull.f (k : Nat) (l0 : List (S52)) (l1 : List (S43)) : Option ((List (S52)) × Int) := (cadence_alike.f k l0).bind fun t229 => (if t229 = true then (cadence_Pull.l0 k l0 l1 l1 (l1.length : Int) 0) else (some (([] : List (S52)), 1)))
theorem cadence_Pull.mono_l : ∀ k, (∀ y0 y1 y2 y3 y4, LeO (cadence_Pull.l0 k y0 y1 y2 y3 y4) (cadence_Pull.l0 (k + 1) y0 y1 y2 y3 y4)) ∧ (∀ y0 y1 y2 y3 y4, LeO (cadence_Pull.l1 k y0 y1 y2 y3 y4) (cadence_Pull.l1 (k + 1) y0 y1 y2 y3 y4))
 | 0 => ⟨fun _ _ _ _ _ r h => by simp [cadence_Pull.l0] at h, fun _ _ _ _ _ r h => by simp [cadence_Pull.l1] at h⟩
 | k + 1 => by
  obtain ⟨ih0, ih1⟩ := cadence_Pull.mono_l k
  refine ⟨?_, ?_⟩
  ·intro y0 y1 y2 y3 y4
   unfold cadence_Pull.l0
   repeat' first
   | (with_reducible exact ih0 _ _ _ _ _)
   | (with_reducible exact ih1 _ _ _ _ _)
   | (with_reducible exact cadence_alike.mono _ _)
   | (with_reducible exact LeO.refl _)
   | (with_reducible exact LeO.none _)
   | (with_reducible refine LeO.ite ?_ ?_)
   | (with_reducible refine LeO.bind ?_ (fun _ => ?_))
   | exact ih0 _ _ _ _ _
   | exact ih1 _ _ _ _ _
   | exact cadence_alike.mono _ _
   | exact LeO.none _
   | refine LeO.ite ?_ ?_
   | refine LeO.bind ?_ (fun _ => ?_)
  ·intro y0 y1 y2 y3 y4
   unfold cadence_Pull.l1
   repeat' first
   | (with_reducible exact ih0 _ _ _ _ _)
   | (with_reducible exact ih1 _ _ _ _ _)
   | (with_reducible exact cadence_alike.mono _ _)
   | (with_reducible exact LeO.refl _)
   | (with_reducible exact LeO.none _)
   | (with_reducible refine LeO.ite ?_ ?_)
   | (with_reducible refine LeO.bind ?_ (fun _ => ?_))
   | exact ih0 _ _ _ _ _
   | exact ih1 _ _ _ _ _
   | exact cadence_alike.mono _ _
   | exact LeO.none _
   | refine LeO.ite ?_ ?_
   | refine LeO.bind ?_ (fun _ => ?_)
theorem cadence_Pull.mono : ∀ a0 a1 k, LeO (cadence_Pull.f k a0 a1) (cadence_Pull.f (k + 1) a0 a1) := by
 intro a0 a1 k
 obtain ⟨ih0, ih1⟩ := cadence_Pull.mono_l k
 unfold cadence_Pull.f
 repeat' first
   | (with_reducible exact ih0 _ _ _ _ _)
   | (with_reducible exact ih1 _ _ _ _ _)
   | (with_reducible exact cadence_alike.mono _ _)
   | (with_reducible exact LeO.refl _)
   | (with_reducible exact LeO.none _)
   | (with_reducible refine LeO.ite ?_ ?_)
   | (with_reducible refine LeO.bind ?_ (fun _ => ?_))
   | exact ih0 _ _ _ _ _
   | exact ih1 _ _ _ _ _
   | exact cadence_alike.mono _ _
   | exact LeO.none _
   | refine LeO.ite ?_ ?_
   | refine LeO.bind ?_ (fun _ => ?_)
def cadence_Pull.T15 : Bool × List (List Nat × List Nat) := (true, [([], []), ([], []), ([], []), ([2], [2]), ([1, 3], [1, 3]), ([4], [4]), ([], []), ([], []), ([7], [7]), ([6, 8], [6, 8]), ([9], [9]), ([5, 10], [5, 10]), ([11], [11]), ([0, 12, 11], [0, 12]), ([13, 13, 0, 1, 2, 3, 4, 5, 6, 7, 8, 9, 10, 11, 12, 13], [0, 13])])
def cadence_Pull.B15 : List Nat := [0, 0, 0, 4, 14, 30, 0, 0, 128, 448, 960, 2046, 4094, 8191, 16383]
theorem cadence_Pull.tab15 : rtab .any (opsOf Try.f40 15) = cadence_Pull.T15 := by kernel_rfl
theorem cadence_Pull.bits15 : waitsOk cadence_Pull.T15.2 cadence_Pull.B15 = true := by kernel_rfl
set_option maxHeartbeats 8000000 in
set_option maxRecDepth 100000 in
theorem cadence_Pull.calls (k : Nat) (A0 : Option Addr) (c0 : Nat) (l0 : List (S52)) (A1 : Option Addr) (c1 : Nat) (l1 : List (S43)) (r1 : List (S52)) (r2 : Int) (w : World) (hr0 : Kd.C k52 w A0 l0.length l0) (hc0 : l0.length ≤ c0) (hr1 : Kd.C k43 w A1 l1.length l1) (hc1 : l1.length ≤ c1) (h : cadence_Pull.f k l0 l1 = some (r1, r2)) :
  Calls Try.prog 40 #[.slice A0 l0.length c0, .slice A1 l1.length c1] w fun e w' => ∃ v0_ : Value, e = .returned (.tuple #[v0_, .int .i64 r2]) ∧ Kd.S k52 52 w' w.heap.size (fun _ => True) v0_ r1 ∧ Below w.heap.size w w' := by
 have hu43 := Try.underlying43
 have hu52 := Try.underlying52
 have HR0 := Aside0.mk hr0
 have HC0 := Aside0.mk hc0
 clear hr0 hc0
 have HR1 := Aside0.mk hr1
 have HC1 := Aside0.mk hc1
 clear hr1 hc1
 have HB := Aside0.mk (Below.refl w.heap.size w)
 have H : ((cadence_alike.f k l0).bind fun t229 => (if t229 = true then (cadence_Pull.l0 k l0 l1 l1 (l1.length : Int) 0) else (some (([] : List (S52)), 1)))) = some (r1, r2) := h
 clear h
 replace H := Option.bind_eq_some_iff.mp H
 obtain ⟨t229, A30, H⟩ := H
 replace H : (if t229 = true then (cadence_Pull.l0 k l0 l1 l1 (l1.length : Int) 0) else (some (([] : List (S52)), 1))) = some (r1, r2) := H
 have A3 := Aside0.mk A30
 clear A30
 by_cases c4 : t229 = true
 ·subst c4
  have H1 : (cadence_Pull.l0 k l0 l1 l1 (l1.length : Int) 0) = some (r1, r2) := by rw [if_pos rfl] at H; exact H
  clear H
  have H := H1
  clear H1
  have H' := Aside0.mk H
  clear H
  go_enter Try.func40, Try.ntmps40
  go_wp2_with (first | ((with_reducible refine xC (f := 59) rfl ?_); refine goesL_ (some 12) rfl rfl Try.func59 (by kernel_rfl) rfl #[.slice A0 l0.length c0] rfl (by (try simp only [List.map_toArray, List.map_cons, List.map_nil]); first | done | rfl | (simp only [List.length_drop, List.length_take]; rfl)) ?_; (with_reducible refine (cadence_alike.calls k _ _ l0 true _ ?side1 ?side2 A3.out).mono ?_); (case side1 => repeat (first | exact HR0.out | (with_reducible refine Kd.C_alloc ?_ _) | (with_reducible refine Kd.C_drewN ?_ _) | (with_reducible refine Kd.C_drew ?_))); (case side2 => exact HC0.out); rintro e w5 ⟨rfl, hb⟩; refine ⟨_, rfl, ?_⟩; have n0_ := Aside0.mk (zT (by repeat (first | (with_reducible first | exact HB.out | apply zA | apply zN | apply zD) | exact HB.out)) hb); clear HB; have HB := n0_; clear n0_; (try clear hb); (try clear hb2); (try clear hk); (try clear hi)))
  go_loopg [16] k (fun kq v16 w' => ∃ (x16_1 : Int), v16 = .int .i64 x16_1 ∧ Aside0 (cadence_Pull.l0 kq l0 l1 l1 (l1.length : Int) x16_1 = some (r1, r2)) ∧ Aside0 (kq ≤ k) ∧ Aside0 (Below w.heap.size w w'))
  case atStart => exact ⟨(0), (by first | rfl | (simp; done) | (simp [*]; done)), H', ⟨Nat.le_refl _⟩, ⟨by repeat (first | (with_reducible first | exact HB.out | apply zA | apply zN | apply zD) | exact HB.out)⟩⟩
  case round =>
   clear H'
   (try clear c1);(try clear p2);(try clear c4);(try clear c5)
   obtain ⟨x16_1, rfl, HA, HK1, HB⟩ := hrel
   cases gk with
   | zero => exact absurd HA.out (by simp [cadence_Pull.l0])
   | succ k1 =>
    have H := HA.out
    clear HA
    simp only [cadence_Pull.l0] at H
    by_cases c6 : x16_1 < (l1.length : Int)
    ·rw [if_pos c6] at H
     have c6b0 : decide (x16_1 < (l1.length : Int)) = true := decide_eq_true c6
     clear c6
     by_cases c7 : 0 ≤ x16_1
     ·rw [if_pos c7] at H
      have c7b0 : decide (0 ≤ x16_1) = true := decide_eq_true c7
      clear c7
      by_cases c8 : x16_1 < (l1.length : Int)
      ·rw [if_pos c8] at H
       have c8b0 : decide (x16_1 < (l1.length : Int)) = true := decide_eq_true c8
       clear c8
       by_cases c9 : ((rd_T43 l1 x16_1).f0) < 0
       ·rw [if_pos c9] at H
        have c9b0 : decide (((rd_T43 l1 x16_1).f0) < 0) = true := decide_eq_true c9
        clear c9
        simp only [Option.some.injEq, Prod.mk.injEq] at H
        obtain ⟨rfl, rfl⟩ := H
        have p230 : 0 ≤ (x16_1 : Int) := of_decide_eq_true (by first | (with_reducible assumption) | assumption)
        have q230 : x16_1 < (l1.length : Int) := of_decide_eq_true (by first | (with_reducible assumption) | assumption)
        obtain ⟨ad230, e230, hx230_0, hx230_1⟩ := at_T43 HR1.out x16_1 p230 q230
        cases e230
        replace hx230_0 := (HB.out.cell (World.block_lt_of_cell? w _ hx230_0)).trans hx230_0
        replace hx230_1 := (HB.out.cell (World.block_lt_of_cell? w _ hx230_1)).trans hx230_1
        replace p230 := eq_true p230
        replace q230 := eq_true q230
        go_wp2_with (first | ((with_reducible refine xD (N := 7) rfl ?_); (try (refine gate_guard (by rfl) ?_; dsimp only)); refine box_event ?hg (N := 7) ?hd (cs := #[.int .i64 0, .int .i64 0]) (t := 43) ?hr ?_; (case hd => rfl); (case hg => rfl); (case hr => first | (go_simp; done) | (go_simp; rfl)); intro gb231 hg w10 hbox hb; have n0_ := Aside0.mk (zT (by repeat (first | (with_reducible first | exact HB.out | apply zA | apply zN | apply zD) | exact HB.out)) hb); have n1_ := Aside0.mk (hbox); have n2_ := Aside0.mk ((by rw [hg]; exact (zS (by repeat (first | (with_reducible first | exact HB.out | apply zA | apply zN | apply zD) | exact HB.out))) : w.heap.size ≤ gb231)); have n3_ := n2_; clear HB; have HB := n0_; have BK231 := n1_; have GW231 := n2_; have GE231 := n3_; clear n0_ n1_ n2_ n3_; clear hb hbox hg; have hcz11_0 : w10.cell? ⟨gb231, 0, none⟩ = some (.int .i64 0) := (blk_cell BK231.out 0).trans rfl; have hcz11_1 : w10.cell? ⟨gb231, 1, none⟩ = some (.int .i64 0) := (blk_cell BK231.out 1).trans rfl; have hfz11_0 := blk_frozen BK231.out 0; have hfz11_1 := blk_frozen BK231.out 1))
        go_ret2
        exact ⟨_, by first | rfl | (simp [errW_none, errW_some] <;> rfl) | (simp [*, errW_none, errW_some] <;> rfl), by first | exact Kd.S_nil _ _ _ _ _ | exact Kd.N_nil _ _ _ _ _ | exact Kd.V_nil _ _ _ _ _ | exact Kd.Q_nil _ _ _ _ _ | exact Kd.R_nil _ _ _ _ _, by repeat (first | (with_reducible first | exact HB.out | apply zA | apply zN | apply zD | refine zP ?_ GE231.out) | exact HB.out)⟩
       ·rw [if_neg c9] at H
        have c9b0 : decide (((rd_T43 l1 x16_1).f0) < 0) = false := decide_eq_false c9
        clear c9
        by_cases c12 : ((rd_T43 l1 x16_1).f0) ≥ (l0.length : Int)
        ·rw [if_pos c12] at H
         have c12b0 : decide ((l0.length : Int) ≤ ((rd_T43 l1 x16_1).f0)) = true := decide_eq_true c12
         clear c12
         simp only [Option.some.injEq, Prod.mk.injEq] at H
         obtain ⟨rfl, rfl⟩ := H
         have p230 : 0 ≤ (x16_1 : Int) := of_decide_eq_true (by first | (with_reducible assumption) | assumption)
         have q230 : x16_1 < (l1.length : Int) := of_decide_eq_true (by first | (with_reducible assumption) | assumption)
         obtain ⟨ad230, e230, hx230_0, hx230_1⟩ := at_T43 HR1.out x16_1 p230 q230
         cases e230
         replace hx230_0 := (HB.out.cell (World.block_lt_of_cell? w _ hx230_0)).trans hx230_0
         replace hx230_1 := (HB.out.cell (World.block_lt_of_cell? w _ hx230_1)).trans hx230_1
         replace p230 := eq_true p230
         replace q230 := eq_true q230
         go_wp2_with (first | ((with_reducible refine xD (N := 7) rfl ?_); (try (refine gate_guard (by rfl) ?_; dsimp only)); refine box_event ?hg (N := 7) ?hd (cs := #[.int .i64 0, .int .i64 0]) (t := 43) ?hr ?_; (case hd => rfl); (case hg => rfl); (case hr => first | (go_simp; done) | (go_simp; rfl)); intro gb231 hg w13 hbox hb; have n0_ := Aside0.mk (zT (by repeat (first | (with_reducible first | exact HB.out | apply zA | apply zN | apply zD) | exact HB.out)) hb); have n1_ := Aside0.mk (hbox); have n2_ := Aside0.mk ((by rw [hg]; exact (zS (by repeat (first | (with_reducible first | exact HB.out | apply zA | apply zN | apply zD) | exact HB.out))) : w.heap.size ≤ gb231)); have n3_ := n2_; clear HB; have HB := n0_; have BK231 := n1_; have GW231 := n2_; have GE231 := n3_; clear n0_ n1_ n2_ n3_; clear hb hbox hg; have hcz14_0 : w13.cell? ⟨gb231, 0, none⟩ = some (.int .i64 0) := (blk_cell BK231.out 0).trans rfl; have hcz14_1 : w13.cell? ⟨gb231, 1, none⟩ = some (.int .i64 0) := (blk_cell BK231.out 1).trans rfl; have hfz14_0 := blk_frozen BK231.out 0; have hfz14_1 := blk_frozen BK231.out 1))
         go_ret2
         exact ⟨_, by first | rfl | (simp [errW_none, errW_some] <;> rfl) | (simp [*, errW_none, errW_some] <;> rfl), by first | exact Kd.S_nil _ _ _ _ _ | exact Kd.N_nil _ _ _ _ _ | exact Kd.V_nil _ _ _ _ _ | exact Kd.Q_nil _ _ _ _ _ | exact Kd.R_nil _ _ _ _ _, by repeat (first | (with_reducible first | exact HB.out | apply zA | apply zN | apply zD | refine zP ?_ GE231.out) | exact HB.out)⟩
        ·rw [if_neg c12] at H
         have c12b0 : decide ((l0.length : Int) ≤ ((rd_T43 l1 x16_1).f0)) = false := decide_eq_false c12
         clear c12
         by_cases c15 : ((rd_T43 l1 x16_1).f1) < 0
         ·rw [if_pos c15] at H
          have c15b0 : decide (((rd_T43 l1 x16_1).f1) < 0) = true := decide_eq_true c15
          clear c15
          simp only [Option.some.injEq, Prod.mk.injEq] at H
          obtain ⟨rfl, rfl⟩ := H
          have p230 : 0 ≤ (x16_1 : Int) := of_decide_eq_true (by first | (with_reducible assumption) | assumption)
          have q230 : x16_1 < (l1.length : Int) := of_decide_eq_true (by first | (with_reducible assumption) | assumption)
          obtain ⟨ad230, e230, hx230_0, hx230_1⟩ := at_T43 HR1.out x16_1 p230 q230
          cases e230
          replace hx230_0 := (HB.out.cell (World.block_lt_of_cell? w _ hx230_0)).trans hx230_0
          replace hx230_1 := (HB.out.cell (World.block_lt_of_cell? w _ hx230_1)).trans hx230_1
          replace p230 := eq_true p230
          replace q230 := eq_true q230
          go_wp2_with (first | ((with_reducible refine xD (N := 7) rfl ?_); (try (refine gate_guard (by rfl) ?_; dsimp only)); refine box_event ?hg (N := 7) ?hd (cs := #[.int .i64 0, .int .i64 0]) (t := 43) ?hr ?_; (case hd => rfl); (case hg => rfl); (case hr => first | (go_simp; done) | (go_simp; rfl)); intro gb231 hg w16 hbox hb; have n0_ := Aside0.mk (zT (by repeat (first | (with_reducible first | exact HB.out | apply zA | apply zN | apply zD) | exact HB.out)) hb); have n1_ := Aside0.mk (hbox); have n2_ := Aside0.mk ((by rw [hg]; exact (zS (by repeat (first | (with_reducible first | exact HB.out | apply zA | apply zN | apply zD) | exact HB.out))) : w.heap.size ≤ gb231)); have n3_ := n2_; clear HB; have HB := n0_; have BK231 := n1_; have GW231 := n2_; have GE231 := n3_; clear n0_ n1_ n2_ n3_; clear hb hbox hg; have hcz17_0 : w16.cell? ⟨gb231, 0, none⟩ = some (.int .i64 0) := (blk_cell BK231.out 0).trans rfl; have hcz17_1 : w16.cell? ⟨gb231, 1, none⟩ = some (.int .i64 0) := (blk_cell BK231.out 1).trans rfl; have hfz17_0 := blk_frozen BK231.out 0; have hfz17_1 := blk_frozen BK231.out 1))
          go_ret2
          exact ⟨_, by first | rfl | (simp [errW_none, errW_some] <;> rfl) | (simp [*, errW_none, errW_some] <;> rfl), by first | exact Kd.S_nil _ _ _ _ _ | exact Kd.N_nil _ _ _ _ _ | exact Kd.V_nil _ _ _ _ _ | exact Kd.Q_nil _ _ _ _ _ | exact Kd.R_nil _ _ _ _ _, by repeat (first | (with_reducible first | exact HB.out | apply zA | apply zN | apply zD | refine zP ?_ GE231.out) | exact HB.out)⟩
         ·rw [if_neg c15] at H
          have c15b0 : decide (((rd_T43 l1 x16_1).f1) < 0) = false := decide_eq_false c15
          clear c15
          by_cases c18 : ((rd_T43 l1 x16_1).f1) ≥ (l0.length : Int)
          ·rw [if_pos c18] at H
           have c18b0 : decide ((l0.length : Int) ≤ ((rd_T43 l1 x16_1).f1)) = true := decide_eq_true c18
           clear c18
           simp only [Option.some.injEq, Prod.mk.injEq] at H
           obtain ⟨rfl, rfl⟩ := H
           have p230 : 0 ≤ (x16_1 : Int) := of_decide_eq_true (by first | (with_reducible assumption) | assumption)
           have q230 : x16_1 < (l1.length : Int) := of_decide_eq_true (by first | (with_reducible assumption) | assumption)
           obtain ⟨ad230, e230, hx230_0, hx230_1⟩ := at_T43 HR1.out x16_1 p230 q230
           cases e230
           replace hx230_0 := (HB.out.cell (World.block_lt_of_cell? w _ hx230_0)).trans hx230_0
           replace hx230_1 := (HB.out.cell (World.block_lt_of_cell? w _ hx230_1)).trans hx230_1
           replace p230 := eq_true p230
           replace q230 := eq_true q230
           go_wp2_with (first | ((with_reducible refine xD (N := 7) rfl ?_); (try (refine gate_guard (by rfl) ?_; dsimp only)); refine box_event ?hg (N := 7) ?hd (cs := #[.int .i64 0, .int .i64 0]) (t := 43) ?hr ?_; (case hd => rfl); (case hg => rfl); (case hr => first | (go_simp; done) | (go_simp; rfl)); intro gb231 hg w19 hbox hb; have n0_ := Aside0.mk (zT (by repeat (first | (with_reducible first | exact HB.out | apply zA | apply zN | apply zD) | exact HB.out)) hb); have n1_ := Aside0.mk (hbox); have n2_ := Aside0.mk ((by rw [hg]; exact (zS (by repeat (first | (with_reducible first | exact HB.out | apply zA | apply zN | apply zD) | exact HB.out))) : w.heap.size ≤ gb231)); have n3_ := n2_; clear HB; have HB := n0_; have BK231 := n1_; have GW231 := n2_; have GE231 := n3_; clear n0_ n1_ n2_ n3_; clear hb hbox hg; have hcz20_0 : w19.cell? ⟨gb231, 0, none⟩ = some (.int .i64 0) := (blk_cell BK231.out 0).trans rfl; have hcz20_1 : w19.cell? ⟨gb231, 1, none⟩ = some (.int .i64 0) := (blk_cell BK231.out 1).trans rfl; have hfz20_0 := blk_frozen BK231.out 0; have hfz20_1 := blk_frozen BK231.out 1))
           go_ret2
           exact ⟨_, by first | rfl | (simp [errW_none, errW_some] <;> rfl) | (simp [*, errW_none, errW_some] <;> rfl), by first | exact Kd.S_nil _ _ _ _ _ | exact Kd.N_nil _ _ _ _ _ | exact Kd.V_nil _ _ _ _ _ | exact Kd.Q_nil _ _ _ _ _ | exact Kd.R_nil _ _ _ _ _, by repeat (first | (with_reducible first | exact HB.out | apply zA | apply zN | apply zD | refine zP ?_ GE231.out) | exact HB.out)⟩
          ·rw [if_neg c18] at H
           have c18b0 : decide ((l0.length : Int) ≤ ((rd_T43 l1 x16_1).f1)) = false := decide_eq_false c18
           clear c18
           have H' := Aside0.mk H
           clear H
           have p230 : 0 ≤ (x16_1 : Int) := of_decide_eq_true (by first | (with_reducible assumption) | assumption)
           have q230 : x16_1 < (l1.length : Int) := of_decide_eq_true (by first | (with_reducible assumption) | assumption)
           obtain ⟨ad230, e230, hx230_0, hx230_1⟩ := at_T43 HR1.out x16_1 p230 q230
           cases e230
           replace hx230_0 := (HB.out.cell (World.block_lt_of_cell? w _ hx230_0)).trans hx230_0
           replace hx230_1 := (HB.out.cell (World.block_lt_of_cell? w _ hx230_1)).trans hx230_1
           replace p230 := eq_true p230
           replace q230 := eq_true q230
           go_wp2_with (first | ((with_reducible refine xD (N := 7) rfl ?_); (try (refine gate_guard (by rfl) ?_; dsimp only)); refine box_event ?hg (N := 7) ?hd (cs := #[.int .i64 0, .int .i64 0]) (t := 43) ?hr ?_; (case hd => rfl); (case hg => rfl); (case hr => first | (go_simp; done) | (go_simp; rfl)); intro gb231 hg w21 hbox hb; have n0_ := Aside0.mk (zT (by repeat (first | (with_reducible first | exact HB.out | apply zA | apply zN | apply zD) | exact HB.out)) hb); have n1_ := Aside0.mk (hbox); have n2_ := Aside0.mk ((by rw [hg]; exact (zS (by repeat (first | (with_reducible first | exact HB.out | apply zA | apply zN | apply zD) | exact HB.out))) : w.heap.size ≤ gb231)); have n3_ := n2_; clear HB; have HB := n0_; have BK231 := n1_; have GW231 := n2_; have GE231 := n3_; clear n0_ n1_ n2_ n3_; clear hb hbox hg; have hcz22_0 : w21.cell? ⟨gb231, 0, none⟩ = some (.int .i64 0) := (blk_cell BK231.out 0).trans rfl; have hcz22_1 : w21.cell? ⟨gb231, 1, none⟩ = some (.int .i64 0) := (blk_cell BK231.out 1).trans rfl; have hfz22_0 := blk_frozen BK231.out 0; have hfz22_1 := blk_frozen BK231.out 1))
           go_roundg k1
           case measure => have := HK1.out; omega
           case rel => exact ⟨(wrap64 (x16_1 + 1)), (by first | rfl | (simp; done) | (simp [*]; done)), H', ⟨by have := HK1.out; omega⟩, ⟨by repeat (first | (with_reducible first | exact HB.out | apply zA | apply zN | apply zD | refine zP ?_ GE231.out) | exact HB.out)⟩⟩
      ·rw [if_neg c8] at H
       exact absurd H (by simp)
     ·rw [if_neg c7] at H
      exact absurd H (by simp)
    ·rw [if_neg c6] at H
     have c6b0 : decide (x16_1 < (l1.length : Int)) = false := decide_eq_false c6
     clear c6
     by_cases c23 : (l1.length : Int) > 256
     ·rw [if_pos c23] at H
      have c23b0 : decide (256 < (l1.length : Int)) = true := decide_eq_true c23
      have c23b1 : decide (256 < l1.length) = true := decide_eq_true (by omega)
      clear c23
      simp only [Option.some.injEq, Prod.mk.injEq] at H
      obtain ⟨rfl, rfl⟩ := H
      go_wp2
      go_ret2
      exact ⟨_, by first | rfl | (simp [errW_none, errW_some] <;> rfl) | (simp [*, errW_none, errW_some] <;> rfl), by first | exact Kd.S_nil _ _ _ _ _ | exact Kd.N_nil _ _ _ _ _ | exact Kd.V_nil _ _ _ _ _ | exact Kd.Q_nil _ _ _ _ _ | exact Kd.R_nil _ _ _ _ _, by repeat (first | (with_reducible first | exact HB.out | apply zA | apply zN | apply zD) | exact HB.out)⟩
     ·rw [if_neg c23] at H
      have c23b0 : decide (256 < (l1.length : Int)) = false := decide_eq_false c23
      have c23b1 : decide (256 < l1.length) = false := decide_eq_false (by omega)
      clear c23
      have H' := Aside0.mk H
      clear H
      go_wp2
      go_loopg [8, 48] k1 (fun kq v8 v48 w' => ∃ (x8_2 : List (S52)) (x48_2 : Int), v48 = .int .i64 x48_2 ∧ Aside0 (cadence_Pull.l1 kq l0 x8_2 l1 (l1.length : Int) x48_2 = some (r1, r2)) ∧ Aside0 (kq ≤ k1) ∧ Aside0 (Kd.S k52 52 w' w.heap.size (fun _ => True) v8 x8_2) ∧ Aside0 (Below w.heap.size w w'))
      case atStart => exact ⟨(([] : List (S52))), (0), (by first | rfl | (simp; done) | (simp [*]; done)), H', ⟨Nat.le_refl _⟩, ⟨by first | exact Kd.S_nil _ _ _ _ _ | exact Kd.N_nil _ _ _ _ _ | exact Kd.V_nil _ _ _ _ _ | exact Kd.Q_nil _ _ _ _ _ | exact Kd.R_nil _ _ _ _ _⟩, ⟨by repeat (first | (with_reducible first | exact HB.out | apply zA | apply zN | apply zD) | exact HB.out)⟩⟩
      case round =>
       clear H'
       (try clear c1);(try clear c2);(try clear p2);(try clear q2);(try clear hx2);(try clear c4);(try clear c5);(try clear c6);(try clear c6b0);(try clear p6);(try clear c7);(try clear c7b0);(try clear c8);(try clear c8b0);(try clear c9);(try clear c9b0);(try clear c12);(try clear c12b0);(try clear c15);(try clear c15b0);(try clear c18);(try clear c18b0);(try clear c23);(try clear c23b0);(try clear c23b1);(try clear p23);(try clear q23);(try clear hx23);(try clear hcz11_0);(try clear hcz11_1);(try clear hcz14_0);(try clear hcz14_1);(try clear hcz17_0);(try clear hcz17_1);(try clear hcz20_0);(try clear hcz20_1);(try clear hcz22_0);(try clear hcz22_1);(try clear hfz11_0);(try clear hfz11_1);(try clear hfz14_0);(try clear hfz14_1);(try clear hfz17_0);(try clear hfz17_1);(try clear hfz20_0);(try clear hfz20_1);(try clear hfz22_0);(try clear hfz22_1);(try clear hx230_0);(try clear hx230_1)
       (try clear p2);(try clear p230);(try clear q230)
       obtain ⟨x8_2, x48_2, rfl, HA, HK2, HO_8, HB⟩ := hrel
       cases gk with
       | zero => exact absurd HA.out (by simp [cadence_Pull.l1])
       | succ k2 =>
        have H := HA.out
        clear HA
        simp only [cadence_Pull.l1] at H
        by_cases c24 : x48_2 < (l1.length : Int)
        ·rw [if_pos c24] at H
         have c24b0 : decide (x48_2 < (l1.length : Int)) = true := decide_eq_true c24
         clear c24
         by_cases c25 : 0 ≤ x48_2
         ·rw [if_pos c25] at H
          have c25b0 : decide (0 ≤ x48_2) = true := decide_eq_true c25
          clear c25
          by_cases c26 : x48_2 < (l1.length : Int)
          ·rw [if_pos c26] at H
           have c26b0 : decide (x48_2 < (l1.length : Int)) = true := decide_eq_true c26
           clear c26
           by_cases c27 : 0 ≤ ((rd_T43 l1 x48_2).f0)
           ·rw [if_pos c27] at H
            have c27b0 : decide (0 ≤ ((rd_T43 l1 x48_2).f0)) = true := decide_eq_true c27
            clear c27
            by_cases c28 : ((rd_T43 l1 x48_2).f0) < (l0.length : Int)
            ·rw [if_pos c28] at H
             have c28b0 : decide (((rd_T43 l1 x48_2).f0) < (l0.length : Int)) = true := decide_eq_true c28
             clear c28
             by_cases c29 : 0 ≤ ((rd_T43 l1 x48_2).f1)
             ·rw [if_pos c29] at H
              have c29b0 : decide (0 ≤ ((rd_T43 l1 x48_2).f1)) = true := decide_eq_true c29
              clear c29
              by_cases c30 : ((rd_T43 l1 x48_2).f1) < (l0.length : Int)
              ·rw [if_pos c30] at H
               have c30b0 : decide (((rd_T43 l1 x48_2).f1) < (l0.length : Int)) = true := decide_eq_true c30
               clear c30
               replace H := Option.bind_eq_some_iff.mp H
               obtain ⟨⟨t236, t237, t238, t241, t244⟩, A310, H⟩ := H
               replace H : (if x8_2.length < 1599289640401 then (cadence_Pull.l1 k2 l0 (x8_2 ++ [(⟨t236, t237, t238, t241, t244⟩ : S52)]) l1 (l1.length : Int) (wrap64 (x48_2 + 1))) else (none)) = some (r1, r2) := H
               have A31 := Aside0.mk A310
               clear A310
               by_cases c32 : x8_2.length < 1599289640401
               ·rw [if_pos c32] at H
                have LMc32 := Aside0.mk c32
                clear c32
                obtain ⟨y247, hy247⟩ : ∃ y_ : List (S52), y_ = (x8_2 ++ [(⟨t236, t237, t238, t241, t244⟩ : S52)]) := ⟨_, rfl⟩
                replace H : (cadence_Pull.l1 k2 l0 y247 l1 (l1.length : Int) (wrap64 (x48_2 + 1))) = some (r1, r2) := by first | (rw [hy247]; with_reducible exact H) | (have H2_ := (Option.bind_some _ _).symm.trans H; rw [hy247]; with_reducible exact H2_) | (have H2_ := (Option.bind_some _ _).symm.trans H; with_reducible exact H2_) | with_reducible exact H | (rw [hy247]; exact H) | exact H
                have Ny247 := Aside0.mk hy247
                clear hy247
                have H' := Aside0.mk H
                clear H
                have p232 : 0 ≤ (x48_2 : Int) := of_decide_eq_true (by first | (with_reducible assumption) | assumption)
                have q232 : x48_2 < (l1.length : Int) := of_decide_eq_true (by first | (with_reducible assumption) | assumption)
                obtain ⟨ad232, e232, hx232_0, hx232_1⟩ := at_T43 HR1.out x48_2 p232 q232
                cases e232
                replace hx232_0 := (HB.out.cell (World.block_lt_of_cell? w _ hx232_0)).trans hx232_0
                replace hx232_1 := (HB.out.cell (World.block_lt_of_cell? w _ hx232_1)).trans hx232_1
                replace p232 := eq_true p232
                replace q232 := eq_true q232
                try go_wp2_with (first | ((with_reducible refine xD (N := 10) rfl ?_); (try (refine gate_guard (by rfl) ?_; dsimp only)); refine box_event ?hg (N := 10) ?hd (cs := #[.int .i64 0, .int .i64 0]) (t := 43) ?hr ?_; (case hd => rfl); (case hg => rfl); (case hr => first | (go_simp; done) | (go_simp; rfl)); intro gb233 hg w33 hbox hb; have n0_ := Aside0.mk (Kd.S_below (by (with_reducible repeat (first | apply Kd.S_alloc | apply Kd.S_drewN | apply Kd.S_drew)); exact HO_8.out) hb); have n1_ := Aside0.mk (zT (by repeat (first | (with_reducible first | exact HB.out | apply zA | apply zN | apply zD) | exact HB.out)) hb); have n2_ := Aside0.mk (hbox); have n3_ := Aside0.mk ((by rw [hg]; exact (zS (by repeat (first | (with_reducible first | exact HB.out | apply zA | apply zN | apply zD) | exact HB.out))) : w.heap.size ≤ gb233)); have n4_ := n3_; clear HO_8; clear HB; have HO_8 := n0_; have HB := n1_; have BK233 := n2_; have GW233 := n3_; have GE233 := n4_; clear n0_ n1_ n2_ n3_ n4_; clear hb hbox hg; have hcz34_0 : w33.cell? ⟨gb233, 0, none⟩ = some (.int .i64 0) := (blk_cell BK233.out 0).trans rfl; have hcz34_1 : w33.cell? ⟨gb233, 1, none⟩ = some (.int .i64 0) := (blk_cell BK233.out 1).trans rfl; have hfz34_0 := blk_frozen BK233.out 0; have hfz34_1 := blk_frozen BK233.out 1))
                have n0_ : Aside0 (Kd.S k52 52 ((w33.setCell ⟨gb233, 0, none⟩ (.int .i64 ((rd_T43 l1 x48_2).f0))).setCell ⟨gb233, 1, none⟩ (.int .i64 ((rd_T43 l1 x48_2).f1))) w.heap.size (fun _ => True) u8 x8_2) := ⟨by (with_reducible repeat (first | apply Kd.S_alloc | apply Kd.S_drewN | apply Kd.S_drew)); exact Kd.S_mono (Kd.S_far (p := ⟨gb233, 1, none⟩) (Kd.S_far (p := ⟨gb233, 0, none⟩) (Kd.S_types HO_8.out BK233.out (by decide)) (fun _ hk => hk.2) (.int .i64 ((rd_T43 l1 x48_2).f0))) (fun _ hk => hk.2) (.int .i64 ((rd_T43 l1 x48_2).f1))) (fun _ hk => trivial)⟩
                have n1_ : Aside0 (((w33.setCell ⟨gb233, 0, none⟩ (.int .i64 ((rd_T43 l1 x48_2).f0))).setCell ⟨gb233, 1, none⟩ (.int .i64 ((rd_T43 l1 x48_2).f1))).heap[gb233]? = some (.cells #[.int .i64 ((rd_T43 l1 x48_2).f0), .int .i64 ((rd_T43 l1 x48_2).f1)] 43 (0, 0))) := ⟨by (with_reducible repeat (first | refine yN ?_ _ | refine yD ?_ | refine yA ?_ _)); refine blk_put (cs := #[.int .i64 ((rd_T43 l1 x48_2).f0), .int .i64 0]) ?_ 1 _ rfl; (with_reducible repeat (first | refine yN ?_ _ | refine yD ?_ | refine yA ?_ _)); refine blk_put (cs := #[.int .i64 0, .int .i64 0]) ?_ 0 _ rfl; (with_reducible repeat (first | refine yN ?_ _ | refine yD ?_ | refine yA ?_ _)); exact BK233.out⟩
                have n2_ : Aside0 (Below w.heap.size w ((w33.setCell ⟨gb233, 0, none⟩ (.int .i64 ((rd_T43 l1 x48_2).f0))).setCell ⟨gb233, 1, none⟩ (.int .i64 ((rd_T43 l1 x48_2).f1)))) := ⟨by repeat (first | (with_reducible first | exact HB.out | apply zA | apply zN | apply zD | refine zP ?_ GE233.out) | exact HB.out)⟩
                (try clear HO_8)
                (try clear BK233)
                (try clear HB)
                generalize ((w33.setCell ⟨gb233, 0, none⟩ (.int .i64 ((rd_T43 l1 x48_2).f0))).setCell ⟨gb233, 1, none⟩ (.int .i64 ((rd_T43 l1 x48_2).f1))) = w35 at n0_ n1_ n2_ ⊢
                have HO_8 := n0_
                have BK233 := n1_
                have HB := n2_
                clear n0_ n1_ n2_
                have n0_ := Aside0.mk (Kd.S_drew HO_8.out)
                have n1_ := Aside0.mk (yD BK233.out)
                have n2_ := Aside0.mk (zD HB.out)
                clear HO_8
                clear BK233
                clear HB
                have HO_8 := n0_
                have BK233 := n1_
                have HB := n2_
                clear n0_ n1_ n2_
                have p234 : 0 ≤ (((rd_T43 l1 x48_2).f0) : Int) := of_decide_eq_true (by first | (with_reducible assumption) | assumption)
                have q234 : ((rd_T43 l1 x48_2).f0) < (l0.length : Int) := of_decide_eq_true (by first | (with_reducible assumption) | assumption)
                obtain ⟨ad234, A234_2, c234_2, A234_3, c234_3, A234_4, c234_4, e234, hx234_0, hx234_1, hx234_2, hx234_3, hx234_4, hl234_2, hi234_2, hl234_3, hi234_3, hl234_4, hi234_4⟩ := at_T52 HR0.out ((rd_T43 l1 x48_2).f0) p234 q234
                have hw234_4 := hx234_4
                have hw234_3 := hx234_3
                have hw234_2 := hx234_2
                have hw234_1 := hx234_1
                have hw234_0 := hx234_0
                cases e234
                replace hx234_0 := (HB.out.cell (World.block_lt_of_cell? w _ hx234_0)).trans hx234_0
                replace hx234_1 := (HB.out.cell (World.block_lt_of_cell? w _ hx234_1)).trans hx234_1
                replace hx234_2 := (HB.out.cell (World.block_lt_of_cell? w _ hx234_2)).trans hx234_2
                replace hx234_3 := (HB.out.cell (World.block_lt_of_cell? w _ hx234_3)).trans hx234_3
                replace hx234_4 := (HB.out.cell (World.block_lt_of_cell? w _ hx234_4)).trans hx234_4
                have HR234_2 := Aside0.mk hi234_2
                have HC234_2 := Aside0.mk hl234_2
                clear hi234_2 hl234_2
                have HR234_3 := Aside0.mk hi234_3
                have HC234_3 := Aside0.mk hl234_3
                clear hi234_3 hl234_3
                have HR234_4 := Aside0.mk hi234_4
                have HC234_4 := Aside0.mk hl234_4
                clear hi234_4 hl234_4
                replace p234 := eq_true p234
                replace q234 := eq_true q234
                have p235 : 0 ≤ (((rd_T43 l1 x48_2).f1) : Int) := of_decide_eq_true (by first | (with_reducible assumption) | assumption)
                have q235 : ((rd_T43 l1 x48_2).f1) < (l0.length : Int) := of_decide_eq_true (by first | (with_reducible assumption) | assumption)
                obtain ⟨ad235, A235_2, c235_2, A235_3, c235_3, A235_4, c235_4, e235, hx235_0, hx235_1, hx235_2, hx235_3, hx235_4, hl235_2, hi235_2, hl235_3, hi235_3, hl235_4, hi235_4⟩ := at_T52 HR0.out ((rd_T43 l1 x48_2).f1) p235 q235
                have hw235_4 := hx235_4
                have hw235_3 := hx235_3
                have hw235_2 := hx235_2
                have hw235_1 := hx235_1
                have hw235_0 := hx235_0
                obtain rfl : ad234 = ad235 := (by injection e235)
                replace hx235_0 := (HB.out.cell (World.block_lt_of_cell? w _ hx235_0)).trans hx235_0
                replace hx235_1 := (HB.out.cell (World.block_lt_of_cell? w _ hx235_1)).trans hx235_1
                replace hx235_2 := (HB.out.cell (World.block_lt_of_cell? w _ hx235_2)).trans hx235_2
                replace hx235_3 := (HB.out.cell (World.block_lt_of_cell? w _ hx235_3)).trans hx235_3
                replace hx235_4 := (HB.out.cell (World.block_lt_of_cell? w _ hx235_4)).trans hx235_4
                have HR235_2 := Aside0.mk hi235_2
                have HC235_2 := Aside0.mk hl235_2
                clear hi235_2 hl235_2
                have HR235_3 := Aside0.mk hi235_3
                have HC235_3 := Aside0.mk hl235_3
                clear hi235_3 hl235_3
                have HR235_4 := Aside0.mk hi235_4
                have HC235_4 := Aside0.mk hl235_4
                clear hi235_4 hl235_4
                replace p235 := eq_true p235
                replace q235 := eq_true q235
                refine start_ (n := 15) (S := fun w' => w'.cell? ⟨gb233, 0, none⟩ = some (.int .i64 ((rd_T43 l1 x48_2).f0)) ∧ w'.cell? ⟨gb233, 1, none⟩ = some (.int .i64 ((rd_T43 l1 x48_2).f1)) ∧ w'.cell? (ad234.add ((((rd_T43 l1 x48_2).f0)).toNat * 5)) = some (.int .i64 ((rd_T52 l0 ((rd_T43 l1 x48_2).f0)).f0)) ∧ w'.cell? ⟨(ad234.add ((((rd_T43 l1 x48_2).f0)).toNat * 5)).block, (ad234.add ((((rd_T43 l1 x48_2).f0)).toNat * 5)).off + 1, none⟩ = some (.int .i64 ((rd_T52 l0 ((rd_T43 l1 x48_2).f0)).f1)) ∧ w'.cell? ⟨(ad234.add ((((rd_T43 l1 x48_2).f0)).toNat * 5)).block, (ad234.add ((((rd_T43 l1 x48_2).f0)).toNat * 5)).off + 2, none⟩ = some (.slice A234_2 ((rd_T52 l0 ((rd_T43 l1 x48_2).f0)).f2).length c234_2) ∧ w'.cell? ⟨(ad234.add ((((rd_T43 l1 x48_2).f0)).toNat * 5)).block, (ad234.add ((((rd_T43 l1 x48_2).f0)).toNat * 5)).off + 3, none⟩ = some (.slice A234_3 ((rd_T52 l0 ((rd_T43 l1 x48_2).f0)).f3).length c234_3) ∧ w'.cell? ⟨(ad234.add ((((rd_T43 l1 x48_2).f0)).toNat * 5)).block, (ad234.add ((((rd_T43 l1 x48_2).f0)).toNat * 5)).off + 4, none⟩ = some (.slice A234_4 ((rd_T52 l0 ((rd_T43 l1 x48_2).f0)).f4).length c234_4) ∧ w'.cell? (ad234.add ((((rd_T43 l1 x48_2).f1)).toNat * 5)) = some (.int .i64 ((rd_T52 l0 ((rd_T43 l1 x48_2).f1)).f0)) ∧ w'.cell? ⟨(ad234.add ((((rd_T43 l1 x48_2).f1)).toNat * 5)).block, (ad234.add ((((rd_T43 l1 x48_2).f1)).toNat * 5)).off + 1, none⟩ = some (.int .i64 ((rd_T52 l0 ((rd_T43 l1 x48_2).f1)).f1)) ∧ w'.cell? ⟨(ad234.add ((((rd_T43 l1 x48_2).f1)).toNat * 5)).block, (ad234.add ((((rd_T43 l1 x48_2).f1)).toNat * 5)).off + 2, none⟩ = some (.slice A235_2 ((rd_T52 l0 ((rd_T43 l1 x48_2).f1)).f2).length c235_2) ∧ w'.cell? ⟨(ad234.add ((((rd_T43 l1 x48_2).f1)).toNat * 5)).block, (ad234.add ((((rd_T43 l1 x48_2).f1)).toNat * 5)).off + 3, none⟩ = some (.slice A235_3 ((rd_T52 l0 ((rd_T43 l1 x48_2).f1)).f3).length c235_3) ∧ w'.cell? ⟨(ad234.add ((((rd_T43 l1 x48_2).f1)).toNat * 5)).block, (ad234.add ((((rd_T43 l1 x48_2).f1)).toNat * 5)).off + 4, none⟩ = some (.slice A235_4 ((rd_T52 l0 ((rd_T43 l1 x48_2).f1)).f4).length c235_4)) (ds := []) #[false, false, false, false, false, false, false, false, false, false, false, false, false, false, false] (by kernel_rfl) rfl rfl ⟨(blk_cell BK233.out 0).trans rfl, (blk_cell BK233.out 1).trans rfl, ((HB.out.cell (World.block_lt_of_cell? w _ hw234_0)).trans hw234_0), ((HB.out.cell (World.block_lt_of_cell? w _ hw234_1)).trans hw234_1), ((HB.out.cell (World.block_lt_of_cell? w _ hw234_2)).trans hw234_2), ((HB.out.cell (World.block_lt_of_cell? w _ hw234_3)).trans hw234_3), ((HB.out.cell (World.block_lt_of_cell? w _ hw234_4)).trans hw234_4), ((HB.out.cell (World.block_lt_of_cell? w _ hw235_0)).trans hw235_0), ((HB.out.cell (World.block_lt_of_cell? w _ hw235_1)).trans hw235_1), ((HB.out.cell (World.block_lt_of_cell? w _ hw235_2)).trans hw235_2), ((HB.out.cell (World.block_lt_of_cell? w _ hw235_3)).trans hw235_3), ((HB.out.cell (World.block_lt_of_cell? w _ hw235_4)).trans hw235_4)⟩ (fun hHeld => ?_); refine with_tabW cadence_Pull.tab15 cadence_Pull.bits15 (fun HT_ HW_ => ?_)
                generalize w35.drew = w36 at HO_8 BK233 HB HR234_2 HR234_3 HR234_4 HR235_2 HR235_3 HR235_4 hx234_0 hx234_1 hx234_2 hx234_3 hx234_4 hx235_0 hx235_1 hx235_2 hx235_3 hx235_4 hHeld ⊢
                refine Abb.pS 0 52 #[T', F', F', F', F', F', F', F', F', F', F', F', F', F', F'] HT_ ?_
                refine Abb.pS 1 53 #[T', T', F', F', F', F', F', F', F', F', F', F', F', F', F'] HT_ ?_
                refine Abb.pS 2 54 #[T', T', T', F', F', F', F', F', F', F', F', F', F', F', F'] HT_ ?_
                refine Abb.pS 6 58 #[T', T', T', F', F', F', T', F', F', F', F', F', F', F', F'] HT_ ?_
                refine Abb.pS 7 59 #[T', T', T', F', F', F', T', T', F', F', F', F', F', F', F'] HT_ ?_
                refine Abb.pT 3 55 #[T', T', T', T', F', F', T', T', F', F', F', F', F', F', F'] HT_ HW_ hHeld ?_
                refine Abb.pS 4 56 #[T', T', T', T', T', F', T', T', F', F', F', F', F', F', F'] HT_ ?_
                refine Abb.pT 5 57 #[T', T', T', T', T', T', T', T', F', F', F', F', F', F', F'] HT_ HW_ hHeld ?_
                refine Abb.pT 8 60 #[T', T', T', T', T', T', T', T', T', F', F', F', F', F', F'] HT_ HW_ hHeld ?_
                refine Abb.pS 9 61 #[T', T', T', T', T', T', T', T', T', T', F', F', F', F', F'] HT_ ?_
                refine Abb.pT 10 62 #[T', T', T', T', T', T', T', T', T', T', T', F', F', F', F'] HT_ HW_ hHeld ?_
                refine one_ (i := 11) (N := some 63) #[T', T', T', T', T', T', T', T', T', T', T', T', F', F', F'] rfl rfl (one_of HT_.out (by kernel_rfl)) (by decide) (fun K hK => ?_)
                refine goes_ Try.func62 (by kernel_rfl) rfl #[.agg #[.int .i64 ((rd_T52 l0 ((rd_T43 l1 x48_2).f0)).f0), .int .i64 ((rd_T52 l0 ((rd_T43 l1 x48_2).f0)).f1), .slice A234_2 ((rd_T52 l0 ((rd_T43 l1 x48_2).f0)).f2).length c234_2, .slice A234_3 ((rd_T52 l0 ((rd_T43 l1 x48_2).f0)).f3).length c234_3, .slice A234_4 ((rd_T52 l0 ((rd_T43 l1 x48_2).f0)).f4).length c234_4], .agg #[.int .i64 ((rd_T52 l0 ((rd_T43 l1 x48_2).f1)).f0), .int .i64 ((rd_T52 l0 ((rd_T43 l1 x48_2).f1)).f1), .slice A235_2 ((rd_T52 l0 ((rd_T43 l1 x48_2).f1)).f2).length c235_2, .slice A235_3 ((rd_T52 l0 ((rd_T43 l1 x48_2).f1)).f3).length c235_3, .slice A235_4 ((rd_T52 l0 ((rd_T43 l1 x48_2).f1)).f4).length c235_4]] (by rfl) rfl rfl (by (try simp only [List.map_toArray, List.map_cons, List.map_nil]); first | done | rfl | (simp only [List.length_drop, List.length_take]; rfl)) ?_
                with_reducible refine (cadence_woven.calls ((rd_T52 l0 ((rd_T43 l1 x48_2).f0)).f0) ((rd_T52 l0 ((rd_T43 l1 x48_2).f0)).f1) _ _ ((rd_T52 l0 ((rd_T43 l1 x48_2).f0)).f2) _ _ ((rd_T52 l0 ((rd_T43 l1 x48_2).f0)).f3) _ _ ((rd_T52 l0 ((rd_T43 l1 x48_2).f0)).f4) ((rd_T52 l0 ((rd_T43 l1 x48_2).f1)).f0) ((rd_T52 l0 ((rd_T43 l1 x48_2).f1)).f1) _ _ ((rd_T52 l0 ((rd_T43 l1 x48_2).f1)).f2) _ _ ((rd_T52 l0 ((rd_T43 l1 x48_2).f1)).f3) _ _ ((rd_T52 l0 ((rd_T43 l1 x48_2).f1)).f4) t236 t237 t238 t241 t244 _ ?side1 ?side2 ?side3 ?side4 ?side5 ?side6 ?side7 ?side8 ?side9 ?side10 ?side11 ?side12 A31.out).mono ?_
                (case side1 => repeat (first | exact (Kd.C_below HR234_2.out HB.out) | (with_reducible refine Kd.C_alloc ?_ _) | (with_reducible refine Kd.C_drewN ?_ _) | (with_reducible refine Kd.C_drew ?_)))
                (case side2 => exact HC234_2.out)
                (case side3 => repeat (first | exact (Kd.C_below HR234_3.out HB.out) | (with_reducible refine Kd.C_alloc ?_ _) | (with_reducible refine Kd.C_drewN ?_ _) | (with_reducible refine Kd.C_drew ?_)))
                (case side4 => exact HC234_3.out)
                (case side5 => repeat (first | exact (Kd.C_below HR234_4.out HB.out) | (with_reducible refine Kd.C_alloc ?_ _) | (with_reducible refine Kd.C_drewN ?_ _) | (with_reducible refine Kd.C_drew ?_)))
                (case side6 => exact HC234_4.out)
                (case side7 => repeat (first | exact (Kd.C_below HR235_2.out HB.out) | (with_reducible refine Kd.C_alloc ?_ _) | (with_reducible refine Kd.C_drewN ?_ _) | (with_reducible refine Kd.C_drew ?_)))
                (case side8 => exact HC235_2.out)
                (case side9 => repeat (first | exact (Kd.C_below HR235_3.out HB.out) | (with_reducible refine Kd.C_alloc ?_ _) | (with_reducible refine Kd.C_drewN ?_ _) | (with_reducible refine Kd.C_drew ?_)))
                (case side10 => exact HC235_3.out)
                (case side11 => repeat (first | exact (Kd.C_below HR235_4.out HB.out) | (with_reducible refine Kd.C_alloc ?_ _) | (with_reducible refine Kd.C_drewN ?_ _) | (with_reducible refine Kd.C_drew ?_)))
                (case side12 => exact HC235_4.out)
                rintro e w37 ⟨v239, v242, v245, rfl, ho0, ho1, ho2, hb⟩
                refine ⟨_, rfl, ?_⟩
                have n0_ := Aside0.mk (Kd.S_mono (Kd.S_told (Kd.S_told (Kd.S_told (Kd.S_old (by (with_reducible repeat (first | apply Kd.S_alloc | apply Kd.S_drewN | apply Kd.S_drew)); exact HO_8.out) hb) (Kd.R_base ho0)) (Kd.R_base ho1)) (Kd.R_base ho2)) (fun _ h_ => h_.1))
                have n1_ := Aside0.mk (Kd.R_lower ho0 (zS (by repeat (first | (with_reducible first | exact HB.out | apply zA | apply zN | apply zD | refine zP ?_ GE233.out) | exact HB.out))))
                have n2_ := Aside0.mk (Kd.R_lower ho1 (zS (by repeat (first | (with_reducible first | exact HB.out | apply zA | apply zN | apply zD | refine zP ?_ GE233.out) | exact HB.out))))
                have n3_ := Aside0.mk (Kd.R_lower ho2 (zS (by repeat (first | (with_reducible first | exact HB.out | apply zA | apply zN | apply zD | refine zP ?_ GE233.out) | exact HB.out))))
                have n4_ := Aside0.mk (yB (g := gb233) (o := .cells #[.int .i64 ((rd_T43 l1 x48_2).f0), .int .i64 ((rd_T43 l1 x48_2).f1)] 43 (0, 0)) (by (with_reducible repeat (first | refine yN ?_ _ | refine yD ?_ | refine yA ?_ _)); exact BK233.out) hb)
                have n5_ := Aside0.mk (zT (by repeat (first | (with_reducible first | exact HB.out | apply zA | apply zN | apply zD | refine zP ?_ GE233.out) | exact HB.out)) hb)
                clear HO_8
                clear BK233
                clear HB
                have HO_8 := n0_
                have HO240 := n1_
                have HO243 := n2_
                have HO246 := n3_
                have BK233 := n4_
                have HB := n5_
                clear n0_ n1_ n2_ n3_ n4_ n5_
                (try clear hb)
                (try clear hb2)
                (try clear hk)
                (try clear hi)
                (try clear ho0)
                (try clear ho1)
                (try clear ho2)
                obtain ⟨Ao39, co39, eo39⟩ := Kd.R_slice HO240.out
                (first | subst eo39 | (injection eo39 with f1_ f2_ f3_; have f4_ := f1_.symm; have f5_ := f3_.symm; clear f1_ f2_ f3_; subst f4_; subst f5_))
                obtain ⟨Ao40, co40, eo40⟩ := Kd.R_slice HO243.out
                (first | subst eo40 | (injection eo40 with f1_ f2_ f3_; have f4_ := f1_.symm; have f5_ := f3_.symm; clear f1_ f2_ f3_; subst f4_; subst f5_))
                obtain ⟨Ao41, co41, eo41⟩ := Kd.R_slice HO246.out
                (first | subst eo41 | (injection eo41 with f1_ f2_ f3_; have f4_ := f1_.symm; have f5_ := f3_.symm; clear f1_ f2_ f3_; subst f4_; subst f5_))
                refine hK.out _ _ ⟨(blk_cell BK233.out 0).trans rfl, (blk_cell BK233.out 1).trans rfl, ((HB.out.cell (World.block_lt_of_cell? w _ hw234_0)).trans hw234_0), ((HB.out.cell (World.block_lt_of_cell? w _ hw234_1)).trans hw234_1), ((HB.out.cell (World.block_lt_of_cell? w _ hw234_2)).trans hw234_2), ((HB.out.cell (World.block_lt_of_cell? w _ hw234_3)).trans hw234_3), ((HB.out.cell (World.block_lt_of_cell? w _ hw234_4)).trans hw234_4), ((HB.out.cell (World.block_lt_of_cell? w _ hw235_0)).trans hw235_0), ((HB.out.cell (World.block_lt_of_cell? w _ hw235_1)).trans hw235_1), ((HB.out.cell (World.block_lt_of_cell? w _ hw235_2)).trans hw235_2), ((HB.out.cell (World.block_lt_of_cell? w _ hw235_3)).trans hw235_3), ((HB.out.cell (World.block_lt_of_cell? w _ hw235_4)).trans hw235_4)⟩ (fun hHeld => ?_)
                clear hK K
                refine norm_ (a' := ?_) ?_ ?_
                rotate_left
                ·show Act.put _ (some 63) _ = _
                 simp only [Act.put, sA, sZ, sS, i64_w, i32_w]
                 rfl
                refine one_ (i := 12) (N := some 64) #[T', T', T', T', T', T', T', T', T', T', T', T', T', F', F'] rfl rfl (one_of HT_.out (by kernel_rfl)) (by decide) (fun K hK => ?_)
                refine value_ (w1 := ?_) (v := ?_) (by rfl) rfl ?_ ?_
                rotate_left 2
                ·go_simp
                 constructor
                 ·rfl
                 ·rfl
                refine hK.out _ _ ⟨(blk_cell (yA BK233.out _) 0).trans rfl, (blk_cell (yA BK233.out _) 1).trans rfl, (World.cell?_alloc_lt _ _ _ (World.block_lt_of_cell? _ _ (((HB.out.cell (World.block_lt_of_cell? w _ hw234_0)).trans hw234_0)))).trans (((HB.out.cell (World.block_lt_of_cell? w _ hw234_0)).trans hw234_0)), (World.cell?_alloc_lt _ _ _ (World.block_lt_of_cell? _ _ (((HB.out.cell (World.block_lt_of_cell? w _ hw234_1)).trans hw234_1)))).trans (((HB.out.cell (World.block_lt_of_cell? w _ hw234_1)).trans hw234_1)), (World.cell?_alloc_lt _ _ _ (World.block_lt_of_cell? _ _ (((HB.out.cell (World.block_lt_of_cell? w _ hw234_2)).trans hw234_2)))).trans (((HB.out.cell (World.block_lt_of_cell? w _ hw234_2)).trans hw234_2)), (World.cell?_alloc_lt _ _ _ (World.block_lt_of_cell? _ _ (((HB.out.cell (World.block_lt_of_cell? w _ hw234_3)).trans hw234_3)))).trans (((HB.out.cell (World.block_lt_of_cell? w _ hw234_3)).trans hw234_3)), (World.cell?_alloc_lt _ _ _ (World.block_lt_of_cell? _ _ (((HB.out.cell (World.block_lt_of_cell? w _ hw234_4)).trans hw234_4)))).trans (((HB.out.cell (World.block_lt_of_cell? w _ hw234_4)).trans hw234_4)), (World.cell?_alloc_lt _ _ _ (World.block_lt_of_cell? _ _ (((HB.out.cell (World.block_lt_of_cell? w _ hw235_0)).trans hw235_0)))).trans (((HB.out.cell (World.block_lt_of_cell? w _ hw235_0)).trans hw235_0)), (World.cell?_alloc_lt _ _ _ (World.block_lt_of_cell? _ _ (((HB.out.cell (World.block_lt_of_cell? w _ hw235_1)).trans hw235_1)))).trans (((HB.out.cell (World.block_lt_of_cell? w _ hw235_1)).trans hw235_1)), (World.cell?_alloc_lt _ _ _ (World.block_lt_of_cell? _ _ (((HB.out.cell (World.block_lt_of_cell? w _ hw235_2)).trans hw235_2)))).trans (((HB.out.cell (World.block_lt_of_cell? w _ hw235_2)).trans hw235_2)), (World.cell?_alloc_lt _ _ _ (World.block_lt_of_cell? _ _ (((HB.out.cell (World.block_lt_of_cell? w _ hw235_3)).trans hw235_3)))).trans (((HB.out.cell (World.block_lt_of_cell? w _ hw235_3)).trans hw235_3)), (World.cell?_alloc_lt _ _ _ (World.block_lt_of_cell? _ _ (((HB.out.cell (World.block_lt_of_cell? w _ hw235_4)).trans hw235_4)))).trans (((HB.out.cell (World.block_lt_of_cell? w _ hw235_4)).trans hw235_4))⟩ (fun hHeld => ?_)
                clear hK K
                refine norm_ (a' := ?_) ?_ ?_
                rotate_left
                ·show Act.put _ (some 64) _ = _
                 simp only [Act.put, sA, sZ, sS, i64_w, i32_w]
                 rfl
                refine one_ (i := 13) (N := some 65) #[T', T', T', T', T', T', T', T', T', T', T', T', T', T', F'] rfl rfl (one_of HT_.out (by kernel_rfl)) (by decide) (fun K hK => ?_)
                refine Kd.S_append_step k52 (w0 := w) w.heap.size (by rfl) (.tmp 52) (.tmp 64) 48 52 (.agg #[(.int .i64 0), (.int .i64 0), (.slice none 0 0), (.slice none 0 0), (.slice none 0 0)]) 88 rfl Try.underlying48 info52 rfl (by decide) (by omega) u8 x8_2 (⟨t236, t237, t238, t241, t244⟩ : S52) [.int .i64 t236, .int .i64 t237, .slice Ao39 t238.length co39, .slice Ao40 t241.length co40, .slice Ao41 t244.length co41] (fun _ => True) (fun k_ => some k_ = (.slice Ao39 t238.length co39 : Value).ownBlock ∨ some k_ = (.slice Ao40 t241.length co40 : Value).ownBlock ∨ some k_ = (.slice Ao41 t244.length co41 : Value).ownBlock) rfl rfl ?aP (fun k_ hk_ => hk_.elim (fun h_ => ((Kd.R_mono (ok' := fun k_ => ((fun _ => True)) k_ ∧ some k_ ≠ (u8 : Value).ownBlock) (Kd.R_apart' (HO240.out) (Kd.S_typed HO_8.out) (by decide)) (fun k_ hk => ⟨trivial, hk.2⟩))).1 k_ h_.symm) (fun h_ => h_.elim (fun h_ => ((Kd.R_mono (ok' := fun k_ => ((fun _ => True)) k_ ∧ some k_ ≠ (u8 : Value).ownBlock) (Kd.R_apart' (HO243.out) (Kd.S_typed HO_8.out) (by decide)) (fun k_ hk => ⟨trivial, hk.2⟩))).1 k_ h_.symm) (fun h_ => ((Kd.R_mono (ok' := fun k_ => ((fun _ => True)) k_ ∧ some k_ ≠ (u8 : Value).ownBlock) (Kd.R_apart' (HO246.out) (Kd.S_typed HO_8.out) (by decide)) (fun k_ hk => ⟨trivial, hk.2⟩))).1 k_ h_.symm))) ?aF ?aO ?aB ?aS ?aL ?_
                (case aP => exact k52_mkM _ _ _ (⟨t236, t237, t238, t241, t244⟩ : S52) (Kd.R_mono (Kd.R_tight rfl (Kd.R_mono (ok' := fun k_ => ((fun _ => True)) k_ ∧ some k_ ≠ (u8 : Value).ownBlock) (Kd.R_apart' (HO240.out) (Kd.S_typed HO_8.out) (by decide)) (fun k_ hk => ⟨trivial, hk.2⟩))) (fun _ h_ => Or.inl h_)) (Kd.R_mono (Kd.R_tight rfl (Kd.R_mono (ok' := fun k_ => ((fun _ => True)) k_ ∧ some k_ ≠ (u8 : Value).ownBlock) (Kd.R_apart' (HO243.out) (Kd.S_typed HO_8.out) (by decide)) (fun k_ hk => ⟨trivial, hk.2⟩))) (fun _ h_ => Or.inr (Or.inl h_))) (Kd.R_mono (Kd.R_tight rfl (Kd.R_mono (ok' := fun k_ => ((fun _ => True)) k_ ∧ some k_ ≠ (u8 : Value).ownBlock) (Kd.R_apart' (HO246.out) (Kd.S_typed HO_8.out) (by decide)) (fun k_ hk => ⟨trivial, hk.2⟩))) (fun _ h_ => Or.inr (Or.inr (h_)))))
                (case aB => exact (by repeat (first | (with_reducible first | exact HB.out | apply zA | apply zN | apply zD | refine zP ?_ GE233.out) | exact HB.out)))
                (case aF => exact (fun _ _ => trivial))
                (case aO => exact (by (with_reducible repeat (first | apply Kd.S_alloc | apply Kd.S_drewN | apply Kd.S_drew)); exact Kd.S_mono HO_8.out (fun k_ hk => ⟨trivial, fun e_ => e_.elim (fun h_ => hk.1.1.2 h_) (fun h_ => h_.elim (fun h_ => hk.1.2 h_) (fun h_ => hk.2 h_))⟩)))
                (case aS => exact (zS (by repeat (first | (with_reducible first | exact HB.out | apply zA | apply zN | apply zD | refine zP ?_ GE233.out) | exact HB.out))))
                (case aL => have := LMc32.out; omega)
                intro v248 w38 ho hb hg hat
                rw [← Ny247.out] at ho
                have n0_ := Aside0.mk (blk_grown (g := gb233) (o := .cells #[.int .i64 ((rd_T43 l1 x48_2).f0), .int .i64 ((rd_T43 l1 x48_2).f1)] 43 (0, 0)) (by (with_reducible repeat (first | refine yN ?_ _ | refine yD ?_ | refine yA ?_ _)); exact BK233.out) hg (Kd.S_ne HO_8.out BK233.out (by decide)))
                have n1_ := Aside0.mk (hb)
                have n2_ := Aside0.mk (ho)
                clear BK233
                clear HB
                clear HO_8
                clear HO240
                clear HO243
                clear HO246
                have BK233 := n0_
                have HB := n1_
                have HO249 := n2_
                clear n0_ n1_ n2_
                clear ho hb hg hat
                refine hK.out _ _ ⟨(blk_cell BK233.out 0).trans rfl, (blk_cell BK233.out 1).trans rfl, ((HB.out.cell (World.block_lt_of_cell? w _ hw234_0)).trans hw234_0), ((HB.out.cell (World.block_lt_of_cell? w _ hw234_1)).trans hw234_1), ((HB.out.cell (World.block_lt_of_cell? w _ hw234_2)).trans hw234_2), ((HB.out.cell (World.block_lt_of_cell? w _ hw234_3)).trans hw234_3), ((HB.out.cell (World.block_lt_of_cell? w _ hw234_4)).trans hw234_4), ((HB.out.cell (World.block_lt_of_cell? w _ hw235_0)).trans hw235_0), ((HB.out.cell (World.block_lt_of_cell? w _ hw235_1)).trans hw235_1), ((HB.out.cell (World.block_lt_of_cell? w _ hw235_2)).trans hw235_2), ((HB.out.cell (World.block_lt_of_cell? w _ hw235_3)).trans hw235_3), ((HB.out.cell (World.block_lt_of_cell? w _ hw235_4)).trans hw235_4)⟩ (fun hHeld => ?_)
                clear hK K
                refine norm_ (a' := ?_) ?_ ?_
                rotate_left
                ·show Act.put _ (some 65) _ = _
                 simp only [Act.put, sA, sZ, sS, i64_w, i32_w]
                 rfl
                refine Abb.pS 14 8 #[T', T', T', T', T', T', T', T', T', T', T', T', T', T', T'] HT_ ?_
                refine done_ (done_of HT_.out (by kernel_rfl)) ?_
                try go_wp2
                go_roundg k2
                case measure => have := HK1.out; have := HK2.out; omega
                case rel => exact ⟨(y247), (wrap64 (x48_2 + 1)), (by first | rfl | (simp; done) | (simp [*]; done)), H', ⟨by have := HK1.out; have := HK2.out; omega⟩, ⟨by (with_reducible repeat (first | apply Kd.S_alloc | apply Kd.S_drewN | apply Kd.S_drew)); exact HO249.out⟩, ⟨by repeat (first | (with_reducible first | exact HB.out | apply zA | apply zN | apply zD | refine zP ?_ GE233.out) | exact HB.out)⟩⟩
               ·rw [if_neg c32] at H
                exact absurd H (by simp)
              ·rw [if_neg c30] at H
               exact absurd H (by simp)
             ·rw [if_neg c29] at H
              exact absurd H (by simp)
            ·rw [if_neg c28] at H
             exact absurd H (by simp)
           ·rw [if_neg c27] at H
            exact absurd H (by simp)
          ·rw [if_neg c26] at H
           exact absurd H (by simp)
         ·rw [if_neg c25] at H
          exact absurd H (by simp)
        ·rw [if_neg c24] at H
         have c24b0 : decide (x48_2 < (l1.length : Int)) = false := decide_eq_false c24
         clear c24
         simp only [Option.some.injEq, Prod.mk.injEq] at H
         obtain ⟨rfl, rfl⟩ := H
         go_wp2
         go_ret2
         exact ⟨_, by first | rfl | (simp [errW_none, errW_some] <;> rfl) | (simp [*, errW_none, errW_some] <;> rfl), by (with_reducible repeat (first | apply Kd.S_alloc | apply Kd.S_drewN | apply Kd.S_drew)); exact HO_8.out, by repeat (first | (with_reducible first | exact HB.out | apply zA | apply zN | apply zD) | exact HB.out)⟩
 ·replace c4 := Bool.eq_false_iff.mpr c4
  subst c4
  have H1 : (some (([] : List (S52)), 1)) = some (r1, r2) := by rw [if_neg (show ¬ (false = true) by decide)] at H; exact H
  clear H
  have H := H1
  clear H1
  simp only [Option.some.injEq, Prod.mk.injEq] at H
  obtain ⟨rfl, rfl⟩ := H
  go_enter Try.func40, Try.ntmps40
  go_wp2_with (first | ((with_reducible refine xC (f := 59) rfl ?_); refine goesL_ (some 12) rfl rfl Try.func59 (by kernel_rfl) rfl #[.slice A0 l0.length c0] rfl (by (try simp only [List.map_toArray, List.map_cons, List.map_nil]); first | done | rfl | (simp only [List.length_drop, List.length_take]; rfl)) ?_; (with_reducible refine (cadence_alike.calls k _ _ l0 false _ ?side1 ?side2 A3.out).mono ?_); (case side1 => repeat (first | exact HR0.out | (with_reducible refine Kd.C_alloc ?_ _) | (with_reducible refine Kd.C_drewN ?_ _) | (with_reducible refine Kd.C_drew ?_))); (case side2 => exact HC0.out); rintro e w42 ⟨rfl, hb⟩; refine ⟨_, rfl, ?_⟩; have n0_ := Aside0.mk (zT (by repeat (first | (with_reducible first | exact HB.out | apply zA | apply zN | apply zD) | exact HB.out)) hb); clear HB; have HB := n0_; clear n0_; (try clear hb); (try clear hb2); (try clear hk); (try clear hi)))
  go_ret2
  exact ⟨_, by first | rfl | (simp [errW_none, errW_some] <;> rfl) | (simp [*, errW_none, errW_some] <;> rfl), by first | exact Kd.S_nil _ _ _ _ _ | exact Kd.N_nil _ _ _ _ _ | exact Kd.V_nil _ _ _ _ _ | exact Kd.Q_nil _ _ _ _ _ | exact Kd.R_nil _ _ _ _ _, by repeat (first | (with_reducible first | exact HB.out | apply zA | apply zN | apply zD) | exact HB.out)⟩

end Go.Proofs.Ytcofjbbflcnaaaa.P
