-- Written by this session's own program (wip/tools/myprint.py), which runs the kit's print with turns of its own: not a text of the kit's print.sh.
import Derived.Test.YtcofjbbflcnaaaaPx0
import Derived.Test.YtcofjbbflcnaaaaPx46
import Derived.Test.YtcofjbbflcnaaaaAbb
namespace Go.Proofs.Ytcofjbbflcnaaaa.P
open Go.RowKit Go.Proofs.YtcofjbbflcnaaaaW.PrintWords Go.Proofs.YtcofjbbflcnaaaaW.PrintLast Go.Proofs.YtcofjbbflcnaaaaW.PrintMore
open List renaming setIfInBounds_toArray → sA, set_cons_zero → sZ, set_cons_succ → sS
open Bool renaming true → T', false → F'
open Go.Proofs.YtcofjbbflcnaaaaW.PrintWords renaming below_alloc → zA, pw_below_drewN → zN, below_drew1 → zD, blk_drewN → yN, blk_drew → yD, blk_alloc → yA, below_size → zS, below_step → zT, blk_below → yB, below_set → zP, cell_far → xF, add_block → xB, gate_callee → xC, gate_dst → xD
attribute [local go_sem] max2_int min2_int max_two min_two max_three min_three max_four min_four   -- for this text's walks alone
set_option linter.unusedVariables false
set_option linter.unusedSimpArgs false

/-! ### cutroomref20_Frames: function 42 -/
def cutroomref20_Frames.l0 : Nat → List (S52) → List (S52) → Int → Option (Bool)
 | 0, _, _, _ => none
 | k + 1, x0, x1, x5 => if x5 < (x0.length : Int) then (if 0 ≤ x5 then (if x5 < (x1.length : Int) then ((cutroomref20_Same.f ((rd_T52 x0 x5).f0) ((rd_T52 x0 x5).f1) ((rd_T52 x0 x5).f2) ((rd_T52 x0 x5).f3) ((rd_T52 x0 x5).f4) ((rd_T52 x1 x5).f0) ((rd_T52 x1 x5).f1) ((rd_T52 x1 x5).f2) ((rd_T52 x1 x5).f3) ((rd_T52 x1 x5).f4)).bind fun t303 => (if t303 = true then (cutroomref20_Frames.l0 k x0 x1 (wrap64 (x5 + 1))) else (some false))) else (none)) else (none)) else (some true)
def cutroomref20_Frames.f (k : Nat) (l0 : List (S52)) (l1 : List (S52)) : Option (Bool) := if (l0.length : Int) = (l1.length : Int) then (cutroomref20_Frames.l0 k l0 l1 0) else (some false)
theorem cutroomref20_Frames.mono_l : ∀ k, (∀ y0 y1 y2, LeO (cutroomref20_Frames.l0 k y0 y1 y2) (cutroomref20_Frames.l0 (k + 1) y0 y1 y2))
 | 0 => fun _ _ _ r h => by simp [cutroomref20_Frames.l0] at h
 | k + 1 => by
  have ih0 := cutroomref20_Frames.mono_l k
  ·intro y0 y1 y2
   unfold cutroomref20_Frames.l0
   repeat' first
   | (with_reducible exact ih0 _ _ _)
   | (with_reducible exact LeO.refl _)
   | (with_reducible exact LeO.none _)
   | (with_reducible refine LeO.ite ?_ ?_)
   | (with_reducible refine LeO.bind ?_ (fun _ => ?_))
   | exact ih0 _ _ _
   | exact LeO.none _
   | refine LeO.ite ?_ ?_
   | refine LeO.bind ?_ (fun _ => ?_)
theorem cutroomref20_Frames.mono : ∀ a0 a1 k, LeO (cutroomref20_Frames.f k a0 a1) (cutroomref20_Frames.f (k + 1) a0 a1) := by
 intro a0 a1 k
 have ih0 := cutroomref20_Frames.mono_l k
 unfold cutroomref20_Frames.f
 repeat' first
   | (with_reducible exact ih0 _ _ _)
   | (with_reducible exact LeO.refl _)
   | (with_reducible exact LeO.none _)
   | (with_reducible refine LeO.ite ?_ ?_)
   | (with_reducible refine LeO.bind ?_ (fun _ => ?_))
   | exact ih0 _ _ _
   | exact LeO.none _
   | refine LeO.ite ?_ ?_
   | refine LeO.bind ?_ (fun _ => ?_)
def cutroomref20_Frames.T6 : Bool × List (List Nat × List Nat) := (true, [([], []), ([], []), ([0, 1], [0, 1]), ([2], [2]), ([], []), ([], []), ([4, 5], [4, 5]), ([6], [6]), ([3, 7], [3, 7]), ([8], [8])])
def cutroomref20_Frames.B6 : List Nat := [0, 0, 3, 7, 0, 0, 48, 112, 255, 511]
theorem cutroomref20_Frames.tab6 : rtab .any (opsOf Try.f42 6) = cutroomref20_Frames.T6 := by kernel_rfl
theorem cutroomref20_Frames.bits6 : waitsOk cutroomref20_Frames.T6.2 cutroomref20_Frames.B6 = true := by kernel_rfl
set_option maxHeartbeats 8000000 in
set_option maxRecDepth 100000 in
theorem cutroomref20_Frames.calls (k : Nat) (A0 : Option Addr) (c0 : Nat) (l0 : List (S52)) (A1 : Option Addr) (c1 : Nat) (l1 : List (S52)) (r : Bool) (w : World) (hr0 : Kd.C k52 w A0 l0.length l0) (hc0 : l0.length ≤ c0) (hr1 : Kd.C k52 w A1 l1.length l1) (hc1 : l1.length ≤ c1) (h : cutroomref20_Frames.f k l0 l1 = some r) :
  Calls Try.prog 42 #[.slice A0 l0.length c0, .slice A1 l1.length c1] w fun e w' => e = .returned (.bool r) ∧ Below w.heap.size w w' := by
 have hu52 := Try.underlying52
 have HR0 := Aside0.mk hr0
 have HC0 := Aside0.mk hc0
 clear hr0 hc0
 have HR1 := Aside0.mk hr1
 have HC1 := Aside0.mk hc1
 clear hr1 hc1
 have HB := Aside0.mk (Below.refl w.heap.size w)
 have H : (if (l0.length : Int) = (l1.length : Int) then (cutroomref20_Frames.l0 k l0 l1 0) else (some false)) = some r := h
 clear h
 by_cases c3 : (l0.length : Int) = (l1.length : Int)
 ·rw [if_pos c3] at H
  have c3b0 : ((l0.length : Int) == (l1.length : Int)) = true := beq_iff_eq.mpr c3
  have c3b1 : ((l0.length : Int) != (l1.length : Int)) = false := bne_eq_false_iff_eq.mpr c3
  have c3b2 : (l0.length == l1.length) = true := by first | simpa using c3 | (simp at c3 ⊢; omega)
  clear c3
  have H' := Aside0.mk H
  clear H
  go_enter Try.func42, Try.ntmps42
  go_wp2
  go_loopg [5] k (fun kq v5 w' => ∃ (x5_1 : Int), v5 = .int .i64 x5_1 ∧ Aside0 (cutroomref20_Frames.l0 kq l0 l1 x5_1 = some r) ∧ Aside0 (kq ≤ k) ∧ Aside0 (Below w.heap.size w w'))
  case atStart => exact ⟨(0), (by first | rfl | (simp; done) | (simp [*]; done)), H', ⟨Nat.le_refl _⟩, ⟨by repeat (first | (with_reducible first | exact HB.out | apply zA | apply zN | apply zD) | exact HB.out)⟩⟩
  case round =>
   clear H'
   (try clear c1);(try clear p2);(try clear c3);(try clear c3b0);(try clear c3b1);(try clear c3b2)
   obtain ⟨x5_1, rfl, HA, HK1, HB⟩ := hrel
   cases gk with
   | zero => exact absurd HA.out (by simp [cutroomref20_Frames.l0])
   | succ k1 =>
    have H := HA.out
    clear HA
    simp only [cutroomref20_Frames.l0] at H
    by_cases c4 : x5_1 < (l0.length : Int)
    ·rw [if_pos c4] at H
     have c4b0 : decide (x5_1 < (l0.length : Int)) = true := decide_eq_true c4
     clear c4
     by_cases c5 : 0 ≤ x5_1
     ·rw [if_pos c5] at H
      have c5b0 : decide (0 ≤ x5_1) = true := decide_eq_true c5
      clear c5
      by_cases c6 : x5_1 < (l1.length : Int)
      ·rw [if_pos c6] at H
       have c6b0 : decide (x5_1 < (l1.length : Int)) = true := decide_eq_true c6
       clear c6
       replace H := Option.bind_eq_some_iff.mp H
       obtain ⟨t303, A70, H⟩ := H
       replace H : (if t303 = true then (cutroomref20_Frames.l0 k1 l0 l1 (wrap64 (x5_1 + 1))) else (some false)) = some r := H
       have A7 := Aside0.mk A70
       clear A70
       by_cases c8 : t303 = true
       ·subst c8
        have H1 : (cutroomref20_Frames.l0 k1 l0 l1 (wrap64 (x5_1 + 1))) = some r := by rw [if_pos rfl] at H; exact H
        clear H
        have H := H1
        clear H1
        have H' := Aside0.mk H
        clear H
        try go_wp2
        have n0_ := Aside0.mk (zD HB.out)
        clear HB
        have HB := n0_
        clear n0_
        have p301 : 0 ≤ (x5_1 : Int) := of_decide_eq_true (by first | (with_reducible assumption) | assumption)
        have q301 : x5_1 < (l0.length : Int) := of_decide_eq_true (by first | (with_reducible assumption) | assumption)
        obtain ⟨ad301, A301_2, c301_2, A301_3, c301_3, A301_4, c301_4, e301, hx301_0, hx301_1, hx301_2, hx301_3, hx301_4, hl301_2, hi301_2, hl301_3, hi301_3, hl301_4, hi301_4⟩ := at_T52 HR0.out x5_1 p301 q301
        have hw301_4 := hx301_4
        have hw301_3 := hx301_3
        have hw301_2 := hx301_2
        have hw301_1 := hx301_1
        have hw301_0 := hx301_0
        cases e301
        replace hx301_0 := (HB.out.cell (World.block_lt_of_cell? w _ hx301_0)).trans hx301_0
        replace hx301_1 := (HB.out.cell (World.block_lt_of_cell? w _ hx301_1)).trans hx301_1
        replace hx301_2 := (HB.out.cell (World.block_lt_of_cell? w _ hx301_2)).trans hx301_2
        replace hx301_3 := (HB.out.cell (World.block_lt_of_cell? w _ hx301_3)).trans hx301_3
        replace hx301_4 := (HB.out.cell (World.block_lt_of_cell? w _ hx301_4)).trans hx301_4
        have HR301_2 := Aside0.mk hi301_2
        have HC301_2 := Aside0.mk hl301_2
        clear hi301_2 hl301_2
        have HR301_3 := Aside0.mk hi301_3
        have HC301_3 := Aside0.mk hl301_3
        clear hi301_3 hl301_3
        have HR301_4 := Aside0.mk hi301_4
        have HC301_4 := Aside0.mk hl301_4
        clear hi301_4 hl301_4
        replace p301 := eq_true p301
        replace q301 := eq_true q301
        have p302 : 0 ≤ (x5_1 : Int) := of_decide_eq_true (by first | (with_reducible assumption) | assumption)
        have q302 : x5_1 < (l1.length : Int) := of_decide_eq_true (by first | (with_reducible assumption) | assumption)
        obtain ⟨ad302, A302_2, c302_2, A302_3, c302_3, A302_4, c302_4, e302, hx302_0, hx302_1, hx302_2, hx302_3, hx302_4, hl302_2, hi302_2, hl302_3, hi302_3, hl302_4, hi302_4⟩ := at_T52 HR1.out x5_1 p302 q302
        have hw302_4 := hx302_4
        have hw302_3 := hx302_3
        have hw302_2 := hx302_2
        have hw302_1 := hx302_1
        have hw302_0 := hx302_0
        cases e302
        replace hx302_0 := (HB.out.cell (World.block_lt_of_cell? w _ hx302_0)).trans hx302_0
        replace hx302_1 := (HB.out.cell (World.block_lt_of_cell? w _ hx302_1)).trans hx302_1
        replace hx302_2 := (HB.out.cell (World.block_lt_of_cell? w _ hx302_2)).trans hx302_2
        replace hx302_3 := (HB.out.cell (World.block_lt_of_cell? w _ hx302_3)).trans hx302_3
        replace hx302_4 := (HB.out.cell (World.block_lt_of_cell? w _ hx302_4)).trans hx302_4
        have HR302_2 := Aside0.mk hi302_2
        have HC302_2 := Aside0.mk hl302_2
        clear hi302_2 hl302_2
        have HR302_3 := Aside0.mk hi302_3
        have HC302_3 := Aside0.mk hl302_3
        clear hi302_3 hl302_3
        have HR302_4 := Aside0.mk hi302_4
        have HC302_4 := Aside0.mk hl302_4
        clear hi302_4 hl302_4
        replace p302 := eq_true p302
        replace q302 := eq_true q302
        refine start_ (n := 10) (S := fun w' => w'.cell? (ad301.add ((x5_1).toNat * 5)) = some (.int .i64 ((rd_T52 l0 x5_1).f0)) ∧ w'.cell? ⟨(ad301.add ((x5_1).toNat * 5)).block, (ad301.add ((x5_1).toNat * 5)).off + 1, none⟩ = some (.int .i64 ((rd_T52 l0 x5_1).f1)) ∧ w'.cell? ⟨(ad301.add ((x5_1).toNat * 5)).block, (ad301.add ((x5_1).toNat * 5)).off + 2, none⟩ = some (.slice A301_2 ((rd_T52 l0 x5_1).f2).length c301_2) ∧ w'.cell? ⟨(ad301.add ((x5_1).toNat * 5)).block, (ad301.add ((x5_1).toNat * 5)).off + 3, none⟩ = some (.slice A301_3 ((rd_T52 l0 x5_1).f3).length c301_3) ∧ w'.cell? ⟨(ad301.add ((x5_1).toNat * 5)).block, (ad301.add ((x5_1).toNat * 5)).off + 4, none⟩ = some (.slice A301_4 ((rd_T52 l0 x5_1).f4).length c301_4) ∧ w'.cell? (ad302.add ((x5_1).toNat * 5)) = some (.int .i64 ((rd_T52 l1 x5_1).f0)) ∧ w'.cell? ⟨(ad302.add ((x5_1).toNat * 5)).block, (ad302.add ((x5_1).toNat * 5)).off + 1, none⟩ = some (.int .i64 ((rd_T52 l1 x5_1).f1)) ∧ w'.cell? ⟨(ad302.add ((x5_1).toNat * 5)).block, (ad302.add ((x5_1).toNat * 5)).off + 2, none⟩ = some (.slice A302_2 ((rd_T52 l1 x5_1).f2).length c302_2) ∧ w'.cell? ⟨(ad302.add ((x5_1).toNat * 5)).block, (ad302.add ((x5_1).toNat * 5)).off + 3, none⟩ = some (.slice A302_3 ((rd_T52 l1 x5_1).f3).length c302_3) ∧ w'.cell? ⟨(ad302.add ((x5_1).toNat * 5)).block, (ad302.add ((x5_1).toNat * 5)).off + 4, none⟩ = some (.slice A302_4 ((rd_T52 l1 x5_1).f4).length c302_4)) (ds := []) #[false, false, false, false, false, false, false, false, false, false] (by kernel_rfl) rfl rfl ⟨((HB.out.cell (World.block_lt_of_cell? w _ hw301_0)).trans hw301_0), ((HB.out.cell (World.block_lt_of_cell? w _ hw301_1)).trans hw301_1), ((HB.out.cell (World.block_lt_of_cell? w _ hw301_2)).trans hw301_2), ((HB.out.cell (World.block_lt_of_cell? w _ hw301_3)).trans hw301_3), ((HB.out.cell (World.block_lt_of_cell? w _ hw301_4)).trans hw301_4), ((HB.out.cell (World.block_lt_of_cell? w _ hw302_0)).trans hw302_0), ((HB.out.cell (World.block_lt_of_cell? w _ hw302_1)).trans hw302_1), ((HB.out.cell (World.block_lt_of_cell? w _ hw302_2)).trans hw302_2), ((HB.out.cell (World.block_lt_of_cell? w _ hw302_3)).trans hw302_3), ((HB.out.cell (World.block_lt_of_cell? w _ hw302_4)).trans hw302_4)⟩ (fun hHeld => ?_); refine with_tabW cutroomref20_Frames.tab6 cutroomref20_Frames.bits6 (fun HT_ HW_ => ?_)
        generalize wr.drew = w9 at HB HR301_2 HR301_3 HR301_4 HR302_2 HR302_3 HR302_4 hx301_0 hx301_1 hx301_2 hx301_3 hx301_4 hx302_0 hx302_1 hx302_2 hx302_3 hx302_4 hHeld ⊢
        refine Abb.pS 0 17 #[T', F', F', F', F', F', F', F', F', F'] HT_ ?_
        refine Abb.pS 1 18 #[T', T', F', F', F', F', F', F', F', F'] HT_ ?_
        refine Abb.pS 2 19 #[T', T', T', F', F', F', F', F', F', F'] HT_ ?_
        refine Abb.pS 4 21 #[T', T', T', F', T', F', F', F', F', F'] HT_ ?_
        refine Abb.pS 5 22 #[T', T', T', F', T', T', F', F', F', F'] HT_ ?_
        refine Abb.pS 6 23 #[T', T', T', F', T', T', T', F', F', F'] HT_ ?_
        refine Abb.pT 3 20 #[T', T', T', T', T', T', T', F', F', F'] HT_ HW_ hHeld ?_
        refine Abb.pT 7 24 #[T', T', T', T', T', T', T', T', F', F'] HT_ HW_ hHeld ?_
        refine one_ (i := 8) (N := some 25) #[T', T', T', T', T', T', T', T', T', F'] rfl rfl (one_of HT_.out (by kernel_rfl)) (by decide) (fun K hK => ?_)
        refine goes_ Try.func45 (by kernel_rfl) rfl #[.agg #[.int .i64 ((rd_T52 l0 x5_1).f0), .int .i64 ((rd_T52 l0 x5_1).f1), .slice A301_2 ((rd_T52 l0 x5_1).f2).length c301_2, .slice A301_3 ((rd_T52 l0 x5_1).f3).length c301_3, .slice A301_4 ((rd_T52 l0 x5_1).f4).length c301_4], .agg #[.int .i64 ((rd_T52 l1 x5_1).f0), .int .i64 ((rd_T52 l1 x5_1).f1), .slice A302_2 ((rd_T52 l1 x5_1).f2).length c302_2, .slice A302_3 ((rd_T52 l1 x5_1).f3).length c302_3, .slice A302_4 ((rd_T52 l1 x5_1).f4).length c302_4]] (by rfl) rfl rfl (by (try simp only [List.map_toArray, List.map_cons, List.map_nil]); first | done | rfl | (simp only [List.length_drop, List.length_take]; rfl)) ?_
        with_reducible refine (cutroomref20_Same.calls ((rd_T52 l0 x5_1).f0) ((rd_T52 l0 x5_1).f1) _ _ ((rd_T52 l0 x5_1).f2) _ _ ((rd_T52 l0 x5_1).f3) _ _ ((rd_T52 l0 x5_1).f4) ((rd_T52 l1 x5_1).f0) ((rd_T52 l1 x5_1).f1) _ _ ((rd_T52 l1 x5_1).f2) _ _ ((rd_T52 l1 x5_1).f3) _ _ ((rd_T52 l1 x5_1).f4) true _ ?side1 ?side2 ?side3 ?side4 ?side5 ?side6 ?side7 ?side8 ?side9 ?side10 ?side11 ?side12 A7.out).mono ?_
        (case side1 => repeat (first | exact (Kd.C_below HR301_2.out HB.out) | (with_reducible refine Kd.C_alloc ?_ _) | (with_reducible refine Kd.C_drewN ?_ _) | (with_reducible refine Kd.C_drew ?_)))
        (case side2 => exact HC301_2.out)
        (case side3 => repeat (first | exact (Kd.C_below HR301_3.out HB.out) | (with_reducible refine Kd.C_alloc ?_ _) | (with_reducible refine Kd.C_drewN ?_ _) | (with_reducible refine Kd.C_drew ?_)))
        (case side4 => exact HC301_3.out)
        (case side5 => repeat (first | exact (Kd.C_below HR301_4.out HB.out) | (with_reducible refine Kd.C_alloc ?_ _) | (with_reducible refine Kd.C_drewN ?_ _) | (with_reducible refine Kd.C_drew ?_)))
        (case side6 => exact HC301_4.out)
        (case side7 => repeat (first | exact (Kd.C_below HR302_2.out HB.out) | (with_reducible refine Kd.C_alloc ?_ _) | (with_reducible refine Kd.C_drewN ?_ _) | (with_reducible refine Kd.C_drew ?_)))
        (case side8 => exact HC302_2.out)
        (case side9 => repeat (first | exact (Kd.C_below HR302_3.out HB.out) | (with_reducible refine Kd.C_alloc ?_ _) | (with_reducible refine Kd.C_drewN ?_ _) | (with_reducible refine Kd.C_drew ?_)))
        (case side10 => exact HC302_3.out)
        (case side11 => repeat (first | exact (Kd.C_below HR302_4.out HB.out) | (with_reducible refine Kd.C_alloc ?_ _) | (with_reducible refine Kd.C_drewN ?_ _) | (with_reducible refine Kd.C_drew ?_)))
        (case side12 => exact HC302_4.out)
        rintro e w10 ⟨rfl, hb⟩
        refine ⟨_, rfl, ?_⟩
        have n0_ := Aside0.mk (zT (by repeat (first | (with_reducible first | exact HB.out | apply zA | apply zN | apply zD) | exact HB.out)) hb)
        clear HB
        have HB := n0_
        clear n0_
        (try clear hb)
        (try clear hb2)
        (try clear hk)
        (try clear hi)
        refine hK.out _ _ ⟨((HB.out.cell (World.block_lt_of_cell? w _ hw301_0)).trans hw301_0), ((HB.out.cell (World.block_lt_of_cell? w _ hw301_1)).trans hw301_1), ((HB.out.cell (World.block_lt_of_cell? w _ hw301_2)).trans hw301_2), ((HB.out.cell (World.block_lt_of_cell? w _ hw301_3)).trans hw301_3), ((HB.out.cell (World.block_lt_of_cell? w _ hw301_4)).trans hw301_4), ((HB.out.cell (World.block_lt_of_cell? w _ hw302_0)).trans hw302_0), ((HB.out.cell (World.block_lt_of_cell? w _ hw302_1)).trans hw302_1), ((HB.out.cell (World.block_lt_of_cell? w _ hw302_2)).trans hw302_2), ((HB.out.cell (World.block_lt_of_cell? w _ hw302_3)).trans hw302_3), ((HB.out.cell (World.block_lt_of_cell? w _ hw302_4)).trans hw302_4)⟩ (fun hHeld => ?_)
        clear hK K
        refine norm_ (a' := ?_) ?_ ?_
        rotate_left
        ·show Act.put _ (some 25) _ = _
         simp only [Act.put, sA, sZ, sS, i64_w, i32_w]
         rfl
        refine Abb.pS 9 26 #[T', T', T', T', T', T', T', T', T', T'] HT_ ?_
        refine done_ (done_of HT_.out (by kernel_rfl)) ?_
        try go_wp2
        go_roundg k1
        case measure => have := HK1.out; omega
        case rel => exact ⟨(wrap64 (x5_1 + 1)), (by first | rfl | (simp; done) | (simp [*]; done)), H', ⟨by have := HK1.out; omega⟩, ⟨by repeat (first | (with_reducible first | exact HB.out | apply zA | apply zN | apply zD) | exact HB.out)⟩⟩
       ·replace c8 := Bool.eq_false_iff.mpr c8
        subst c8
        have H1 : (some false) = some r := by rw [if_neg (show ¬ (false = true) by decide)] at H; exact H
        clear H
        have H := H1
        clear H1
        obtain rfl := Option.some.inj H
        try go_wp2
        have n0_ := Aside0.mk (zD HB.out)
        clear HB
        have HB := n0_
        clear n0_
        have p301 : 0 ≤ (x5_1 : Int) := of_decide_eq_true (by first | (with_reducible assumption) | assumption)
        have q301 : x5_1 < (l0.length : Int) := of_decide_eq_true (by first | (with_reducible assumption) | assumption)
        obtain ⟨ad301, A301_2, c301_2, A301_3, c301_3, A301_4, c301_4, e301, hx301_0, hx301_1, hx301_2, hx301_3, hx301_4, hl301_2, hi301_2, hl301_3, hi301_3, hl301_4, hi301_4⟩ := at_T52 HR0.out x5_1 p301 q301
        have hw301_4 := hx301_4
        have hw301_3 := hx301_3
        have hw301_2 := hx301_2
        have hw301_1 := hx301_1
        have hw301_0 := hx301_0
        cases e301
        replace hx301_0 := (HB.out.cell (World.block_lt_of_cell? w _ hx301_0)).trans hx301_0
        replace hx301_1 := (HB.out.cell (World.block_lt_of_cell? w _ hx301_1)).trans hx301_1
        replace hx301_2 := (HB.out.cell (World.block_lt_of_cell? w _ hx301_2)).trans hx301_2
        replace hx301_3 := (HB.out.cell (World.block_lt_of_cell? w _ hx301_3)).trans hx301_3
        replace hx301_4 := (HB.out.cell (World.block_lt_of_cell? w _ hx301_4)).trans hx301_4
        have HR301_2 := Aside0.mk hi301_2
        have HC301_2 := Aside0.mk hl301_2
        clear hi301_2 hl301_2
        have HR301_3 := Aside0.mk hi301_3
        have HC301_3 := Aside0.mk hl301_3
        clear hi301_3 hl301_3
        have HR301_4 := Aside0.mk hi301_4
        have HC301_4 := Aside0.mk hl301_4
        clear hi301_4 hl301_4
        replace p301 := eq_true p301
        replace q301 := eq_true q301
        have p302 : 0 ≤ (x5_1 : Int) := of_decide_eq_true (by first | (with_reducible assumption) | assumption)
        have q302 : x5_1 < (l1.length : Int) := of_decide_eq_true (by first | (with_reducible assumption) | assumption)
        obtain ⟨ad302, A302_2, c302_2, A302_3, c302_3, A302_4, c302_4, e302, hx302_0, hx302_1, hx302_2, hx302_3, hx302_4, hl302_2, hi302_2, hl302_3, hi302_3, hl302_4, hi302_4⟩ := at_T52 HR1.out x5_1 p302 q302
        have hw302_4 := hx302_4
        have hw302_3 := hx302_3
        have hw302_2 := hx302_2
        have hw302_1 := hx302_1
        have hw302_0 := hx302_0
        cases e302
        replace hx302_0 := (HB.out.cell (World.block_lt_of_cell? w _ hx302_0)).trans hx302_0
        replace hx302_1 := (HB.out.cell (World.block_lt_of_cell? w _ hx302_1)).trans hx302_1
        replace hx302_2 := (HB.out.cell (World.block_lt_of_cell? w _ hx302_2)).trans hx302_2
        replace hx302_3 := (HB.out.cell (World.block_lt_of_cell? w _ hx302_3)).trans hx302_3
        replace hx302_4 := (HB.out.cell (World.block_lt_of_cell? w _ hx302_4)).trans hx302_4
        have HR302_2 := Aside0.mk hi302_2
        have HC302_2 := Aside0.mk hl302_2
        clear hi302_2 hl302_2
        have HR302_3 := Aside0.mk hi302_3
        have HC302_3 := Aside0.mk hl302_3
        clear hi302_3 hl302_3
        have HR302_4 := Aside0.mk hi302_4
        have HC302_4 := Aside0.mk hl302_4
        clear hi302_4 hl302_4
        replace p302 := eq_true p302
        replace q302 := eq_true q302
        refine start_ (n := 10) (S := fun w' => w'.cell? (ad301.add ((x5_1).toNat * 5)) = some (.int .i64 ((rd_T52 l0 x5_1).f0)) ∧ w'.cell? ⟨(ad301.add ((x5_1).toNat * 5)).block, (ad301.add ((x5_1).toNat * 5)).off + 1, none⟩ = some (.int .i64 ((rd_T52 l0 x5_1).f1)) ∧ w'.cell? ⟨(ad301.add ((x5_1).toNat * 5)).block, (ad301.add ((x5_1).toNat * 5)).off + 2, none⟩ = some (.slice A301_2 ((rd_T52 l0 x5_1).f2).length c301_2) ∧ w'.cell? ⟨(ad301.add ((x5_1).toNat * 5)).block, (ad301.add ((x5_1).toNat * 5)).off + 3, none⟩ = some (.slice A301_3 ((rd_T52 l0 x5_1).f3).length c301_3) ∧ w'.cell? ⟨(ad301.add ((x5_1).toNat * 5)).block, (ad301.add ((x5_1).toNat * 5)).off + 4, none⟩ = some (.slice A301_4 ((rd_T52 l0 x5_1).f4).length c301_4) ∧ w'.cell? (ad302.add ((x5_1).toNat * 5)) = some (.int .i64 ((rd_T52 l1 x5_1).f0)) ∧ w'.cell? ⟨(ad302.add ((x5_1).toNat * 5)).block, (ad302.add ((x5_1).toNat * 5)).off + 1, none⟩ = some (.int .i64 ((rd_T52 l1 x5_1).f1)) ∧ w'.cell? ⟨(ad302.add ((x5_1).toNat * 5)).block, (ad302.add ((x5_1).toNat * 5)).off + 2, none⟩ = some (.slice A302_2 ((rd_T52 l1 x5_1).f2).length c302_2) ∧ w'.cell? ⟨(ad302.add ((x5_1).toNat * 5)).block, (ad302.add ((x5_1).toNat * 5)).off + 3, none⟩ = some (.slice A302_3 ((rd_T52 l1 x5_1).f3).length c302_3) ∧ w'.cell? ⟨(ad302.add ((x5_1).toNat * 5)).block, (ad302.add ((x5_1).toNat * 5)).off + 4, none⟩ = some (.slice A302_4 ((rd_T52 l1 x5_1).f4).length c302_4)) (ds := []) #[false, false, false, false, false, false, false, false, false, false] (by kernel_rfl) rfl rfl ⟨((HB.out.cell (World.block_lt_of_cell? w _ hw301_0)).trans hw301_0), ((HB.out.cell (World.block_lt_of_cell? w _ hw301_1)).trans hw301_1), ((HB.out.cell (World.block_lt_of_cell? w _ hw301_2)).trans hw301_2), ((HB.out.cell (World.block_lt_of_cell? w _ hw301_3)).trans hw301_3), ((HB.out.cell (World.block_lt_of_cell? w _ hw301_4)).trans hw301_4), ((HB.out.cell (World.block_lt_of_cell? w _ hw302_0)).trans hw302_0), ((HB.out.cell (World.block_lt_of_cell? w _ hw302_1)).trans hw302_1), ((HB.out.cell (World.block_lt_of_cell? w _ hw302_2)).trans hw302_2), ((HB.out.cell (World.block_lt_of_cell? w _ hw302_3)).trans hw302_3), ((HB.out.cell (World.block_lt_of_cell? w _ hw302_4)).trans hw302_4)⟩ (fun hHeld => ?_); refine with_tabW cutroomref20_Frames.tab6 cutroomref20_Frames.bits6 (fun HT_ HW_ => ?_)
        generalize wr.drew = w11 at HB HR301_2 HR301_3 HR301_4 HR302_2 HR302_3 HR302_4 hx301_0 hx301_1 hx301_2 hx301_3 hx301_4 hx302_0 hx302_1 hx302_2 hx302_3 hx302_4 hHeld ⊢
        refine Abb.pS 0 17 #[T', F', F', F', F', F', F', F', F', F'] HT_ ?_
        refine Abb.pS 1 18 #[T', T', F', F', F', F', F', F', F', F'] HT_ ?_
        refine Abb.pS 2 19 #[T', T', T', F', F', F', F', F', F', F'] HT_ ?_
        refine Abb.pS 4 21 #[T', T', T', F', T', F', F', F', F', F'] HT_ ?_
        refine Abb.pS 5 22 #[T', T', T', F', T', T', F', F', F', F'] HT_ ?_
        refine Abb.pS 6 23 #[T', T', T', F', T', T', T', F', F', F'] HT_ ?_
        refine Abb.pT 3 20 #[T', T', T', T', T', T', T', F', F', F'] HT_ HW_ hHeld ?_
        refine Abb.pT 7 24 #[T', T', T', T', T', T', T', T', F', F'] HT_ HW_ hHeld ?_
        refine one_ (i := 8) (N := some 25) #[T', T', T', T', T', T', T', T', T', F'] rfl rfl (one_of HT_.out (by kernel_rfl)) (by decide) (fun K hK => ?_)
        refine goes_ Try.func45 (by kernel_rfl) rfl #[.agg #[.int .i64 ((rd_T52 l0 x5_1).f0), .int .i64 ((rd_T52 l0 x5_1).f1), .slice A301_2 ((rd_T52 l0 x5_1).f2).length c301_2, .slice A301_3 ((rd_T52 l0 x5_1).f3).length c301_3, .slice A301_4 ((rd_T52 l0 x5_1).f4).length c301_4], .agg #[.int .i64 ((rd_T52 l1 x5_1).f0), .int .i64 ((rd_T52 l1 x5_1).f1), .slice A302_2 ((rd_T52 l1 x5_1).f2).length c302_2, .slice A302_3 ((rd_T52 l1 x5_1).f3).length c302_3, .slice A302_4 ((rd_T52 l1 x5_1).f4).length c302_4]] (by rfl) rfl rfl (by (try simp only [List.map_toArray, List.map_cons, List.map_nil]); first | done | rfl | (simp only [List.length_drop, List.length_take]; rfl)) ?_
        with_reducible refine (cutroomref20_Same.calls ((rd_T52 l0 x5_1).f0) ((rd_T52 l0 x5_1).f1) _ _ ((rd_T52 l0 x5_1).f2) _ _ ((rd_T52 l0 x5_1).f3) _ _ ((rd_T52 l0 x5_1).f4) ((rd_T52 l1 x5_1).f0) ((rd_T52 l1 x5_1).f1) _ _ ((rd_T52 l1 x5_1).f2) _ _ ((rd_T52 l1 x5_1).f3) _ _ ((rd_T52 l1 x5_1).f4) false _ ?side1 ?side2 ?side3 ?side4 ?side5 ?side6 ?side7 ?side8 ?side9 ?side10 ?side11 ?side12 A7.out).mono ?_
        (case side1 => repeat (first | exact (Kd.C_below HR301_2.out HB.out) | (with_reducible refine Kd.C_alloc ?_ _) | (with_reducible refine Kd.C_drewN ?_ _) | (with_reducible refine Kd.C_drew ?_)))
        (case side2 => exact HC301_2.out)
        (case side3 => repeat (first | exact (Kd.C_below HR301_3.out HB.out) | (with_reducible refine Kd.C_alloc ?_ _) | (with_reducible refine Kd.C_drewN ?_ _) | (with_reducible refine Kd.C_drew ?_)))
        (case side4 => exact HC301_3.out)
        (case side5 => repeat (first | exact (Kd.C_below HR301_4.out HB.out) | (with_reducible refine Kd.C_alloc ?_ _) | (with_reducible refine Kd.C_drewN ?_ _) | (with_reducible refine Kd.C_drew ?_)))
        (case side6 => exact HC301_4.out)
        (case side7 => repeat (first | exact (Kd.C_below HR302_2.out HB.out) | (with_reducible refine Kd.C_alloc ?_ _) | (with_reducible refine Kd.C_drewN ?_ _) | (with_reducible refine Kd.C_drew ?_)))
        (case side8 => exact HC302_2.out)
        (case side9 => repeat (first | exact (Kd.C_below HR302_3.out HB.out) | (with_reducible refine Kd.C_alloc ?_ _) | (with_reducible refine Kd.C_drewN ?_ _) | (with_reducible refine Kd.C_drew ?_)))
        (case side10 => exact HC302_3.out)
        (case side11 => repeat (first | exact (Kd.C_below HR302_4.out HB.out) | (with_reducible refine Kd.C_alloc ?_ _) | (with_reducible refine Kd.C_drewN ?_ _) | (with_reducible refine Kd.C_drew ?_)))
        (case side12 => exact HC302_4.out)
        rintro e w12 ⟨rfl, hb⟩
        refine ⟨_, rfl, ?_⟩
        have n0_ := Aside0.mk (zT (by repeat (first | (with_reducible first | exact HB.out | apply zA | apply zN | apply zD) | exact HB.out)) hb)
        clear HB
        have HB := n0_
        clear n0_
        (try clear hb)
        (try clear hb2)
        (try clear hk)
        (try clear hi)
        refine hK.out _ _ ⟨((HB.out.cell (World.block_lt_of_cell? w _ hw301_0)).trans hw301_0), ((HB.out.cell (World.block_lt_of_cell? w _ hw301_1)).trans hw301_1), ((HB.out.cell (World.block_lt_of_cell? w _ hw301_2)).trans hw301_2), ((HB.out.cell (World.block_lt_of_cell? w _ hw301_3)).trans hw301_3), ((HB.out.cell (World.block_lt_of_cell? w _ hw301_4)).trans hw301_4), ((HB.out.cell (World.block_lt_of_cell? w _ hw302_0)).trans hw302_0), ((HB.out.cell (World.block_lt_of_cell? w _ hw302_1)).trans hw302_1), ((HB.out.cell (World.block_lt_of_cell? w _ hw302_2)).trans hw302_2), ((HB.out.cell (World.block_lt_of_cell? w _ hw302_3)).trans hw302_3), ((HB.out.cell (World.block_lt_of_cell? w _ hw302_4)).trans hw302_4)⟩ (fun hHeld => ?_)
        clear hK K
        refine norm_ (a' := ?_) ?_ ?_
        rotate_left
        ·show Act.put _ (some 25) _ = _
         simp only [Act.put, sA, sZ, sS, i64_w, i32_w]
         rfl
        refine Abb.pS 9 26 #[T', T', T', T', T', T', T', T', T', T'] HT_ ?_
        refine done_ (done_of HT_.out (by kernel_rfl)) ?_
        try go_wp2
        go_ret
        exact ⟨by first | rfl | (simp [errW_none, errW_some] <;> rfl) | (simp [*, errW_none, errW_some] <;> rfl), by repeat (first | (with_reducible first | exact HB.out | apply zA | apply zN | apply zD) | exact HB.out)⟩
      ·rw [if_neg c6] at H
       exact absurd H (by simp)
     ·rw [if_neg c5] at H
      exact absurd H (by simp)
    ·rw [if_neg c4] at H
     have c4b0 : decide (x5_1 < (l0.length : Int)) = false := decide_eq_false c4
     clear c4
     obtain rfl := Option.some.inj H
     go_wp2
     go_ret
     exact ⟨by first | rfl | (simp [errW_none, errW_some] <;> rfl) | (simp [*, errW_none, errW_some] <;> rfl), by repeat (first | (with_reducible first | exact HB.out | apply zA | apply zN | apply zD) | exact HB.out)⟩
 ·rw [if_neg c3] at H
  have c3b0 : ((l0.length : Int) == (l1.length : Int)) = false := beq_eq_false_iff_ne.mpr c3
  have c3b1 : ((l0.length : Int) != (l1.length : Int)) = true := bne_iff_ne.mpr c3
  have c3b2 : (l0.length == l1.length) = false := by first | simpa using c3 | (simp at c3 ⊢; omega)
  obtain rfl := Option.some.inj H
  go_enter Try.func42, Try.ntmps42
  go_wp2
  go_ret
  exact ⟨by first | rfl | (simp [errW_none, errW_some] <;> rfl) | (simp [*, errW_none, errW_some] <;> rfl), by repeat (first | (with_reducible first | exact HB.out | apply zA | apply zN | apply zD) | exact HB.out)⟩

end Go.Proofs.Ytcofjbbflcnaaaa.P
