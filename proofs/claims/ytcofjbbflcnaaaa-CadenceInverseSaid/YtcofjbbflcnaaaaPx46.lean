-- Written by this session's own program (wip/tools/myprint.py), which runs the kit's print with turns of its own: not a text of the kit's print.sh.
import Derived.Test.YtcofjbbflcnaaaaPx0
namespace Go.Proofs.Ytcofjbbflcnaaaa.P
open Go.RowKit Go.Proofs.YtcofjbbflcnaaaaW.PrintWords Go.Proofs.YtcofjbbflcnaaaaW.PrintLast Go.Proofs.YtcofjbbflcnaaaaW.PrintMore
open List renaming setIfInBounds_toArray → sA, set_cons_zero → sZ, set_cons_succ → sS
open Bool renaming true → T', false → F'
open Go.Proofs.YtcofjbbflcnaaaaW.PrintWords renaming below_alloc → zA, pw_below_drewN → zN, below_drew1 → zD, blk_drewN → yN, blk_drew → yD, blk_alloc → yA, below_size → zS, below_step → zT, blk_below → yB, below_set → zP, cell_far → xF, add_block → xB, gate_callee → xC, gate_dst → xD
attribute [local go_sem] max2_int min2_int max_two min_two max_three min_three max_four min_four   -- for this text's walks alone
set_option linter.unusedVariables false
set_option linter.unusedSimpArgs false

/-! ### cutroomref20_Same: function 45 -/
def cutroomref20_Same.f (a0_0 : Int) (a0_1 : Int) (l0_2 : List Int) (l0_3 : List Int) (l0_4 : List Int) (a1_0 : Int) (a1_1 : Int) (l1_2 : List Int) (l1_3 : List Int) (l1_4 : List Int) : Option (Bool) := if a0_0 = a1_0 then (if a0_1 = a1_1 then (if (strOfNums l0_2).toList = (strOfNums l1_2).toList then (if (strOfNums l0_3).toList = (strOfNums l1_3).toList then (some ((strOfNums l0_4).toList == (strOfNums l1_4).toList)) else (some false)) else (some false)) else (some false)) else (some false)
set_option maxHeartbeats 8000000 in
set_option maxRecDepth 100000 in
theorem cutroomref20_Same.calls (a0_0 : Int) (a0_1 : Int) (A0_2 : Option Addr) (c0_2 : Nat) (l0_2 : List Int) (A0_3 : Option Addr) (c0_3 : Nat) (l0_3 : List Int) (A0_4 : Option Addr) (c0_4 : Nat) (l0_4 : List Int) (a1_0 : Int) (a1_1 : Int) (A1_2 : Option Addr) (c1_2 : Nat) (l1_2 : List Int) (A1_3 : Option Addr) (c1_3 : Nat) (l1_3 : List Int) (A1_4 : Option Addr) (c1_4 : Nat) (l1_4 : List Int) (r : Bool) (w : World) (hr0_2 : Kd.C (Kd.int .u8) w A0_2 l0_2.length l0_2) (hc0_2 : l0_2.length ≤ c0_2) (hr0_3 : Kd.C (Kd.int .u8) w A0_3 l0_3.length l0_3) (hc0_3 : l0_3.length ≤ c0_3) (hr0_4 : Kd.C (Kd.int .u8) w A0_4 l0_4.length l0_4) (hc0_4 : l0_4.length ≤ c0_4) (hr1_2 : Kd.C (Kd.int .u8) w A1_2 l1_2.length l1_2) (hc1_2 : l1_2.length ≤ c1_2) (hr1_3 : Kd.C (Kd.int .u8) w A1_3 l1_3.length l1_3) (hc1_3 : l1_3.length ≤ c1_3) (hr1_4 : Kd.C (Kd.int .u8) w A1_4 l1_4.length l1_4) (hc1_4 : l1_4.length ≤ c1_4) (h : cutroomref20_Same.f a0_0 a0_1 l0_2 l0_3 l0_4 a1_0 a1_1 l1_2 l1_3 l1_4 = some r) :
  Calls Try.prog 45 #[.agg #[.int .i64 a0_0, .int .i64 a0_1, .slice A0_2 l0_2.length c0_2, .slice A0_3 l0_3.length c0_3, .slice A0_4 l0_4.length c0_4], .agg #[.int .i64 a1_0, .int .i64 a1_1, .slice A1_2 l1_2.length c1_2, .slice A1_3 l1_3.length c1_3, .slice A1_4 l1_4.length c1_4]] w fun e w' => e = .returned (.bool r) ∧ Below w.heap.size w w' := by
 have hu52 := Try.underlying52
 have HR0_2 := Aside0.mk hr0_2
 have HC0_2 := Aside0.mk hc0_2
 clear hr0_2 hc0_2
 have HR0_3 := Aside0.mk hr0_3
 have HC0_3 := Aside0.mk hc0_3
 clear hr0_3 hc0_3
 have HR0_4 := Aside0.mk hr0_4
 have HC0_4 := Aside0.mk hc0_4
 clear hr0_4 hc0_4
 have HR1_2 := Aside0.mk hr1_2
 have HC1_2 := Aside0.mk hc1_2
 clear hr1_2 hc1_2
 have HR1_3 := Aside0.mk hr1_3
 have HC1_3 := Aside0.mk hc1_3
 clear hr1_3 hc1_3
 have HR1_4 := Aside0.mk hr1_4
 have HC1_4 := Aside0.mk hc1_4
 clear hr1_4 hc1_4
 have HB := Aside0.mk (Below.refl w.heap.size w)
 have H : (if a0_0 = a1_0 then (if a0_1 = a1_1 then (if (strOfNums l0_2).toList = (strOfNums l1_2).toList then (if (strOfNums l0_3).toList = (strOfNums l1_3).toList then (some ((strOfNums l0_4).toList == (strOfNums l1_4).toList)) else (some false)) else (some false)) else (some false)) else (some false)) = some r := h
 clear h
 by_cases c3 : a0_0 = a1_0
 ·rw [if_pos c3] at H
  have c3b0 : (a0_0 == a1_0) = true := beq_iff_eq.mpr c3
  have c3b1 : (a0_0 != a1_0) = false := bne_eq_false_iff_eq.mpr c3
  clear c3
  by_cases c4 : a0_1 = a1_1
  ·rw [if_pos c4] at H
   have c4b0 : (a0_1 == a1_1) = true := beq_iff_eq.mpr c4
   have c4b1 : (a0_1 != a1_1) = false := bne_eq_false_iff_eq.mpr c4
   clear c4
   by_cases c5 : (strOfNums l0_2).toList = (strOfNums l1_2).toList
   ·rw [if_pos c5] at H
    have c5b0 : ((strOfNums l0_2).toList == (strOfNums l1_2).toList) = true := beq_iff_eq.mpr c5
    have c5b1 : ((strOfNums l0_2).toList != (strOfNums l1_2).toList) = false := bne_eq_false_iff_eq.mpr c5
    clear c5
    by_cases c6 : (strOfNums l0_3).toList = (strOfNums l1_3).toList
    ·rw [if_pos c6] at H
     have c6b0 : ((strOfNums l0_3).toList == (strOfNums l1_3).toList) = true := beq_iff_eq.mpr c6
     have c6b1 : ((strOfNums l0_3).toList != (strOfNums l1_3).toList) = false := bne_eq_false_iff_eq.mpr c6
     clear c6
     obtain rfl := Option.some.inj H
     go_enter Try.func45, Try.ntmps45
     go_wp2_with (first | ((with_reducible refine xD (N := 2) rfl ?_); refine box_event ?hg (N := 2) ?hd (cs := #[.int .i64 a0_0, .int .i64 a0_1, .slice A0_2 l0_2.length c0_2, .slice A0_3 l0_3.length c0_3, .slice A0_4 l0_4.length c0_4]) (t := 52) ?hr ?_; (case hd => rfl); (case hg => rfl); (case hr => first | (go_simp; done) | (go_simp; rfl)); intro gb411 hg w7 hbox hb; have n0_ := Aside0.mk (zT (by repeat (first | (with_reducible first | exact HB.out | apply zA | apply zN | apply zD) | exact HB.out)) hb); have n1_ := Aside0.mk (hbox); have n2_ := Aside0.mk ((by rw [hg]; exact (zS (by repeat (first | (with_reducible first | exact HB.out | apply zA | apply zN | apply zD) | exact HB.out))) : w.heap.size ≤ gb411)); have n3_ := n2_; clear HB; have HB := n0_; have BK411 := n1_; have GW411 := n2_; have GE411 := n3_; clear n0_ n1_ n2_ n3_; clear hb hbox hg) | ((with_reducible refine xD (N := 3) rfl ?_); refine box_event ?hg (N := 3) ?hd (cs := #[.int .i64 a1_0, .int .i64 a1_1, .slice A1_2 l1_2.length c1_2, .slice A1_3 l1_3.length c1_3, .slice A1_4 l1_4.length c1_4]) (t := 52) ?hr ?_; (case hd => rfl); (case hg => rfl); (case hr => first | (go_simp; done) | (go_simp; rfl)); intro gb412 hg w8 hbox hb; have n0_ := Aside0.mk (yB (g := gb411) (o := .cells #[.int .i64 a0_0, .int .i64 a0_1, .slice A0_2 l0_2.length c0_2, .slice A0_3 l0_3.length c0_3, .slice A0_4 l0_4.length c0_4] 52 (0, 0)) (by (with_reducible repeat (first | refine yN ?_ _ | refine yD ?_ | refine yA ?_ _)); exact BK411.out) hb); have n1_ := Aside0.mk (zT (by repeat (first | (with_reducible first | exact HB.out | apply zA | apply zN | apply zD | refine zP ?_ GE411.out) | exact HB.out)) hb); have n2_ := Aside0.mk (hbox); have n3_ := Aside0.mk ((by rw [hg]; exact (zS (by repeat (first | (with_reducible first | exact HB.out | apply zA | apply zN | apply zD | refine zP ?_ GE411.out) | exact HB.out))) : w.heap.size ≤ gb412)); have n4_ := n3_; have n5_ := Aside0.mk ((by rw [hg]; exact Nat.ne_of_lt (blk_lt (g := gb411) (o := .cells #[.int .i64 a0_0, .int .i64 a0_1, .slice A0_2 l0_2.length c0_2, .slice A0_3 l0_3.length c0_3, .slice A0_4 l0_4.length c0_4] 52 (0, 0)) (by (with_reducible repeat (first | refine yN ?_ _ | refine yD ?_ | refine yA ?_ _)); exact BK411.out)) : gb411 ≠ gb412)); have n6_ := Aside0.mk ((by rw [hg]; exact Nat.ne_of_gt (blk_lt (g := gb411) (o := .cells #[.int .i64 a0_0, .int .i64 a0_1, .slice A0_2 l0_2.length c0_2, .slice A0_3 l0_3.length c0_3, .slice A0_4 l0_4.length c0_4] 52 (0, 0)) (by (with_reducible repeat (first | refine yN ?_ _ | refine yD ?_ | refine yA ?_ _)); exact BK411.out)) : gb412 ≠ gb411)); clear BK411; clear HB; have BK411 := n0_; have HB := n1_; have BK412 := n2_; have GW412 := n3_; have GE412 := n4_; have NB411_412 := n5_; have NB412_411 := n6_; clear n0_ n1_ n2_ n3_ n4_ n5_ n6_; clear hb hbox hg; have hnb9 := NB411_412.out; have hnc9 := NB412_411.out; have hcz10_0 : w8.cell? ⟨gb411, 0, none⟩ = some (.int .i64 a0_0) := (blk_cell BK411.out 0).trans rfl; have hcz10_1 : w8.cell? ⟨gb411, 1, none⟩ = some (.int .i64 a0_1) := (blk_cell BK411.out 1).trans rfl; have hcz10_2 : w8.cell? ⟨gb411, 2, none⟩ = some (.slice A0_2 l0_2.length c0_2) := (blk_cell BK411.out 2).trans rfl; have hcz10_3 : w8.cell? ⟨gb411, 3, none⟩ = some (.slice A0_3 l0_3.length c0_3) := (blk_cell BK411.out 3).trans rfl; have hcz10_4 : w8.cell? ⟨gb411, 4, none⟩ = some (.slice A0_4 l0_4.length c0_4) := (blk_cell BK411.out 4).trans rfl; have hfz10_0 := blk_frozen BK411.out 0; have hfz10_1 := blk_frozen BK411.out 1; have hfz10_2 := blk_frozen BK411.out 2; have hfz10_3 := blk_frozen BK411.out 3; have hfz10_4 := blk_frozen BK411.out 4; have hcz11_0 : w8.cell? ⟨gb412, 0, none⟩ = some (.int .i64 a1_0) := (blk_cell BK412.out 0).trans rfl; have hcz11_1 : w8.cell? ⟨gb412, 1, none⟩ = some (.int .i64 a1_1) := (blk_cell BK412.out 1).trans rfl; have hcz11_2 : w8.cell? ⟨gb412, 2, none⟩ = some (.slice A1_2 l1_2.length c1_2) := (blk_cell BK412.out 2).trans rfl; have hcz11_3 : w8.cell? ⟨gb412, 3, none⟩ = some (.slice A1_3 l1_3.length c1_3) := (blk_cell BK412.out 3).trans rfl; have hcz11_4 : w8.cell? ⟨gb412, 4, none⟩ = some (.slice A1_4 l1_4.length c1_4) := (blk_cell BK412.out 4).trans rfl; have hfz11_0 := blk_frozen BK412.out 0; have hfz11_1 := blk_frozen BK412.out 1; have hfz11_2 := blk_frozen BK412.out 2; have hfz11_3 := blk_frozen BK412.out 3; have hfz11_4 := blk_frozen BK412.out 4; have hcv12 := Kd.C_string (P := Try.prog) (A := A0_2) (c := c0_2) Try.underlying50 Try.underlying5 Try.underlying9 (Kd.C_below HR0_2.out HB.out); have hcv13 := Kd.C_string (P := Try.prog) (A := A1_2) (c := c1_2) Try.underlying50 Try.underlying5 Try.underlying9 (Kd.C_below HR1_2.out HB.out); have hcv14 := Kd.C_string (P := Try.prog) (A := A0_3) (c := c0_3) Try.underlying50 Try.underlying5 Try.underlying9 (Kd.C_below HR0_3.out HB.out); have hcv15 := Kd.C_string (P := Try.prog) (A := A1_3) (c := c1_3) Try.underlying50 Try.underlying5 Try.underlying9 (Kd.C_below HR1_3.out HB.out); have hcv16 := Kd.C_string (P := Try.prog) (A := A0_4) (c := c0_4) Try.underlying50 Try.underlying5 Try.underlying9 (Kd.C_below HR0_4.out HB.out); have hcv17 := Kd.C_string (P := Try.prog) (A := A1_4) (c := c1_4) Try.underlying50 Try.underlying5 Try.underlying9 (Kd.C_below HR1_4.out HB.out)))
     go_ret
     exact ⟨by first | rfl | (simp [errW_none, errW_some] <;> rfl) | (simp [*, errW_none, errW_some] <;> rfl), by repeat (first | (with_reducible first | exact HB.out | apply zA | apply zN | apply zD | refine zP ?_ GE411.out | refine zP ?_ GE412.out) | exact HB.out)⟩
    ·rw [if_neg c6] at H
     have c6b0 : ((strOfNums l0_3).toList == (strOfNums l1_3).toList) = false := beq_eq_false_iff_ne.mpr c6
     have c6b1 : ((strOfNums l0_3).toList != (strOfNums l1_3).toList) = true := bne_iff_ne.mpr c6
     obtain rfl := Option.some.inj H
     go_enter Try.func45, Try.ntmps45
     go_wp2_with (first | ((with_reducible refine xD (N := 2) rfl ?_); refine box_event ?hg (N := 2) ?hd (cs := #[.int .i64 a0_0, .int .i64 a0_1, .slice A0_2 l0_2.length c0_2, .slice A0_3 l0_3.length c0_3, .slice A0_4 l0_4.length c0_4]) (t := 52) ?hr ?_; (case hd => rfl); (case hg => rfl); (case hr => first | (go_simp; done) | (go_simp; rfl)); intro gb411 hg w18 hbox hb; have n0_ := Aside0.mk (zT (by repeat (first | (with_reducible first | exact HB.out | apply zA | apply zN | apply zD) | exact HB.out)) hb); have n1_ := Aside0.mk (hbox); have n2_ := Aside0.mk ((by rw [hg]; exact (zS (by repeat (first | (with_reducible first | exact HB.out | apply zA | apply zN | apply zD) | exact HB.out))) : w.heap.size ≤ gb411)); have n3_ := n2_; clear HB; have HB := n0_; have BK411 := n1_; have GW411 := n2_; have GE411 := n3_; clear n0_ n1_ n2_ n3_; clear hb hbox hg) | ((with_reducible refine xD (N := 3) rfl ?_); refine box_event ?hg (N := 3) ?hd (cs := #[.int .i64 a1_0, .int .i64 a1_1, .slice A1_2 l1_2.length c1_2, .slice A1_3 l1_3.length c1_3, .slice A1_4 l1_4.length c1_4]) (t := 52) ?hr ?_; (case hd => rfl); (case hg => rfl); (case hr => first | (go_simp; done) | (go_simp; rfl)); intro gb412 hg w19 hbox hb; have n0_ := Aside0.mk (yB (g := gb411) (o := .cells #[.int .i64 a0_0, .int .i64 a0_1, .slice A0_2 l0_2.length c0_2, .slice A0_3 l0_3.length c0_3, .slice A0_4 l0_4.length c0_4] 52 (0, 0)) (by (with_reducible repeat (first | refine yN ?_ _ | refine yD ?_ | refine yA ?_ _)); exact BK411.out) hb); have n1_ := Aside0.mk (zT (by repeat (first | (with_reducible first | exact HB.out | apply zA | apply zN | apply zD | refine zP ?_ GE411.out) | exact HB.out)) hb); have n2_ := Aside0.mk (hbox); have n3_ := Aside0.mk ((by rw [hg]; exact (zS (by repeat (first | (with_reducible first | exact HB.out | apply zA | apply zN | apply zD | refine zP ?_ GE411.out) | exact HB.out))) : w.heap.size ≤ gb412)); have n4_ := n3_; have n5_ := Aside0.mk ((by rw [hg]; exact Nat.ne_of_lt (blk_lt (g := gb411) (o := .cells #[.int .i64 a0_0, .int .i64 a0_1, .slice A0_2 l0_2.length c0_2, .slice A0_3 l0_3.length c0_3, .slice A0_4 l0_4.length c0_4] 52 (0, 0)) (by (with_reducible repeat (first | refine yN ?_ _ | refine yD ?_ | refine yA ?_ _)); exact BK411.out)) : gb411 ≠ gb412)); have n6_ := Aside0.mk ((by rw [hg]; exact Nat.ne_of_gt (blk_lt (g := gb411) (o := .cells #[.int .i64 a0_0, .int .i64 a0_1, .slice A0_2 l0_2.length c0_2, .slice A0_3 l0_3.length c0_3, .slice A0_4 l0_4.length c0_4] 52 (0, 0)) (by (with_reducible repeat (first | refine yN ?_ _ | refine yD ?_ | refine yA ?_ _)); exact BK411.out)) : gb412 ≠ gb411)); clear BK411; clear HB; have BK411 := n0_; have HB := n1_; have BK412 := n2_; have GW412 := n3_; have GE412 := n4_; have NB411_412 := n5_; have NB412_411 := n6_; clear n0_ n1_ n2_ n3_ n4_ n5_ n6_; clear hb hbox hg; have hnb20 := NB411_412.out; have hnc20 := NB412_411.out; have hcz21_0 : w19.cell? ⟨gb411, 0, none⟩ = some (.int .i64 a0_0) := (blk_cell BK411.out 0).trans rfl; have hcz21_1 : w19.cell? ⟨gb411, 1, none⟩ = some (.int .i64 a0_1) := (blk_cell BK411.out 1).trans rfl; have hcz21_2 : w19.cell? ⟨gb411, 2, none⟩ = some (.slice A0_2 l0_2.length c0_2) := (blk_cell BK411.out 2).trans rfl; have hcz21_3 : w19.cell? ⟨gb411, 3, none⟩ = some (.slice A0_3 l0_3.length c0_3) := (blk_cell BK411.out 3).trans rfl; have hcz21_4 : w19.cell? ⟨gb411, 4, none⟩ = some (.slice A0_4 l0_4.length c0_4) := (blk_cell BK411.out 4).trans rfl; have hfz21_0 := blk_frozen BK411.out 0; have hfz21_1 := blk_frozen BK411.out 1; have hfz21_2 := blk_frozen BK411.out 2; have hfz21_3 := blk_frozen BK411.out 3; have hfz21_4 := blk_frozen BK411.out 4; have hcz22_0 : w19.cell? ⟨gb412, 0, none⟩ = some (.int .i64 a1_0) := (blk_cell BK412.out 0).trans rfl; have hcz22_1 : w19.cell? ⟨gb412, 1, none⟩ = some (.int .i64 a1_1) := (blk_cell BK412.out 1).trans rfl; have hcz22_2 : w19.cell? ⟨gb412, 2, none⟩ = some (.slice A1_2 l1_2.length c1_2) := (blk_cell BK412.out 2).trans rfl; have hcz22_3 : w19.cell? ⟨gb412, 3, none⟩ = some (.slice A1_3 l1_3.length c1_3) := (blk_cell BK412.out 3).trans rfl; have hcz22_4 : w19.cell? ⟨gb412, 4, none⟩ = some (.slice A1_4 l1_4.length c1_4) := (blk_cell BK412.out 4).trans rfl; have hfz22_0 := blk_frozen BK412.out 0; have hfz22_1 := blk_frozen BK412.out 1; have hfz22_2 := blk_frozen BK412.out 2; have hfz22_3 := blk_frozen BK412.out 3; have hfz22_4 := blk_frozen BK412.out 4; have hcv23 := Kd.C_string (P := Try.prog) (A := A0_2) (c := c0_2) Try.underlying50 Try.underlying5 Try.underlying9 (Kd.C_below HR0_2.out HB.out); have hcv24 := Kd.C_string (P := Try.prog) (A := A1_2) (c := c1_2) Try.underlying50 Try.underlying5 Try.underlying9 (Kd.C_below HR1_2.out HB.out); have hcv25 := Kd.C_string (P := Try.prog) (A := A0_3) (c := c0_3) Try.underlying50 Try.underlying5 Try.underlying9 (Kd.C_below HR0_3.out HB.out); have hcv26 := Kd.C_string (P := Try.prog) (A := A1_3) (c := c1_3) Try.underlying50 Try.underlying5 Try.underlying9 (Kd.C_below HR1_3.out HB.out)))
     go_ret
     exact ⟨by first | rfl | (simp [errW_none, errW_some] <;> rfl) | (simp [*, errW_none, errW_some] <;> rfl), by repeat (first | (with_reducible first | exact HB.out | apply zA | apply zN | apply zD | refine zP ?_ GE411.out | refine zP ?_ GE412.out) | exact HB.out)⟩
   ·rw [if_neg c5] at H
    have c5b0 : ((strOfNums l0_2).toList == (strOfNums l1_2).toList) = false := beq_eq_false_iff_ne.mpr c5
    have c5b1 : ((strOfNums l0_2).toList != (strOfNums l1_2).toList) = true := bne_iff_ne.mpr c5
    obtain rfl := Option.some.inj H
    go_enter Try.func45, Try.ntmps45
    go_wp2_with (first | ((with_reducible refine xD (N := 2) rfl ?_); refine box_event ?hg (N := 2) ?hd (cs := #[.int .i64 a0_0, .int .i64 a0_1, .slice A0_2 l0_2.length c0_2, .slice A0_3 l0_3.length c0_3, .slice A0_4 l0_4.length c0_4]) (t := 52) ?hr ?_; (case hd => rfl); (case hg => rfl); (case hr => first | (go_simp; done) | (go_simp; rfl)); intro gb411 hg w27 hbox hb; have n0_ := Aside0.mk (zT (by repeat (first | (with_reducible first | exact HB.out | apply zA | apply zN | apply zD) | exact HB.out)) hb); have n1_ := Aside0.mk (hbox); have n2_ := Aside0.mk ((by rw [hg]; exact (zS (by repeat (first | (with_reducible first | exact HB.out | apply zA | apply zN | apply zD) | exact HB.out))) : w.heap.size ≤ gb411)); have n3_ := n2_; clear HB; have HB := n0_; have BK411 := n1_; have GW411 := n2_; have GE411 := n3_; clear n0_ n1_ n2_ n3_; clear hb hbox hg) | ((with_reducible refine xD (N := 3) rfl ?_); refine box_event ?hg (N := 3) ?hd (cs := #[.int .i64 a1_0, .int .i64 a1_1, .slice A1_2 l1_2.length c1_2, .slice A1_3 l1_3.length c1_3, .slice A1_4 l1_4.length c1_4]) (t := 52) ?hr ?_; (case hd => rfl); (case hg => rfl); (case hr => first | (go_simp; done) | (go_simp; rfl)); intro gb412 hg w28 hbox hb; have n0_ := Aside0.mk (yB (g := gb411) (o := .cells #[.int .i64 a0_0, .int .i64 a0_1, .slice A0_2 l0_2.length c0_2, .slice A0_3 l0_3.length c0_3, .slice A0_4 l0_4.length c0_4] 52 (0, 0)) (by (with_reducible repeat (first | refine yN ?_ _ | refine yD ?_ | refine yA ?_ _)); exact BK411.out) hb); have n1_ := Aside0.mk (zT (by repeat (first | (with_reducible first | exact HB.out | apply zA | apply zN | apply zD | refine zP ?_ GE411.out) | exact HB.out)) hb); have n2_ := Aside0.mk (hbox); have n3_ := Aside0.mk ((by rw [hg]; exact (zS (by repeat (first | (with_reducible first | exact HB.out | apply zA | apply zN | apply zD | refine zP ?_ GE411.out) | exact HB.out))) : w.heap.size ≤ gb412)); have n4_ := n3_; have n5_ := Aside0.mk ((by rw [hg]; exact Nat.ne_of_lt (blk_lt (g := gb411) (o := .cells #[.int .i64 a0_0, .int .i64 a0_1, .slice A0_2 l0_2.length c0_2, .slice A0_3 l0_3.length c0_3, .slice A0_4 l0_4.length c0_4] 52 (0, 0)) (by (with_reducible repeat (first | refine yN ?_ _ | refine yD ?_ | refine yA ?_ _)); exact BK411.out)) : gb411 ≠ gb412)); have n6_ := Aside0.mk ((by rw [hg]; exact Nat.ne_of_gt (blk_lt (g := gb411) (o := .cells #[.int .i64 a0_0, .int .i64 a0_1, .slice A0_2 l0_2.length c0_2, .slice A0_3 l0_3.length c0_3, .slice A0_4 l0_4.length c0_4] 52 (0, 0)) (by (with_reducible repeat (first | refine yN ?_ _ | refine yD ?_ | refine yA ?_ _)); exact BK411.out)) : gb412 ≠ gb411)); clear BK411; clear HB; have BK411 := n0_; have HB := n1_; have BK412 := n2_; have GW412 := n3_; have GE412 := n4_; have NB411_412 := n5_; have NB412_411 := n6_; clear n0_ n1_ n2_ n3_ n4_ n5_ n6_; clear hb hbox hg; have hnb29 := NB411_412.out; have hnc29 := NB412_411.out; have hcz30_0 : w28.cell? ⟨gb411, 0, none⟩ = some (.int .i64 a0_0) := (blk_cell BK411.out 0).trans rfl; have hcz30_1 : w28.cell? ⟨gb411, 1, none⟩ = some (.int .i64 a0_1) := (blk_cell BK411.out 1).trans rfl; have hcz30_2 : w28.cell? ⟨gb411, 2, none⟩ = some (.slice A0_2 l0_2.length c0_2) := (blk_cell BK411.out 2).trans rfl; have hcz30_3 : w28.cell? ⟨gb411, 3, none⟩ = some (.slice A0_3 l0_3.length c0_3) := (blk_cell BK411.out 3).trans rfl; have hcz30_4 : w28.cell? ⟨gb411, 4, none⟩ = some (.slice A0_4 l0_4.length c0_4) := (blk_cell BK411.out 4).trans rfl; have hfz30_0 := blk_frozen BK411.out 0; have hfz30_1 := blk_frozen BK411.out 1; have hfz30_2 := blk_frozen BK411.out 2; have hfz30_3 := blk_frozen BK411.out 3; have hfz30_4 := blk_frozen BK411.out 4; have hcz31_0 : w28.cell? ⟨gb412, 0, none⟩ = some (.int .i64 a1_0) := (blk_cell BK412.out 0).trans rfl; have hcz31_1 : w28.cell? ⟨gb412, 1, none⟩ = some (.int .i64 a1_1) := (blk_cell BK412.out 1).trans rfl; have hcz31_2 : w28.cell? ⟨gb412, 2, none⟩ = some (.slice A1_2 l1_2.length c1_2) := (blk_cell BK412.out 2).trans rfl; have hcz31_3 : w28.cell? ⟨gb412, 3, none⟩ = some (.slice A1_3 l1_3.length c1_3) := (blk_cell BK412.out 3).trans rfl; have hcz31_4 : w28.cell? ⟨gb412, 4, none⟩ = some (.slice A1_4 l1_4.length c1_4) := (blk_cell BK412.out 4).trans rfl; have hfz31_0 := blk_frozen BK412.out 0; have hfz31_1 := blk_frozen BK412.out 1; have hfz31_2 := blk_frozen BK412.out 2; have hfz31_3 := blk_frozen BK412.out 3; have hfz31_4 := blk_frozen BK412.out 4; have hcv32 := Kd.C_string (P := Try.prog) (A := A0_2) (c := c0_2) Try.underlying50 Try.underlying5 Try.underlying9 (Kd.C_below HR0_2.out HB.out); have hcv33 := Kd.C_string (P := Try.prog) (A := A1_2) (c := c1_2) Try.underlying50 Try.underlying5 Try.underlying9 (Kd.C_below HR1_2.out HB.out)))
    go_ret
    exact ⟨by first | rfl | (simp [errW_none, errW_some] <;> rfl) | (simp [*, errW_none, errW_some] <;> rfl), by repeat (first | (with_reducible first | exact HB.out | apply zA | apply zN | apply zD | refine zP ?_ GE411.out | refine zP ?_ GE412.out) | exact HB.out)⟩
  ·rw [if_neg c4] at H
   have c4b0 : (a0_1 == a1_1) = false := beq_eq_false_iff_ne.mpr c4
   have c4b1 : (a0_1 != a1_1) = true := bne_iff_ne.mpr c4
   obtain rfl := Option.some.inj H
   go_enter Try.func45, Try.ntmps45
   go_wp2_with (first | ((with_reducible refine xD (N := 2) rfl ?_); refine box_event ?hg (N := 2) ?hd (cs := #[.int .i64 a0_0, .int .i64 a0_1, .slice A0_2 l0_2.length c0_2, .slice A0_3 l0_3.length c0_3, .slice A0_4 l0_4.length c0_4]) (t := 52) ?hr ?_; (case hd => rfl); (case hg => rfl); (case hr => first | (go_simp; done) | (go_simp; rfl)); intro gb411 hg w34 hbox hb; have n0_ := Aside0.mk (zT (by repeat (first | (with_reducible first | exact HB.out | apply zA | apply zN | apply zD) | exact HB.out)) hb); have n1_ := Aside0.mk (hbox); have n2_ := Aside0.mk ((by rw [hg]; exact (zS (by repeat (first | (with_reducible first | exact HB.out | apply zA | apply zN | apply zD) | exact HB.out))) : w.heap.size ≤ gb411)); have n3_ := n2_; clear HB; have HB := n0_; have BK411 := n1_; have GW411 := n2_; have GE411 := n3_; clear n0_ n1_ n2_ n3_; clear hb hbox hg) | ((with_reducible refine xD (N := 3) rfl ?_); refine box_event ?hg (N := 3) ?hd (cs := #[.int .i64 a1_0, .int .i64 a1_1, .slice A1_2 l1_2.length c1_2, .slice A1_3 l1_3.length c1_3, .slice A1_4 l1_4.length c1_4]) (t := 52) ?hr ?_; (case hd => rfl); (case hg => rfl); (case hr => first | (go_simp; done) | (go_simp; rfl)); intro gb412 hg w35 hbox hb; have n0_ := Aside0.mk (yB (g := gb411) (o := .cells #[.int .i64 a0_0, .int .i64 a0_1, .slice A0_2 l0_2.length c0_2, .slice A0_3 l0_3.length c0_3, .slice A0_4 l0_4.length c0_4] 52 (0, 0)) (by (with_reducible repeat (first | refine yN ?_ _ | refine yD ?_ | refine yA ?_ _)); exact BK411.out) hb); have n1_ := Aside0.mk (zT (by repeat (first | (with_reducible first | exact HB.out | apply zA | apply zN | apply zD | refine zP ?_ GE411.out) | exact HB.out)) hb); have n2_ := Aside0.mk (hbox); have n3_ := Aside0.mk ((by rw [hg]; exact (zS (by repeat (first | (with_reducible first | exact HB.out | apply zA | apply zN | apply zD | refine zP ?_ GE411.out) | exact HB.out))) : w.heap.size ≤ gb412)); have n4_ := n3_; have n5_ := Aside0.mk ((by rw [hg]; exact Nat.ne_of_lt (blk_lt (g := gb411) (o := .cells #[.int .i64 a0_0, .int .i64 a0_1, .slice A0_2 l0_2.length c0_2, .slice A0_3 l0_3.length c0_3, .slice A0_4 l0_4.length c0_4] 52 (0, 0)) (by (with_reducible repeat (first | refine yN ?_ _ | refine yD ?_ | refine yA ?_ _)); exact BK411.out)) : gb411 ≠ gb412)); have n6_ := Aside0.mk ((by rw [hg]; exact Nat.ne_of_gt (blk_lt (g := gb411) (o := .cells #[.int .i64 a0_0, .int .i64 a0_1, .slice A0_2 l0_2.length c0_2, .slice A0_3 l0_3.length c0_3, .slice A0_4 l0_4.length c0_4] 52 (0, 0)) (by (with_reducible repeat (first | refine yN ?_ _ | refine yD ?_ | refine yA ?_ _)); exact BK411.out)) : gb412 ≠ gb411)); clear BK411; clear HB; have BK411 := n0_; have HB := n1_; have BK412 := n2_; have GW412 := n3_; have GE412 := n4_; have NB411_412 := n5_; have NB412_411 := n6_; clear n0_ n1_ n2_ n3_ n4_ n5_ n6_; clear hb hbox hg; have hnb36 := NB411_412.out; have hnc36 := NB412_411.out; have hcz37_0 : w35.cell? ⟨gb411, 0, none⟩ = some (.int .i64 a0_0) := (blk_cell BK411.out 0).trans rfl; have hcz37_1 : w35.cell? ⟨gb411, 1, none⟩ = some (.int .i64 a0_1) := (blk_cell BK411.out 1).trans rfl; have hcz37_2 : w35.cell? ⟨gb411, 2, none⟩ = some (.slice A0_2 l0_2.length c0_2) := (blk_cell BK411.out 2).trans rfl; have hcz37_3 : w35.cell? ⟨gb411, 3, none⟩ = some (.slice A0_3 l0_3.length c0_3) := (blk_cell BK411.out 3).trans rfl; have hcz37_4 : w35.cell? ⟨gb411, 4, none⟩ = some (.slice A0_4 l0_4.length c0_4) := (blk_cell BK411.out 4).trans rfl; have hfz37_0 := blk_frozen BK411.out 0; have hfz37_1 := blk_frozen BK411.out 1; have hfz37_2 := blk_frozen BK411.out 2; have hfz37_3 := blk_frozen BK411.out 3; have hfz37_4 := blk_frozen BK411.out 4; have hcz38_0 : w35.cell? ⟨gb412, 0, none⟩ = some (.int .i64 a1_0) := (blk_cell BK412.out 0).trans rfl; have hcz38_1 : w35.cell? ⟨gb412, 1, none⟩ = some (.int .i64 a1_1) := (blk_cell BK412.out 1).trans rfl; have hcz38_2 : w35.cell? ⟨gb412, 2, none⟩ = some (.slice A1_2 l1_2.length c1_2) := (blk_cell BK412.out 2).trans rfl; have hcz38_3 : w35.cell? ⟨gb412, 3, none⟩ = some (.slice A1_3 l1_3.length c1_3) := (blk_cell BK412.out 3).trans rfl; have hcz38_4 : w35.cell? ⟨gb412, 4, none⟩ = some (.slice A1_4 l1_4.length c1_4) := (blk_cell BK412.out 4).trans rfl; have hfz38_0 := blk_frozen BK412.out 0; have hfz38_1 := blk_frozen BK412.out 1; have hfz38_2 := blk_frozen BK412.out 2; have hfz38_3 := blk_frozen BK412.out 3; have hfz38_4 := blk_frozen BK412.out 4))
   go_ret
   exact ⟨by first | rfl | (simp [errW_none, errW_some] <;> rfl) | (simp [*, errW_none, errW_some] <;> rfl), by repeat (first | (with_reducible first | exact HB.out | apply zA | apply zN | apply zD | refine zP ?_ GE411.out | refine zP ?_ GE412.out) | exact HB.out)⟩
 ·rw [if_neg c3] at H
  have c3b0 : (a0_0 == a1_0) = false := beq_eq_false_iff_ne.mpr c3
  have c3b1 : (a0_0 != a1_0) = true := bne_iff_ne.mpr c3
  obtain rfl := Option.some.inj H
  go_enter Try.func45, Try.ntmps45
  go_wp2_with (first | ((with_reducible refine xD (N := 2) rfl ?_); refine box_event ?hg (N := 2) ?hd (cs := #[.int .i64 a0_0, .int .i64 a0_1, .slice A0_2 l0_2.length c0_2, .slice A0_3 l0_3.length c0_3, .slice A0_4 l0_4.length c0_4]) (t := 52) ?hr ?_; (case hd => rfl); (case hg => rfl); (case hr => first | (go_simp; done) | (go_simp; rfl)); intro gb411 hg w39 hbox hb; have n0_ := Aside0.mk (zT (by repeat (first | (with_reducible first | exact HB.out | apply zA | apply zN | apply zD) | exact HB.out)) hb); have n1_ := Aside0.mk (hbox); have n2_ := Aside0.mk ((by rw [hg]; exact (zS (by repeat (first | (with_reducible first | exact HB.out | apply zA | apply zN | apply zD) | exact HB.out))) : w.heap.size ≤ gb411)); have n3_ := n2_; clear HB; have HB := n0_; have BK411 := n1_; have GW411 := n2_; have GE411 := n3_; clear n0_ n1_ n2_ n3_; clear hb hbox hg) | ((with_reducible refine xD (N := 3) rfl ?_); refine box_event ?hg (N := 3) ?hd (cs := #[.int .i64 a1_0, .int .i64 a1_1, .slice A1_2 l1_2.length c1_2, .slice A1_3 l1_3.length c1_3, .slice A1_4 l1_4.length c1_4]) (t := 52) ?hr ?_; (case hd => rfl); (case hg => rfl); (case hr => first | (go_simp; done) | (go_simp; rfl)); intro gb412 hg w40 hbox hb; have n0_ := Aside0.mk (yB (g := gb411) (o := .cells #[.int .i64 a0_0, .int .i64 a0_1, .slice A0_2 l0_2.length c0_2, .slice A0_3 l0_3.length c0_3, .slice A0_4 l0_4.length c0_4] 52 (0, 0)) (by (with_reducible repeat (first | refine yN ?_ _ | refine yD ?_ | refine yA ?_ _)); exact BK411.out) hb); have n1_ := Aside0.mk (zT (by repeat (first | (with_reducible first | exact HB.out | apply zA | apply zN | apply zD | refine zP ?_ GE411.out) | exact HB.out)) hb); have n2_ := Aside0.mk (hbox); have n3_ := Aside0.mk ((by rw [hg]; exact (zS (by repeat (first | (with_reducible first | exact HB.out | apply zA | apply zN | apply zD | refine zP ?_ GE411.out) | exact HB.out))) : w.heap.size ≤ gb412)); have n4_ := n3_; have n5_ := Aside0.mk ((by rw [hg]; exact Nat.ne_of_lt (blk_lt (g := gb411) (o := .cells #[.int .i64 a0_0, .int .i64 a0_1, .slice A0_2 l0_2.length c0_2, .slice A0_3 l0_3.length c0_3, .slice A0_4 l0_4.length c0_4] 52 (0, 0)) (by (with_reducible repeat (first | refine yN ?_ _ | refine yD ?_ | refine yA ?_ _)); exact BK411.out)) : gb411 ≠ gb412)); have n6_ := Aside0.mk ((by rw [hg]; exact Nat.ne_of_gt (blk_lt (g := gb411) (o := .cells #[.int .i64 a0_0, .int .i64 a0_1, .slice A0_2 l0_2.length c0_2, .slice A0_3 l0_3.length c0_3, .slice A0_4 l0_4.length c0_4] 52 (0, 0)) (by (with_reducible repeat (first | refine yN ?_ _ | refine yD ?_ | refine yA ?_ _)); exact BK411.out)) : gb412 ≠ gb411)); clear BK411; clear HB; have BK411 := n0_; have HB := n1_; have BK412 := n2_; have GW412 := n3_; have GE412 := n4_; have NB411_412 := n5_; have NB412_411 := n6_; clear n0_ n1_ n2_ n3_ n4_ n5_ n6_; clear hb hbox hg; have hnb41 := NB411_412.out; have hnc41 := NB412_411.out; have hcz42_0 : w40.cell? ⟨gb411, 0, none⟩ = some (.int .i64 a0_0) := (blk_cell BK411.out 0).trans rfl; have hcz42_1 : w40.cell? ⟨gb411, 1, none⟩ = some (.int .i64 a0_1) := (blk_cell BK411.out 1).trans rfl; have hcz42_2 : w40.cell? ⟨gb411, 2, none⟩ = some (.slice A0_2 l0_2.length c0_2) := (blk_cell BK411.out 2).trans rfl; have hcz42_3 : w40.cell? ⟨gb411, 3, none⟩ = some (.slice A0_3 l0_3.length c0_3) := (blk_cell BK411.out 3).trans rfl; have hcz42_4 : w40.cell? ⟨gb411, 4, none⟩ = some (.slice A0_4 l0_4.length c0_4) := (blk_cell BK411.out 4).trans rfl; have hfz42_0 := blk_frozen BK411.out 0; have hfz42_1 := blk_frozen BK411.out 1; have hfz42_2 := blk_frozen BK411.out 2; have hfz42_3 := blk_frozen BK411.out 3; have hfz42_4 := blk_frozen BK411.out 4; have hcz43_0 : w40.cell? ⟨gb412, 0, none⟩ = some (.int .i64 a1_0) := (blk_cell BK412.out 0).trans rfl; have hcz43_1 : w40.cell? ⟨gb412, 1, none⟩ = some (.int .i64 a1_1) := (blk_cell BK412.out 1).trans rfl; have hcz43_2 : w40.cell? ⟨gb412, 2, none⟩ = some (.slice A1_2 l1_2.length c1_2) := (blk_cell BK412.out 2).trans rfl; have hcz43_3 : w40.cell? ⟨gb412, 3, none⟩ = some (.slice A1_3 l1_3.length c1_3) := (blk_cell BK412.out 3).trans rfl; have hcz43_4 : w40.cell? ⟨gb412, 4, none⟩ = some (.slice A1_4 l1_4.length c1_4) := (blk_cell BK412.out 4).trans rfl; have hfz43_0 := blk_frozen BK412.out 0; have hfz43_1 := blk_frozen BK412.out 1; have hfz43_2 := blk_frozen BK412.out 2; have hfz43_3 := blk_frozen BK412.out 3; have hfz43_4 := blk_frozen BK412.out 4))
  go_ret
  exact ⟨by first | rfl | (simp [errW_none, errW_some] <;> rfl) | (simp [*, errW_none, errW_some] <;> rfl), by repeat (first | (with_reducible first | exact HB.out | apply zA | apply zN | apply zD | refine zP ?_ GE411.out | refine zP ?_ GE412.out) | exact HB.out)⟩

/-! ### cutroomref20_lines: function 65 -/
def cutroomref20_lines.l0 : Nat → List Int → List Int → Int → List Int → Int → Option (List Int)
 | 0, _, _, _, _, _ => none
 | k + 1, x0, x1, x2, x7, x8 => if x8 < (x0.length : Int) then (if 0 ≤ x8 then (if x8 < (x7.length : Int) then ((some (x7.set (x8 : Int).toNat (rd x0 x8) : List Int)).bind fun y417 => (if x2 = 0 then (none) else (if (Int.tmod (wrap64 (Int.tdiv x8 x2)) 2) = 1 then (if x8 < (x1.length : Int) then (cutroomref20_lines.l0 k x0 x1 x2 (y417.set (x8 : Int).toNat (rd x1 x8)) (wrap64 (x8 + 1))) else (none)) else (cutroomref20_lines.l0 k x0 x1 x2 y417 (wrap64 (x8 + 1)))))) else (none)) else (none)) else (some x7)
def cutroomref20_lines.f (k : Nat) (l0 : List Int) (l1 : List Int) (a2 : Int) : Option (List Int) := if 0 ≤ (l0.length : Int) then (if ((l0.length : Int) : Int).toNat ≤ 281474976710656 then (cutroomref20_lines.l0 k l0 l1 a2 (List.replicate ((l0.length : Int) : Int).toNat 0) 0) else (none)) else (none)
theorem cutroomref20_lines.mono_l : ∀ k, (∀ y0 y1 y2 y3 y4, LeO (cutroomref20_lines.l0 k y0 y1 y2 y3 y4) (cutroomref20_lines.l0 (k + 1) y0 y1 y2 y3 y4))
 | 0 => fun _ _ _ _ _ r h => by simp [cutroomref20_lines.l0] at h
 | k + 1 => by
  have ih0 := cutroomref20_lines.mono_l k
  ·intro y0 y1 y2 y3 y4
   unfold cutroomref20_lines.l0
   repeat' first
   | (with_reducible exact ih0 _ _ _ _ _)
   | (with_reducible exact LeO.refl _)
   | (with_reducible exact LeO.none _)
   | (with_reducible refine LeO.ite ?_ ?_)
   | (with_reducible refine LeO.bind ?_ (fun _ => ?_))
   | exact ih0 _ _ _ _ _
   | exact LeO.none _
   | refine LeO.ite ?_ ?_
   | refine LeO.bind ?_ (fun _ => ?_)
theorem cutroomref20_lines.mono : ∀ a0 a1 a2 k, LeO (cutroomref20_lines.f k a0 a1 a2) (cutroomref20_lines.f (k + 1) a0 a1 a2) := by
 intro a0 a1 a2 k
 have ih0 := cutroomref20_lines.mono_l k
 unfold cutroomref20_lines.f
 repeat' first
   | (with_reducible exact ih0 _ _ _ _ _)
   | (with_reducible exact LeO.refl _)
   | (with_reducible exact LeO.none _)
   | (with_reducible refine LeO.ite ?_ ?_)
   | (with_reducible refine LeO.bind ?_ (fun _ => ?_))
   | exact ih0 _ _ _ _ _
   | exact LeO.none _
   | refine LeO.ite ?_ ?_
   | refine LeO.bind ?_ (fun _ => ?_)
set_option maxHeartbeats 8000000 in
set_option maxRecDepth 100000 in
theorem cutroomref20_lines.calls (k : Nat) (A0 : Option Addr) (c0 : Nat) (l0 : List Int) (A1 : Option Addr) (c1 : Nat) (l1 : List Int) (a2 : Int) (r : List Int) (w : World) (hr0 : Kd.C (Kd.int .u8) w A0 l0.length l0) (hc0 : l0.length ≤ c0) (hr1 : Kd.C (Kd.int .u8) w A1 l1.length l1) (hc1 : l1.length ≤ c1) (h : cutroomref20_lines.f k l0 l1 a2 = some r) :
  Calls Try.prog 65 #[.slice A0 l0.length c0, .slice A1 l1.length c1, .int .i64 a2] w fun e w' => ∃ v0_ : Value, e = .returned (v0_) ∧ Kd.R (Kd.int .u8) 5 w' w.heap.size (fun _ => True) v0_ r ∧ Below w.heap.size w w' := by
 have HR0 := Aside0.mk hr0
 have HC0 := Aside0.mk hc0
 clear hr0 hc0
 have HR1 := Aside0.mk hr1
 have HC1 := Aside0.mk hc1
 clear hr1 hc1
 have HB := Aside0.mk (Below.refl w.heap.size w)
 have H : (if 0 ≤ (l0.length : Int) then (if ((l0.length : Int) : Int).toNat ≤ 281474976710656 then (cutroomref20_lines.l0 k l0 l1 a2 (List.replicate ((l0.length : Int) : Int).toNat 0) 0) else (none)) else (none)) = some r := h
 clear h
 by_cases c4 : 0 ≤ (l0.length : Int)
 ·rw [if_pos c4] at H
  have c4b0 := eq_true c4
  have c4b1 : decide (0 ≤ (l0.length : Int)) = true := decide_eq_true c4
  clear c4
  by_cases c5 : ((l0.length : Int) : Int).toNat ≤ 281474976710656
  ·rw [if_pos c5] at H
   have c5b0 := eq_true c5
   have c5b1 : decide (((l0.length : Int) : Int).toNat ≤ 281474976710656) = true := decide_eq_true c5
   clear c5
   obtain ⟨y413, hy413⟩ : ∃ y_ : List Int, y_ = (List.replicate ((l0.length : Int) : Int).toNat 0) := ⟨_, rfl⟩
   replace H : (cutroomref20_lines.l0 k l0 l1 a2 y413 0) = some r := by first | (rw [hy413]; with_reducible exact H) | (have H2_ := (Option.bind_some _ _).symm.trans H; rw [hy413]; with_reducible exact H2_) | (have H2_ := (Option.bind_some _ _).symm.trans H; with_reducible exact H2_) | with_reducible exact H | (rw [hy413]; exact H) | exact H
   have Ny413 := Aside0.mk hy413
   clear hy413
   have H' := Aside0.mk H
   clear H
   go_enter Try.func65, Try.ntmps65
   go_wp2_with (first | ((with_reducible refine xD (N := 11) rfl ?_); refine Kd.R_make (Kd.int .u8) _ 5 rfl (N := 11) rfl 50 _ _ rfl (l0.length : Int) rfl rfl Try.underlying50 (.int .u8 0) 1 info5 rfl (by decide) (by omega) 0 (ok := fun _ => True) (okp := fun _ => True) rfl (fun _ hk => hk) trivial (of_decide_eq_true (by first | (with_reducible assumption) | assumption)) (Nat.le_trans (Nat.mul_le_mul_right _ (of_decide_eq_true (by first | (with_reducible assumption) | assumption) : (l0.length : Int).toNat ≤ 281474976710656)) (by omega)) (Below.refl _ _) (Nat.le_refl _) ?_; intro v414 w6 ho7 hb hg_ hnew_; clear hg_ hnew_; (first | rw [← Ny413.out] at ho7 | (simp only [Int.reduceToNat] at ho7; rw [← Ny413.out] at ho7)); have n0_ := Aside0.mk (Kd.R_lower ho7 (zS (by repeat (first | (with_reducible first | exact HB.out | apply zA | apply zN | apply zD) | exact HB.out)))); have n1_ := Aside0.mk (zT (by repeat (first | (with_reducible first | exact HB.out | apply zA | apply zN | apply zD) | exact HB.out)) hb); clear HB; have HO415 := n0_; have HB := n1_; clear n0_ n1_; clear hb ho7))
   go_loopg [8] k (fun kq v8 w' => ∃ (x7_1 : List Int) (x8_1 : Int), v8 = .int .i64 x8_1 ∧ Aside0 (cutroomref20_lines.l0 kq l0 l1 a2 x7_1 x8_1 = some r) ∧ Aside0 (kq ≤ k) ∧ Aside0 (Kd.R (Kd.int .u8) 5 w' w.heap.size (fun _ => True) v414 x7_1) ∧ Aside0 (Below w.heap.size w w'))
   case atStart => exact ⟨(y413), (0), (by first | rfl | (simp; done) | (simp [*]; done)), H', ⟨Nat.le_refl _⟩, ⟨by (with_reducible repeat (first | apply Kd.R_alloc | apply Kd.R_drewN | apply Kd.R_drew)); exact HO415.out⟩, ⟨by repeat (first | (with_reducible first | exact HB.out | apply zA | apply zN | apply zD) | exact HB.out)⟩⟩
   case round =>
    clear H'
    (try clear c1);(try clear p2);(try clear c4);(try clear c4b0);(try clear c4b1);(try clear c5);(try clear c5b0);(try clear c5b1);(try clear c6)
    obtain ⟨x7_1, x8_1, rfl, HA, HK1, HO_7, HB⟩ := hrel
    cases gk with
    | zero => exact absurd HA.out (by simp [cutroomref20_lines.l0])
    | succ k1 =>
     have H := HA.out
     clear HA
     simp only [cutroomref20_lines.l0] at H
     by_cases c8 : x8_1 < (l0.length : Int)
     ·rw [if_pos c8] at H
      have c8b0 : decide (x8_1 < (l0.length : Int)) = true := decide_eq_true c8
      clear c8
      by_cases c9 : 0 ≤ x8_1
      ·rw [if_pos c9] at H
       have c9b0 : decide (0 ≤ x8_1) = true := decide_eq_true c9
       clear c9
       by_cases c10 : x8_1 < (x7_1.length : Int)
       ·rw [if_pos c10] at H
        have c10b0 : decide (x8_1 < (x7_1.length : Int)) = true := decide_eq_true c10
        clear c10
        obtain ⟨y417, hy417⟩ : ∃ y_ : List Int, y_ = (x7_1.set (x8_1 : Int).toNat (rd l0 x8_1)) := ⟨_, rfl⟩
        replace H : (if a2 = 0 then (none) else (if (Int.tmod (wrap64 (Int.tdiv x8_1 a2)) 2) = 1 then (if x8_1 < (l1.length : Int) then (cutroomref20_lines.l0 k1 l0 l1 a2 (y417.set (x8_1 : Int).toNat (rd l1 x8_1)) (wrap64 (x8_1 + 1))) else (none)) else (cutroomref20_lines.l0 k1 l0 l1 a2 y417 (wrap64 (x8_1 + 1))))) = some r := by first | (rw [hy417]; with_reducible exact H) | (have H2_ := (Option.bind_some _ _).symm.trans H; rw [hy417]; with_reducible exact H2_) | (have H2_ := (Option.bind_some _ _).symm.trans H; with_reducible exact H2_) | with_reducible exact H | (rw [hy417]; exact H) | exact H
        have Ny417 := Aside0.mk hy417
        clear hy417
        by_cases c12 : a2 = 0
        ·rw [if_pos c12] at H
         exact absurd H (by simp)
        ·rw [if_neg c12] at H
         have c12b0 : (a2 == 0) = false := beq_eq_false_iff_ne.mpr c12
         have c12b1 : (a2 != 0) = true := bne_iff_ne.mpr c12
         by_cases c13 : (Int.tmod (wrap64 (Int.tdiv x8_1 a2)) 2) = 1
         ·rw [if_pos c13] at H
          have c13b0 : ((Int.tmod (wrap64 (Int.tdiv x8_1 a2)) 2) == 1) = true := beq_iff_eq.mpr c13
          have c13b1 : ((Int.tmod (wrap64 (Int.tdiv x8_1 a2)) 2) != 1) = false := bne_eq_false_iff_eq.mpr c13
          clear c13
          by_cases c14 : x8_1 < (l1.length : Int)
          ·rw [if_pos c14] at H
           have c14b0 : decide (x8_1 < (l1.length : Int)) = true := decide_eq_true c14
           clear c14
           obtain ⟨y419, hy419⟩ : ∃ y_ : List Int, y_ = (y417.set (x8_1 : Int).toNat (rd l1 x8_1)) := ⟨_, rfl⟩
           replace H : (cutroomref20_lines.l0 k1 l0 l1 a2 y419 (wrap64 (x8_1 + 1))) = some r := by first | (rw [hy419]; with_reducible exact H) | (have H2_ := (Option.bind_some _ _).symm.trans H; rw [hy419]; with_reducible exact H2_) | (have H2_ := (Option.bind_some _ _).symm.trans H; with_reducible exact H2_) | with_reducible exact H | (rw [hy419]; exact H) | exact H
           have Ny419 := Aside0.mk hy419
           clear hy419
           have H' := Aside0.mk H
           clear H
           have p416 : 0 ≤ (x8_1 : Int) := of_decide_eq_true (by first | (with_reducible assumption) | assumption)
           have q416 : x8_1 < (l0.length : Int) := of_decide_eq_true (by first | (with_reducible assumption) | assumption)
           obtain ⟨ad416, e416, hx416_0⟩ := Kd.at_int HR0.out x8_1 p416 q416
           cases e416
           replace hx416_0 := (HB.out.cell (World.block_lt_of_cell? w _ hx416_0)).trans hx416_0
           replace p416 := eq_true p416
           replace q416 := eq_true q416
           have p11 : 0 ≤ (x8_1 : Int) := of_decide_eq_true (by first | (with_reducible assumption) | assumption)
           have q11 : (x8_1 : Int) < ((x7_1.length : Int) : Int) := of_decide_eq_true (by first | (with_reducible assumption) | assumption)
           obtain ⟨go11, co11, eo11, gb11, gl11, cl11, HG11⟩ := Kd.R_form HO_7.out (by omega)
           (first | cases eo11 | (injection eo11 with ea_ en_ ec_; (first | subst ea_ | (injection ea_ with ea_; subst ea_)); subst ec_; clear en_))
           have GB11 := Aside0.mk gb11
           have GG11 := Aside0.mk HG11
           clear gb11 gl11 HG11
           obtain ⟨hx11_0, hf11_0⟩ := Kd.R_celln 0 HO_7.out (x8_1 : Int) p11 q11
           replace p11 := eq_true p11
           replace q11 := eq_true q11
           have HP16 := Kd.R_putg HO_7.out (x8_1 : Int) (rd l0 x8_1)
           go_wp2_with (first | ((with_reducible refine gate_store (t := 5) (p := 24) rfl ?_); refine store_event (t := 5) (p := 24) (v := ?vo_w17) (w1 := (wr.setCell ⟨go11, (x8_1 : Int).toNat, none⟩ (.int .u8 (rd l0 x8_1)))) ?hg ?ho ?hn ?hr ?_; (case ho => rfl); (case hg => rfl); (case hn => rfl); (case hr => first | (go_simp; done) | (go_simp; rfl)); intro w17 hw; have hg : wr.grownBy w17 (some go11) := (by rw [hw]; exact HP16.2); have hp_ : Kd.R (Kd.int .u8) 5 w17 w.heap.size (fun _ => True) (.slice (some ⟨go11, 0, none⟩) x7_1.length co11) y417 := (by rw [hw, Ny417.out]; exact HP16.1); clear HP16; have n0_ := Aside0.mk (hp_); have n1_ := Aside0.mk ((by rw [hw]; exact zP (HB.out) GB11.out : Below w.heap.size w w17)); clear HO_7; clear HB; have HO_7 := n0_; have HB := n1_; clear n0_ n1_; clear hg hw hp_; have p418 : 0 ≤ (x8_1 : Int) := of_decide_eq_true (by first | (with_reducible assumption) | assumption); have q418 : x8_1 < (l1.length : Int) := of_decide_eq_true (by first | (with_reducible assumption) | assumption); obtain ⟨ad418, e418, hx418_0⟩ := Kd.at_int HR1.out x8_1 p418 q418; cases e418; replace hx418_0 := (HB.out.cell (World.block_lt_of_cell? w _ hx418_0)).trans hx418_0; replace p418 := eq_true p418; replace q418 := eq_true q418; have p15 : 0 ≤ (x8_1 : Int) := of_decide_eq_true (by first | (with_reducible assumption) | assumption); have q15 : (x8_1 : Int) < ((x7_1.length : Int) : Int) := of_decide_eq_true (by first | (with_reducible assumption) | assumption); obtain ⟨hx15_0, hf15_0⟩ := Kd.R_celln 0 HO_7.out (x8_1 : Int) p15 q15; replace p15 := eq_true p15; replace q15 := eq_true q15; obtain ⟨hy18_, hz18_⟩ := Kd.R_celln 0 HO_7.out (x8_1 : Int) (of_decide_eq_true (by first | (with_reducible assumption) | assumption)) (of_decide_eq_true (by first | (with_reducible assumption) | assumption)); have HP18 := Kd.R_putg HO_7.out (x8_1 : Int) (rd l1 x8_1)) | ((with_reducible refine gate_store (t := 5) (p := 36) rfl ?_); refine store_event (t := 5) (p := 36) (v := ?vo_w19) (w1 := (w17.setCell ⟨go11, (x8_1 : Int).toNat, none⟩ (.int .u8 (rd l1 x8_1)))) ?hg ?ho ?hn ?hr ?_; (case ho => rfl); (case hg => rfl); (case hn => rfl); (case hr => first | (go_simp; done) | (go_simp; rfl)); intro w19 hw; have hg : w17.grownBy w19 (some go11) := (by rw [hw]; exact HP18.2); have hp_ : Kd.R (Kd.int .u8) 5 w19 w.heap.size (fun _ => True) (.slice (some ⟨go11, 0, none⟩) x7_1.length co11) y419 := (by rw [hw, Ny419.out]; exact HP18.1); clear HP18; have n0_ := Aside0.mk (hp_); have n1_ := Aside0.mk ((by rw [hw]; exact zP (HB.out) GB11.out : Below w.heap.size w w19)); clear HO_7; clear HB; have HO_7 := n0_; have HB := n1_; clear n0_ n1_; clear hg hw hp_))
           go_roundg k1
           case measure => have := HK1.out; omega
           case rel => exact ⟨(y419), (wrap64 (x8_1 + 1)), (by first | rfl | (simp; done) | (simp [*]; done)), H', ⟨by have := HK1.out; omega⟩, ⟨by (with_reducible repeat (first | apply Kd.R_alloc | apply Kd.R_drewN | apply Kd.R_drew)); exact HO_7.out⟩, ⟨by repeat (first | (with_reducible first | exact HB.out | apply zA | apply zN | apply zD) | exact HB.out)⟩⟩
          ·rw [if_neg c14] at H
           exact absurd H (by simp)
         ·rw [if_neg c13] at H
          have c13b0 : ((Int.tmod (wrap64 (Int.tdiv x8_1 a2)) 2) == 1) = false := beq_eq_false_iff_ne.mpr c13
          have c13b1 : ((Int.tmod (wrap64 (Int.tdiv x8_1 a2)) 2) != 1) = true := bne_iff_ne.mpr c13
          have H' := Aside0.mk H
          clear H
          have p416 : 0 ≤ (x8_1 : Int) := of_decide_eq_true (by first | (with_reducible assumption) | assumption)
          have q416 : x8_1 < (l0.length : Int) := of_decide_eq_true (by first | (with_reducible assumption) | assumption)
          obtain ⟨ad416, e416, hx416_0⟩ := Kd.at_int HR0.out x8_1 p416 q416
          cases e416
          replace hx416_0 := (HB.out.cell (World.block_lt_of_cell? w _ hx416_0)).trans hx416_0
          replace p416 := eq_true p416
          replace q416 := eq_true q416
          have p11 : 0 ≤ (x8_1 : Int) := of_decide_eq_true (by first | (with_reducible assumption) | assumption)
          have q11 : (x8_1 : Int) < ((x7_1.length : Int) : Int) := of_decide_eq_true (by first | (with_reducible assumption) | assumption)
          obtain ⟨go11, co11, eo11, gb11, gl11, cl11, HG11⟩ := Kd.R_form HO_7.out (by omega)
          (first | cases eo11 | (injection eo11 with ea_ en_ ec_; (first | subst ea_ | (injection ea_ with ea_; subst ea_)); subst ec_; clear en_))
          have GB11 := Aside0.mk gb11
          have GG11 := Aside0.mk HG11
          clear gb11 gl11 HG11
          obtain ⟨hx11_0, hf11_0⟩ := Kd.R_celln 0 HO_7.out (x8_1 : Int) p11 q11
          replace p11 := eq_true p11
          replace q11 := eq_true q11
          have HP20 := Kd.R_putg HO_7.out (x8_1 : Int) (rd l0 x8_1)
          go_wp2_with (first | ((with_reducible refine gate_store (t := 5) (p := 24) rfl ?_); refine store_event (t := 5) (p := 24) (v := ?vo_w21) (w1 := (wr.setCell ⟨go11, (x8_1 : Int).toNat, none⟩ (.int .u8 (rd l0 x8_1)))) ?hg ?ho ?hn ?hr ?_; (case ho => rfl); (case hg => rfl); (case hn => rfl); (case hr => first | (go_simp; done) | (go_simp; rfl)); intro w21 hw; have hg : wr.grownBy w21 (some go11) := (by rw [hw]; exact HP20.2); have hp_ : Kd.R (Kd.int .u8) 5 w21 w.heap.size (fun _ => True) (.slice (some ⟨go11, 0, none⟩) x7_1.length co11) y417 := (by rw [hw, Ny417.out]; exact HP20.1); clear HP20; have n0_ := Aside0.mk (hp_); have n1_ := Aside0.mk ((by rw [hw]; exact zP (HB.out) GB11.out : Below w.heap.size w w21)); clear HO_7; clear HB; have HO_7 := n0_; have HB := n1_; clear n0_ n1_; clear hg hw hp_))
          go_roundg k1
          case measure => have := HK1.out; omega
          case rel => exact ⟨(y417), (wrap64 (x8_1 + 1)), (by first | rfl | (simp; done) | (simp [*]; done)), H', ⟨by have := HK1.out; omega⟩, ⟨by (with_reducible repeat (first | apply Kd.R_alloc | apply Kd.R_drewN | apply Kd.R_drew)); exact HO_7.out⟩, ⟨by repeat (first | (with_reducible first | exact HB.out | apply zA | apply zN | apply zD) | exact HB.out)⟩⟩
       ·rw [if_neg c10] at H
        exact absurd H (by simp)
      ·rw [if_neg c9] at H
       exact absurd H (by simp)
     ·rw [if_neg c8] at H
      have c8b0 : decide (x8_1 < (l0.length : Int)) = false := decide_eq_false c8
      clear c8
      obtain rfl := Option.some.inj H
      go_wp2
      go_ret
      exact ⟨_, by first | rfl | (simp [errW_none, errW_some] <;> rfl) | (simp [*, errW_none, errW_some] <;> rfl), by (with_reducible repeat (first | apply Kd.R_alloc | apply Kd.R_drewN | apply Kd.R_drew)); exact HO_7.out, by repeat (first | (with_reducible first | exact HB.out | apply zA | apply zN | apply zD) | exact HB.out)⟩
  ·rw [if_neg c5] at H
   exact absurd H (by simp)
 ·rw [if_neg c4] at H
  exact absurd H (by simp)

end Go.Proofs.Ytcofjbbflcnaaaa.P
