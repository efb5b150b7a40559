-- Written by this session's own program (wip/tools/myprint.py), which runs the kit's print with turns of its own: not a text of the kit's print.sh.
import Derived.Test.YtcofjbbflcnaaaaPx0
import Derived.Test.YtcofjbbflcnaaaaPx20
import Derived.Test.YtcofjbbflcnaaaaPx70
namespace Go.Proofs.Ytcofjbbflcnaaaa.P
open Go.RowKit Go.Proofs.YtcofjbbflcnaaaaW.PrintWords Go.Proofs.YtcofjbbflcnaaaaW.PrintLast Go.Proofs.YtcofjbbflcnaaaaW.PrintMore
open List renaming setIfInBounds_toArray → sA, set_cons_zero → sZ, set_cons_succ → sS
open Bool renaming true → T', false → F'
open Go.Proofs.YtcofjbbflcnaaaaW.PrintWords renaming below_alloc → zA, pw_below_drewN → zN, below_drew1 → zD, blk_drewN → yN, blk_drew → yD, blk_alloc → yA, below_size → zS, below_step → zT, blk_below → yB, below_set → zP, cell_far → xF, add_block → xB, gate_callee → xC, gate_dst → xD
attribute [local go_sem] max2_int min2_int max_two min_two max_three min_three max_four min_four   -- for this text's walks alone
set_option linter.unusedVariables false
set_option linter.unusedSimpArgs false

/-! ### cadence_Frame: function 22 -/
def cadence_Frame.j0 : Nat → Int → Bool → Int → Int → Int → Int → Option (Int × Int)
 | 0, _, _, _, _, _, _ => none
 | k + 1, x0, x18, x122000, x122001, x123000, x123001 => if x18 = true then (some (0, 1)) else ((cadence_inRange.f x0).bind fun t125 => (if t125 = true then ((rational_MulDiv.f k x0 (wrap64 (x123000 * x122001)) (wrap64 (x123001 * x122000))).bind fun bt126 => (if bt126.2.2 = 0 then (if bt126.1 = (-9223372036854775808) then (some (0, 2)) else (some (bt126.1, 0))) else (some (0, 2)))) else (some (0, 2))))
def cadence_Frame.f (k : Nat) (a0 : Int) (a1_0 : Int) (a1_1 : Int) (a2_0 : Int) (a2_1 : Int) : Option (Int × Int) := (cadence_Usable.f k a1_0 a1_1).bind fun t123 => (if t123 = true then ((cadence_Usable.f k a2_0 a2_1).bind fun t124 => (cadence_Frame.j0 k a0 (!t124) a1_0 a1_1 a2_0 a2_1)) else (cadence_Frame.j0 k a0 true a1_0 a1_1 a2_0 a2_1))
theorem cadence_Frame.mono_l : ∀ k, (∀ y0 y1 y2 y3 y4 y5, LeO (cadence_Frame.j0 k y0 y1 y2 y3 y4 y5) (cadence_Frame.j0 (k + 1) y0 y1 y2 y3 y4 y5))
 | 0 => fun _ _ _ _ _ _ r h => by simp [cadence_Frame.j0] at h
 | k + 1 => by
  have ih0 := cadence_Frame.mono_l k
  ·intro y0 y1 y2 y3 y4 y5
   unfold cadence_Frame.j0
   repeat' first
   | (with_reducible exact ih0 _ _ _ _ _ _)
   | (with_reducible exact cadence_Usable.mono _ _ _)
   | (with_reducible exact rational_MulDiv.mono _ _ _ _)
   | (with_reducible exact LeO.refl _)
   | (with_reducible exact LeO.none _)
   | (with_reducible refine LeO.ite ?_ ?_)
   | (with_reducible refine LeO.bind ?_ (fun _ => ?_))
   | exact ih0 _ _ _ _ _ _
   | exact cadence_Usable.mono _ _ _
   | exact rational_MulDiv.mono _ _ _ _
   | exact LeO.none _
   | refine LeO.ite ?_ ?_
   | refine LeO.bind ?_ (fun _ => ?_)
theorem cadence_Frame.mono : ∀ a0 a1 a2 a3 a4 k, LeO (cadence_Frame.f k a0 a1 a2 a3 a4) (cadence_Frame.f (k + 1) a0 a1 a2 a3 a4) := by
 intro a0 a1 a2 a3 a4 k
 have ih0 := cadence_Frame.mono_l k
 unfold cadence_Frame.f
 repeat' first
   | (with_reducible exact ih0 _ _ _ _ _ _)
   | (with_reducible exact cadence_Usable.mono _ _ _)
   | (with_reducible exact rational_MulDiv.mono _ _ _ _)
   | (with_reducible exact LeO.refl _)
   | (with_reducible exact LeO.none _)
   | (with_reducible refine LeO.ite ?_ ?_)
   | (with_reducible refine LeO.bind ?_ (fun _ => ?_))
   | exact ih0 _ _ _ _ _ _
   | exact cadence_Usable.mono _ _ _
   | exact rational_MulDiv.mono _ _ _ _
   | exact LeO.none _
   | refine LeO.ite ?_ ?_
   | refine LeO.bind ?_ (fun _ => ?_)
set_option maxHeartbeats 8000000 in
set_option maxRecDepth 100000 in
theorem cadence_Frame.calls (k : Nat) (a0 : Int) (a1_0 : Int) (a1_1 : Int) (a2_0 : Int) (a2_1 : Int) (r1 : Int) (r2 : Int) (w : World) (h : cadence_Frame.f k a0 a1_0 a1_1 a2_0 a2_1 = some (r1, r2)) :
  Calls Try.prog 22 #[.int .i64 a0, .agg #[.int .i64 a1_0, .int .i64 a1_1], .agg #[.int .i64 a2_0, .int .i64 a2_1]] w fun e w' => e = .returned (.tuple #[.int .i64 r1, .int .i64 r2]) ∧ Below w.heap.size w w' := by
 have hu23 := Try.underlying23
 have HB := Aside0.mk (Below.refl w.heap.size w)
 have H : ((cadence_Usable.f k a1_0 a1_1).bind fun t123 => (if t123 = true then ((cadence_Usable.f k a2_0 a2_1).bind fun t124 => (cadence_Frame.j0 k a0 (!t124) a1_0 a1_1 a2_0 a2_1)) else (cadence_Frame.j0 k a0 true a1_0 a1_1 a2_0 a2_1))) = some (r1, r2) := h
 clear h
 have HC4 := Aside0.mk H
 clear H
 go_enter Try.func22, Try.ntmps22
 go_upto_region 1 with (first | ((with_reducible refine xD (N := 4) rfl ?_); refine box_event ?hg (N := 4) ?hd (cs := #[.int .i64 a1_0, .int .i64 a1_1]) (t := 23) ?hr ?_; (case hd => rfl); (case hg => rfl); (case hr => first | (go_simp; done) | (go_simp; rfl)); intro gb121 hg w5 hbox hb; have n0_ := Aside0.mk (zT (by repeat (first | (with_reducible first | exact HB.out | apply zA | apply zN | apply zD) | exact HB.out)) hb); have n1_ := Aside0.mk (hbox); have n2_ := Aside0.mk ((by rw [hg]; exact (zS (by repeat (first | (with_reducible first | exact HB.out | apply zA | apply zN | apply zD) | exact HB.out))) : w.heap.size ≤ gb121)); have n3_ := n2_; clear HB; have HB := n0_; have BK121 := n1_; have GW121 := n2_; have GE121 := n3_; clear n0_ n1_ n2_ n3_; clear hb hbox hg) | ((with_reducible refine xD (N := 5) rfl ?_); refine box_event ?hg (N := 5) ?hd (cs := #[.int .i64 a2_0, .int .i64 a2_1]) (t := 23) ?hr ?_; (case hd => rfl); (case hg => rfl); (case hr => first | (go_simp; done) | (go_simp; rfl)); intro gb122 hg w6 hbox hb; have n0_ := Aside0.mk (yB (g := gb121) (o := .cells #[.int .i64 a1_0, .int .i64 a1_1] 23 (0, 0)) (by (with_reducible repeat (first | refine yN ?_ _ | refine yD ?_ | refine yA ?_ _)); exact BK121.out) hb); have n1_ := Aside0.mk (zT (by repeat (first | (with_reducible first | exact HB.out | apply zA | apply zN | apply zD | refine zP ?_ GE121.out) | exact HB.out)) hb); have n2_ := Aside0.mk (hbox); have n3_ := Aside0.mk ((by rw [hg]; exact (zS (by repeat (first | (with_reducible first | exact HB.out | apply zA | apply zN | apply zD | refine zP ?_ GE121.out) | exact HB.out))) : w.heap.size ≤ gb122)); have n4_ := n3_; have n5_ := Aside0.mk ((by rw [hg]; exact Nat.ne_of_lt (blk_lt (g := gb121) (o := .cells #[.int .i64 a1_0, .int .i64 a1_1] 23 (0, 0)) (by (with_reducible repeat (first | refine yN ?_ _ | refine yD ?_ | refine yA ?_ _)); exact BK121.out)) : gb121 ≠ gb122)); have n6_ := Aside0.mk ((by rw [hg]; exact Nat.ne_of_gt (blk_lt (g := gb121) (o := .cells #[.int .i64 a1_0, .int .i64 a1_1] 23 (0, 0)) (by (with_reducible repeat (first | refine yN ?_ _ | refine yD ?_ | refine yA ?_ _)); exact BK121.out)) : gb122 ≠ gb121)); clear BK121; clear HB; have BK121 := n0_; have HB := n1_; have BK122 := n2_; have GW122 := n3_; have GE122 := n4_; have NB121_122 := n5_; have NB122_121 := n6_; clear n0_ n1_ n2_ n3_ n4_ n5_ n6_; clear hb hbox hg))
 (try simp only [Act.put, sA, sZ, sS])
 go_cut [18] (fun v18 wc => ∃ (kq : Nat) (x18_3 : Bool), v18 = .bool x18_3 ∧ Aside0 (cadence_Frame.j0 kq a0 x18_3 a1_0 a1_1 a2_0 a2_1 = some (r1, r2)) ∧ Aside0 (kq ≤ k) ∧ Aside0 (wc.heap[gb121]? = some (.cells #[.int .i64 a1_0, .int .i64 a1_1] 23 (0, 0))) ∧ Aside0 (wc.heap[gb122]? = some (.cells #[.int .i64 a2_0, .int .i64 a2_1] 23 (0, 0))) ∧ Aside0 (Below w.heap.size w wc))
 case first =>
  have H := HC4.out
  clear HC4
  replace H := Option.bind_eq_some_iff.mp H
  obtain ⟨t123, A70, H⟩ := H
  replace H : (if t123 = true then ((cadence_Usable.f k a2_0 a2_1).bind fun t124 => (cadence_Frame.j0 k a0 (!t124) a1_0 a1_1 a2_0 a2_1)) else (cadence_Frame.j0 k a0 true a1_0 a1_1 a2_0 a2_1)) = some (r1, r2) := H
  have A7 := Aside0.mk A70
  clear A70
  by_cases c8 : t123 = true
  ·subst c8
   have H1 : ((cadence_Usable.f k a2_0 a2_1).bind fun t124 => (cadence_Frame.j0 k a0 (!t124) a1_0 a1_1 a2_0 a2_1)) = some (r1, r2) := by rw [if_pos rfl] at H; exact H
   clear H
   have H := H1
   clear H1
   replace H := Option.bind_eq_some_iff.mp H
   obtain ⟨t124, A90, H⟩ := H
   replace H : (cadence_Frame.j0 k a0 (!t124) a1_0 a1_1 a2_0 a2_1) = some (r1, r2) := H
   have A9 := Aside0.mk A90
   clear A90
   have H' := Aside0.mk H
   clear H
   have hnb10 := NB121_122.out
   have hnc10 := NB122_121.out
   have hcz11_0 : w6.cell? ⟨gb121, 0, none⟩ = some (.int .i64 a1_0) := (blk_cell BK121.out 0).trans rfl
   have hcz11_1 : w6.cell? ⟨gb121, 1, none⟩ = some (.int .i64 a1_1) := (blk_cell BK121.out 1).trans rfl
   have hfz11_0 := blk_frozen BK121.out 0
   have hfz11_1 := blk_frozen BK121.out 1
   go_wp2_with (first | ((with_reducible refine xC (f := 19) rfl ?_); refine goesL_ (some 12) rfl rfl Try.func19 (by kernel_rfl) rfl #[.agg #[.int .i64 a1_0, .int .i64 a1_1]] rfl (by (try simp only [List.map_toArray, List.map_cons, List.map_nil]); first | done | rfl | (simp only [List.length_drop, List.length_take]; rfl)) ?_; (with_reducible refine (cadence_Usable.calls k a1_0 a1_1 true _ A7.out).mono ?_); rintro e w12 ⟨rfl, hb⟩; refine ⟨_, rfl, ?_⟩; have n0_ := Aside0.mk (yB (g := gb121) (o := .cells #[.int .i64 a1_0, .int .i64 a1_1] 23 (0, 0)) (by (with_reducible repeat (first | refine yN ?_ _ | refine yD ?_ | refine yA ?_ _)); exact BK121.out) hb); have n1_ := Aside0.mk (yB (g := gb122) (o := .cells #[.int .i64 a2_0, .int .i64 a2_1] 23 (0, 0)) (by (with_reducible repeat (first | refine yN ?_ _ | refine yD ?_ | refine yA ?_ _)); exact BK122.out) hb); have n2_ := Aside0.mk (zT (by repeat (first | (with_reducible first | exact HB.out | apply zA | apply zN | apply zD | refine zP ?_ GE121.out | refine zP ?_ GE122.out) | exact HB.out)) hb); clear BK121; clear BK122; clear HB; have BK121 := n0_; have BK122 := n1_; have HB := n2_; clear n0_ n1_ n2_; (try clear hb); (try clear hb2); (try clear hk); (try clear hi); have hcz13_0 : w12.cell? ⟨gb122, 0, none⟩ = some (.int .i64 a2_0) := (blk_cell BK122.out 0).trans rfl; have hcz13_1 : w12.cell? ⟨gb122, 1, none⟩ = some (.int .i64 a2_1) := (blk_cell BK122.out 1).trans rfl; have hfz13_0 := blk_frozen BK122.out 0; have hfz13_1 := blk_frozen BK122.out 1) | (go_at_call 19; (with_reducible refine (cadence_Usable.calls k a2_0 a2_1 t124 _ A9.out).mono ?_); rintro e w14 ⟨rfl, hb⟩; have n0_ := Aside0.mk (yB (g := gb121) (o := .cells #[.int .i64 a1_0, .int .i64 a1_1] 23 (0, 0)) (by (with_reducible repeat (first | refine yN ?_ _ | refine yD ?_ | refine yA ?_ _)); exact BK121.out) hb); have n1_ := Aside0.mk (yB (g := gb122) (o := .cells #[.int .i64 a2_0, .int .i64 a2_1] 23 (0, 0)) (by (with_reducible repeat (first | refine yN ?_ _ | refine yD ?_ | refine yA ?_ _)); exact BK122.out) hb); have n2_ := Aside0.mk (zT (by repeat (first | (with_reducible first | exact HB.out | apply zA | apply zN | apply zD | refine zP ?_ GE121.out | refine zP ?_ GE122.out) | exact HB.out)) hb); clear BK121; clear BK122; clear HB; have BK121 := n0_; have BK122 := n1_; have HB := n2_; clear n0_ n1_ n2_; (try clear hb); (try clear hb2); (try clear hk); (try clear hi)))
   go_meet
   case rel => exact ⟨_, (!t124), (by first | rfl | (simp; done) | (simp [*]; done)), H', ⟨by first | omega | exact Nat.le_refl _⟩, ⟨by (with_reducible repeat (first | refine yN ?_ _ | refine yD ?_ | refine yA ?_ _)); exact BK121.out⟩, ⟨by (with_reducible repeat (first | refine yN ?_ _ | refine yD ?_ | refine yA ?_ _)); exact BK122.out⟩, ⟨by repeat (first | (with_reducible first | exact HB.out | apply zA | apply zN | apply zD | refine zP ?_ GE121.out | refine zP ?_ GE122.out) | exact HB.out)⟩⟩
  ·replace c8 := Bool.eq_false_iff.mpr c8
   subst c8
   have H1 : (cadence_Frame.j0 k a0 true a1_0 a1_1 a2_0 a2_1) = some (r1, r2) := by rw [if_neg (show ¬ (false = true) by decide)] at H; exact H
   clear H
   have H := H1
   clear H1
   have H' := Aside0.mk H
   clear H
   have hnb15 := NB121_122.out
   have hnc15 := NB122_121.out
   have hcz16_0 : w6.cell? ⟨gb121, 0, none⟩ = some (.int .i64 a1_0) := (blk_cell BK121.out 0).trans rfl
   have hcz16_1 : w6.cell? ⟨gb121, 1, none⟩ = some (.int .i64 a1_1) := (blk_cell BK121.out 1).trans rfl
   have hfz16_0 := blk_frozen BK121.out 0
   have hfz16_1 := blk_frozen BK121.out 1
   go_wp2_with (first | ((with_reducible refine xC (f := 19) rfl ?_); refine goesL_ (some 12) rfl rfl Try.func19 (by kernel_rfl) rfl #[.agg #[.int .i64 a1_0, .int .i64 a1_1]] rfl (by (try simp only [List.map_toArray, List.map_cons, List.map_nil]); first | done | rfl | (simp only [List.length_drop, List.length_take]; rfl)) ?_; (with_reducible refine (cadence_Usable.calls k a1_0 a1_1 false _ A7.out).mono ?_); rintro e w17 ⟨rfl, hb⟩; refine ⟨_, rfl, ?_⟩; have n0_ := Aside0.mk (yB (g := gb121) (o := .cells #[.int .i64 a1_0, .int .i64 a1_1] 23 (0, 0)) (by (with_reducible repeat (first | refine yN ?_ _ | refine yD ?_ | refine yA ?_ _)); exact BK121.out) hb); have n1_ := Aside0.mk (yB (g := gb122) (o := .cells #[.int .i64 a2_0, .int .i64 a2_1] 23 (0, 0)) (by (with_reducible repeat (first | refine yN ?_ _ | refine yD ?_ | refine yA ?_ _)); exact BK122.out) hb); have n2_ := Aside0.mk (zT (by repeat (first | (with_reducible first | exact HB.out | apply zA | apply zN | apply zD | refine zP ?_ GE121.out | refine zP ?_ GE122.out) | exact HB.out)) hb); clear BK121; clear BK122; clear HB; have BK121 := n0_; have BK122 := n1_; have HB := n2_; clear n0_ n1_ n2_; (try clear hb); (try clear hb2); (try clear hk); (try clear hi)))
   go_meet
   case rel => exact ⟨_, (true), (by first | rfl | (simp; done) | (simp [*]; done)), H', ⟨by first | omega | exact Nat.le_refl _⟩, ⟨by (with_reducible repeat (first | refine yN ?_ _ | refine yD ?_ | refine yA ?_ _)); exact BK121.out⟩, ⟨by (with_reducible repeat (first | refine yN ?_ _ | refine yD ?_ | refine yA ?_ _)); exact BK122.out⟩, ⟨by repeat (first | (with_reducible first | exact HB.out | apply zA | apply zN | apply zD | refine zP ?_ GE121.out | refine zP ?_ GE122.out) | exact HB.out)⟩⟩
 case rest =>
  clear HC4
  (try clear c1);(try clear c2);(try clear p2);(try clear c8);(try clear c10);(try clear c15);(try clear hcz11_0);(try clear hcz11_1);(try clear hcz13_0);(try clear hcz13_1);(try clear hcz16_0);(try clear hcz16_1);(try clear hfz11_0);(try clear hfz11_1);(try clear hfz13_0);(try clear hfz13_1);(try clear hfz16_0);(try clear hfz16_1)
  obtain ⟨kq, x18_3, rfl, HA, HJ3, BK121, BK122, HB⟩ := hcut
  cases kq with
  | zero => exact absurd HA.out (by simp [cadence_Frame.j0])
  | succ kj3 =>
   have H := HA.out
   clear HA
   simp only [cadence_Frame.j0] at H
   by_cases c18 : x18_3 = true
   ·subst c18
    have H1 : (some (0, 1)) = some (r1, r2) := by rw [if_pos rfl] at H; exact H
    clear H
    have H := H1
    clear H1
    simp only [Option.some.injEq, Prod.mk.injEq] at H
    obtain ⟨rfl, rfl⟩ := H
    go_wp2
    go_ret2
    exact ⟨by first | rfl | (simp [errW_none, errW_some] <;> rfl) | (simp [*, errW_none, errW_some] <;> rfl), by repeat (first | (with_reducible first | exact HB.out | apply zA | apply zN | apply zD | refine zP ?_ GE121.out | refine zP ?_ GE122.out) | exact HB.out)⟩
   ·replace c18 := Bool.eq_false_iff.mpr c18
    subst c18
    have H1 : ((cadence_inRange.f a0).bind fun t125 => (if t125 = true then ((rational_MulDiv.f kj3 a0 (wrap64 (a2_0 * a1_1)) (wrap64 (a2_1 * a1_0))).bind fun bt126 => (if bt126.2.2 = 0 then (if bt126.1 = (-9223372036854775808) then (some (0, 2)) else (some (bt126.1, 0))) else (some (0, 2)))) else (some (0, 2)))) = some (r1, r2) := by rw [if_neg (show ¬ (false = true) by decide)] at H; exact H
    clear H
    have H := H1
    clear H1
    replace H := Option.bind_eq_some_iff.mp H
    obtain ⟨t125, A190, H⟩ := H
    replace H : (if t125 = true then ((rational_MulDiv.f kj3 a0 (wrap64 (a2_0 * a1_1)) (wrap64 (a2_1 * a1_0))).bind fun bt126 => (if bt126.2.2 = 0 then (if bt126.1 = (-9223372036854775808) then (some (0, 2)) else (some (bt126.1, 0))) else (some (0, 2)))) else (some (0, 2))) = some (r1, r2) := H
    have A19 := Aside0.mk A190
    clear A190
    by_cases c20 : t125 = true
    ·subst c20
     have H1 : ((rational_MulDiv.f kj3 a0 (wrap64 (a2_0 * a1_1)) (wrap64 (a2_1 * a1_0))).bind fun bt126 => (if bt126.2.2 = 0 then (if bt126.1 = (-9223372036854775808) then (some (0, 2)) else (some (bt126.1, 0))) else (some (0, 2)))) = some (r1, r2) := by rw [if_pos rfl] at H; exact H
     clear H
     have H := H1
     clear H1
     replace H := Option.bind_eq_some_iff.mp H
     obtain ⟨⟨t126, t127, t128⟩, A210, H⟩ := H
     replace H : (if t128 = 0 then (if t126 = (-9223372036854775808) then (some (0, 2)) else (some (t126, 0))) else (some (0, 2))) = some (r1, r2) := H
     have A21 := Aside0.mk A210
     clear A210
     by_cases c22 : t128 = 0
     ·rw [if_pos c22] at H
      have c22b0 : (t128 == 0) = true := beq_iff_eq.mpr c22
      have c22b1 : (t128 != 0) = false := bne_eq_false_iff_eq.mpr c22
      clear c22
      by_cases c23 : t126 = (-9223372036854775808)
      ·rw [if_pos c23] at H
       have c23b0 : (t126 == (-9223372036854775808)) = true := beq_iff_eq.mpr c23
       have c23b1 : (t126 != (-9223372036854775808)) = false := bne_eq_false_iff_eq.mpr c23
       clear c23
       simp only [Option.some.injEq, Prod.mk.injEq] at H
       obtain ⟨rfl, rfl⟩ := H
       go_wp2_with (first | ((with_reducible refine xC (f := 48) rfl ?_); refine goesL_ (some 20) rfl rfl Try.func48 (by kernel_rfl) rfl #[.int .i64 a0] rfl (by (try simp only [List.map_toArray, List.map_cons, List.map_nil]); first | done | rfl | (simp only [List.length_drop, List.length_take]; rfl)) ?_; (with_reducible refine (cadence_inRange.calls a0 true _ A19.out).mono ?_); rintro e w' ⟨rfl, ⟨nd, rfl⟩⟩; refine ⟨_, rfl, ?_⟩; have hnb24 := NB122_121.out; have hnc24 := NB121_122.out; have hcz25_0 : wc.cell? ⟨gb122, 0, none⟩ = some (.int .i64 a2_0) := (blk_cell BK122.out 0).trans rfl; have hcz25_1 : wc.cell? ⟨gb122, 1, none⟩ = some (.int .i64 a2_1) := (blk_cell BK122.out 1).trans rfl; have hfz25_0 := blk_frozen BK122.out 0; have hfz25_1 := blk_frozen BK122.out 1; have hcz26_0 : wc.cell? ⟨gb121, 0, none⟩ = some (.int .i64 a1_0) := (blk_cell BK121.out 0).trans rfl; have hcz26_1 : wc.cell? ⟨gb121, 1, none⟩ = some (.int .i64 a1_1) := (blk_cell BK121.out 1).trans rfl; have hfz26_0 := blk_frozen BK121.out 0; have hfz26_1 := blk_frozen BK121.out 1) | ((with_reducible refine xC (f := 49) rfl ?_); refine goesL_ (some 34) rfl rfl Try.func49 (by kernel_rfl) rfl #[.int .i64 a0, .int .i64 (wrap64 (a2_0 * a1_1)), .int .i64 (wrap64 (a2_1 * a1_0))] rfl (by (try simp only [List.map_toArray, List.map_cons, List.map_nil]); first | done | rfl | (simp only [List.length_drop, List.length_take]; rfl)) ?_; (with_reducible refine (rational_MulDiv.calls kj3 a0 (wrap64 (a2_0 * a1_1)) (wrap64 (a2_1 * a1_0)) t126 t127 t128 _ A21.out).mono ?_); rintro e w27 ⟨rfl, hb⟩; refine ⟨_, rfl, ?_⟩; have n0_ := Aside0.mk (yB (g := gb121) (o := .cells #[.int .i64 a1_0, .int .i64 a1_1] 23 (0, 0)) (by (with_reducible repeat (first | refine yN ?_ _ | refine yD ?_ | refine yA ?_ _)); exact BK121.out) hb); have n1_ := Aside0.mk (yB (g := gb122) (o := .cells #[.int .i64 a2_0, .int .i64 a2_1] 23 (0, 0)) (by (with_reducible repeat (first | refine yN ?_ _ | refine yD ?_ | refine yA ?_ _)); exact BK122.out) hb); have n2_ := Aside0.mk (zT (by repeat (first | (with_reducible first | exact HB.out | apply zA | apply zN | apply zD | refine zP ?_ GE121.out | refine zP ?_ GE122.out) | exact HB.out)) hb); clear BK121; clear BK122; clear HB; have BK121 := n0_; have BK122 := n1_; have HB := n2_; clear n0_ n1_ n2_; (try clear hb); (try clear hb2); (try clear hk); (try clear hi)))
       go_ret2
       exact ⟨by first | rfl | (simp [errW_none, errW_some] <;> rfl) | (simp [*, errW_none, errW_some] <;> rfl), by repeat (first | (with_reducible first | exact HB.out | apply zA | apply zN | apply zD | refine zP ?_ GE121.out | refine zP ?_ GE122.out) | exact HB.out)⟩
      ·rw [if_neg c23] at H
       have c23b0 : (t126 == (-9223372036854775808)) = false := beq_eq_false_iff_ne.mpr c23
       have c23b1 : (t126 != (-9223372036854775808)) = true := bne_iff_ne.mpr c23
       simp only [Option.some.injEq, Prod.mk.injEq] at H
       obtain ⟨rfl, rfl⟩ := H
       go_wp2_with (first | ((with_reducible refine xC (f := 48) rfl ?_); refine goesL_ (some 20) rfl rfl Try.func48 (by kernel_rfl) rfl #[.int .i64 a0] rfl (by (try simp only [List.map_toArray, List.map_cons, List.map_nil]); first | done | rfl | (simp only [List.length_drop, List.length_take]; rfl)) ?_; (with_reducible refine (cadence_inRange.calls a0 true _ A19.out).mono ?_); rintro e w' ⟨rfl, ⟨nd, rfl⟩⟩; refine ⟨_, rfl, ?_⟩; have hnb28 := NB122_121.out; have hnc28 := NB121_122.out; have hcz29_0 : wc.cell? ⟨gb122, 0, none⟩ = some (.int .i64 a2_0) := (blk_cell BK122.out 0).trans rfl; have hcz29_1 : wc.cell? ⟨gb122, 1, none⟩ = some (.int .i64 a2_1) := (blk_cell BK122.out 1).trans rfl; have hfz29_0 := blk_frozen BK122.out 0; have hfz29_1 := blk_frozen BK122.out 1; have hcz30_0 : wc.cell? ⟨gb121, 0, none⟩ = some (.int .i64 a1_0) := (blk_cell BK121.out 0).trans rfl; have hcz30_1 : wc.cell? ⟨gb121, 1, none⟩ = some (.int .i64 a1_1) := (blk_cell BK121.out 1).trans rfl; have hfz30_0 := blk_frozen BK121.out 0; have hfz30_1 := blk_frozen BK121.out 1) | ((with_reducible refine xC (f := 49) rfl ?_); refine goesL_ (some 34) rfl rfl Try.func49 (by kernel_rfl) rfl #[.int .i64 a0, .int .i64 (wrap64 (a2_0 * a1_1)), .int .i64 (wrap64 (a2_1 * a1_0))] rfl (by (try simp only [List.map_toArray, List.map_cons, List.map_nil]); first | done | rfl | (simp only [List.length_drop, List.length_take]; rfl)) ?_; (with_reducible refine (rational_MulDiv.calls kj3 a0 (wrap64 (a2_0 * a1_1)) (wrap64 (a2_1 * a1_0)) t126 t127 t128 _ A21.out).mono ?_); rintro e w31 ⟨rfl, hb⟩; refine ⟨_, rfl, ?_⟩; have n0_ := Aside0.mk (yB (g := gb121) (o := .cells #[.int .i64 a1_0, .int .i64 a1_1] 23 (0, 0)) (by (with_reducible repeat (first | refine yN ?_ _ | refine yD ?_ | refine yA ?_ _)); exact BK121.out) hb); have n1_ := Aside0.mk (yB (g := gb122) (o := .cells #[.int .i64 a2_0, .int .i64 a2_1] 23 (0, 0)) (by (with_reducible repeat (first | refine yN ?_ _ | refine yD ?_ | refine yA ?_ _)); exact BK122.out) hb); have n2_ := Aside0.mk (zT (by repeat (first | (with_reducible first | exact HB.out | apply zA | apply zN | apply zD | refine zP ?_ GE121.out | refine zP ?_ GE122.out) | exact HB.out)) hb); clear BK121; clear BK122; clear HB; have BK121 := n0_; have BK122 := n1_; have HB := n2_; clear n0_ n1_ n2_; (try clear hb); (try clear hb2); (try clear hk); (try clear hi)))
       go_ret2
       exact ⟨by first | rfl | (simp [errW_none, errW_some] <;> rfl) | (simp [*, errW_none, errW_some] <;> rfl), by repeat (first | (with_reducible first | exact HB.out | apply zA | apply zN | apply zD | refine zP ?_ GE121.out | refine zP ?_ GE122.out) | exact HB.out)⟩
     ·rw [if_neg c22] at H
      have c22b0 : (t128 == 0) = false := beq_eq_false_iff_ne.mpr c22
      have c22b1 : (t128 != 0) = true := bne_iff_ne.mpr c22
      simp only [Option.some.injEq, Prod.mk.injEq] at H
      obtain ⟨rfl, rfl⟩ := H
      go_wp2_with (first | ((with_reducible refine xC (f := 48) rfl ?_); refine goesL_ (some 20) rfl rfl Try.func48 (by kernel_rfl) rfl #[.int .i64 a0] rfl (by (try simp only [List.map_toArray, List.map_cons, List.map_nil]); first | done | rfl | (simp only [List.length_drop, List.length_take]; rfl)) ?_; (with_reducible refine (cadence_inRange.calls a0 true _ A19.out).mono ?_); rintro e w' ⟨rfl, ⟨nd, rfl⟩⟩; refine ⟨_, rfl, ?_⟩; have hnb32 := NB122_121.out; have hnc32 := NB121_122.out; have hcz33_0 : wc.cell? ⟨gb122, 0, none⟩ = some (.int .i64 a2_0) := (blk_cell BK122.out 0).trans rfl; have hcz33_1 : wc.cell? ⟨gb122, 1, none⟩ = some (.int .i64 a2_1) := (blk_cell BK122.out 1).trans rfl; have hfz33_0 := blk_frozen BK122.out 0; have hfz33_1 := blk_frozen BK122.out 1; have hcz34_0 : wc.cell? ⟨gb121, 0, none⟩ = some (.int .i64 a1_0) := (blk_cell BK121.out 0).trans rfl; have hcz34_1 : wc.cell? ⟨gb121, 1, none⟩ = some (.int .i64 a1_1) := (blk_cell BK121.out 1).trans rfl; have hfz34_0 := blk_frozen BK121.out 0; have hfz34_1 := blk_frozen BK121.out 1) | ((with_reducible refine xC (f := 49) rfl ?_); refine goesL_ (some 34) rfl rfl Try.func49 (by kernel_rfl) rfl #[.int .i64 a0, .int .i64 (wrap64 (a2_0 * a1_1)), .int .i64 (wrap64 (a2_1 * a1_0))] rfl (by (try simp only [List.map_toArray, List.map_cons, List.map_nil]); first | done | rfl | (simp only [List.length_drop, List.length_take]; rfl)) ?_; (with_reducible refine (rational_MulDiv.calls kj3 a0 (wrap64 (a2_0 * a1_1)) (wrap64 (a2_1 * a1_0)) t126 t127 t128 _ A21.out).mono ?_); rintro e w35 ⟨rfl, hb⟩; refine ⟨_, rfl, ?_⟩; have n0_ := Aside0.mk (yB (g := gb121) (o := .cells #[.int .i64 a1_0, .int .i64 a1_1] 23 (0, 0)) (by (with_reducible repeat (first | refine yN ?_ _ | refine yD ?_ | refine yA ?_ _)); exact BK121.out) hb); have n1_ := Aside0.mk (yB (g := gb122) (o := .cells #[.int .i64 a2_0, .int .i64 a2_1] 23 (0, 0)) (by (with_reducible repeat (first | refine yN ?_ _ | refine yD ?_ | refine yA ?_ _)); exact BK122.out) hb); have n2_ := Aside0.mk (zT (by repeat (first | (with_reducible first | exact HB.out | apply zA | apply zN | apply zD | refine zP ?_ GE121.out | refine zP ?_ GE122.out) | exact HB.out)) hb); clear BK121; clear BK122; clear HB; have BK121 := n0_; have BK122 := n1_; have HB := n2_; clear n0_ n1_ n2_; (try clear hb); (try clear hb2); (try clear hk); (try clear hi)))
      go_ret2
      exact ⟨by first | rfl | (simp [errW_none, errW_some] <;> rfl) | (simp [*, errW_none, errW_some] <;> rfl), by repeat (first | (with_reducible first | exact HB.out | apply zA | apply zN | apply zD | refine zP ?_ GE121.out | refine zP ?_ GE122.out) | exact HB.out)⟩
    ·replace c20 := Bool.eq_false_iff.mpr c20
     subst c20
     have H1 : (some (0, 2)) = some (r1, r2) := by rw [if_neg (show ¬ (false = true) by decide)] at H; exact H
     clear H
     have H := H1
     clear H1
     simp only [Option.some.injEq, Prod.mk.injEq] at H
     obtain ⟨rfl, rfl⟩ := H
     go_wp2_with (first | ((with_reducible refine xC (f := 48) rfl ?_); refine goesL_ (some 20) rfl rfl Try.func48 (by kernel_rfl) rfl #[.int .i64 a0] rfl (by (try simp only [List.map_toArray, List.map_cons, List.map_nil]); first | done | rfl | (simp only [List.length_drop, List.length_take]; rfl)) ?_; (with_reducible refine (cadence_inRange.calls a0 false _ A19.out).mono ?_); rintro e w' ⟨rfl, ⟨nd, rfl⟩⟩; refine ⟨_, rfl, ?_⟩))
     go_ret2
     exact ⟨by first | rfl | (simp [errW_none, errW_some] <;> rfl) | (simp [*, errW_none, errW_some] <;> rfl), by repeat (first | (with_reducible first | exact HB.out | apply zA | apply zN | apply zD | refine zP ?_ GE121.out | refine zP ?_ GE122.out) | exact HB.out)⟩

/-! ### cadence_Sample: function 25 -/
def cadence_Sample.f (k : Nat) (a0 : Int) (a1_0 : Int) (a1_1 : Int) : Option (Int × Int) := (cadence_Usable.f k a1_0 a1_1).bind fun t130 => (if t130 = true then ((cadence_inRange.f a0).bind fun t131 => (if t131 = true then ((rational_MulDiv.f k a0 (wrap64 (96000 * a1_1)) (wrap64 (2 * a1_0))).bind fun bt132 => (if bt132.2.1 ≥ a1_0 then (some (wrap64 (bt132.1 + 1), 0)) else (some (bt132.1, 0)))) else (some (0, 2)))) else (some (0, 1)))
theorem cadence_Sample.mono : ∀ a0 a1 a2 k, LeO (cadence_Sample.f k a0 a1 a2) (cadence_Sample.f (k + 1) a0 a1 a2) := by
 intro a0 a1 a2 k
 unfold cadence_Sample.f
 repeat' first
   | (with_reducible exact cadence_Usable.mono _ _ _)
   | (with_reducible exact rational_MulDiv.mono _ _ _ _)
   | (with_reducible exact LeO.refl _)
   | (with_reducible exact LeO.none _)
   | (with_reducible refine LeO.ite ?_ ?_)
   | (with_reducible refine LeO.bind ?_ (fun _ => ?_))
   | exact cadence_Usable.mono _ _ _
   | exact rational_MulDiv.mono _ _ _ _
   | exact LeO.none _
   | refine LeO.ite ?_ ?_
   | refine LeO.bind ?_ (fun _ => ?_)
set_option maxHeartbeats 8000000 in
set_option maxRecDepth 100000 in
theorem cadence_Sample.calls (k : Nat) (a0 : Int) (a1_0 : Int) (a1_1 : Int) (r1 : Int) (r2 : Int) (w : World) (h : cadence_Sample.f k a0 a1_0 a1_1 = some (r1, r2)) :
  Calls Try.prog 25 #[.int .i64 a0, .agg #[.int .i64 a1_0, .int .i64 a1_1]] w fun e w' => e = .returned (.tuple #[.int .i64 r1, .int .i64 r2]) ∧ Below w.heap.size w w' := by
 have hu23 := Try.underlying23
 have HB := Aside0.mk (Below.refl w.heap.size w)
 have H : ((cadence_Usable.f k a1_0 a1_1).bind fun t130 => (if t130 = true then ((cadence_inRange.f a0).bind fun t131 => (if t131 = true then ((rational_MulDiv.f k a0 (wrap64 (96000 * a1_1)) (wrap64 (2 * a1_0))).bind fun bt132 => (if bt132.2.1 ≥ a1_0 then (some (wrap64 (bt132.1 + 1), 0)) else (some (bt132.1, 0)))) else (some (0, 2)))) else (some (0, 1)))) = some (r1, r2) := h
 clear h
 replace H := Option.bind_eq_some_iff.mp H
 obtain ⟨t130, A30, H⟩ := H
 replace H : (if t130 = true then ((cadence_inRange.f a0).bind fun t131 => (if t131 = true then ((rational_MulDiv.f k a0 (wrap64 (96000 * a1_1)) (wrap64 (2 * a1_0))).bind fun bt132 => (if bt132.2.1 ≥ a1_0 then (some (wrap64 (bt132.1 + 1), 0)) else (some (bt132.1, 0)))) else (some (0, 2)))) else (some (0, 1))) = some (r1, r2) := H
 have A3 := Aside0.mk A30
 clear A30
 by_cases c4 : t130 = true
 ·subst c4
  have H1 : ((cadence_inRange.f a0).bind fun t131 => (if t131 = true then ((rational_MulDiv.f k a0 (wrap64 (96000 * a1_1)) (wrap64 (2 * a1_0))).bind fun bt132 => (if bt132.2.1 ≥ a1_0 then (some (wrap64 (bt132.1 + 1), 0)) else (some (bt132.1, 0)))) else (some (0, 2)))) = some (r1, r2) := by rw [if_pos rfl] at H; exact H
  clear H
  have H := H1
  clear H1
  replace H := Option.bind_eq_some_iff.mp H
  obtain ⟨t131, A50, H⟩ := H
  replace H : (if t131 = true then ((rational_MulDiv.f k a0 (wrap64 (96000 * a1_1)) (wrap64 (2 * a1_0))).bind fun bt132 => (if bt132.2.1 ≥ a1_0 then (some (wrap64 (bt132.1 + 1), 0)) else (some (bt132.1, 0)))) else (some (0, 2))) = some (r1, r2) := H
  have A5 := Aside0.mk A50
  clear A50
  by_cases c6 : t131 = true
  ·subst c6
   have H1 : ((rational_MulDiv.f k a0 (wrap64 (96000 * a1_1)) (wrap64 (2 * a1_0))).bind fun bt132 => (if bt132.2.1 ≥ a1_0 then (some (wrap64 (bt132.1 + 1), 0)) else (some (bt132.1, 0)))) = some (r1, r2) := by rw [if_pos rfl] at H; exact H
   clear H
   have H := H1
   clear H1
   replace H := Option.bind_eq_some_iff.mp H
   obtain ⟨⟨t132, t133, t134⟩, A70, H⟩ := H
   replace H : (if t133 ≥ a1_0 then (some (wrap64 (t132 + 1), 0)) else (some (t132, 0))) = some (r1, r2) := H
   have A7 := Aside0.mk A70
   clear A70
   by_cases c8 : t133 ≥ a1_0
   ·rw [if_pos c8] at H
    have c8b0 : decide (a1_0 ≤ t133) = true := decide_eq_true c8
    clear c8
    simp only [Option.some.injEq, Prod.mk.injEq] at H
    obtain ⟨rfl, rfl⟩ := H
    go_enter Try.func25, Try.ntmps25
    go_wp2_with (first | ((with_reducible refine xD (N := 3) rfl ?_); refine box_event ?hg (N := 3) ?hd (cs := #[.int .i64 a1_0, .int .i64 a1_1]) (t := 23) ?hr ?_; (case hd => rfl); (case hg => rfl); (case hr => first | (go_simp; done) | (go_simp; rfl)); intro gb129 hg w9 hbox hb; have n0_ := Aside0.mk (zT (by repeat (first | (with_reducible first | exact HB.out | apply zA | apply zN | apply zD) | exact HB.out)) hb); have n1_ := Aside0.mk (hbox); have n2_ := Aside0.mk ((by rw [hg]; exact (zS (by repeat (first | (with_reducible first | exact HB.out | apply zA | apply zN | apply zD) | exact HB.out))) : w.heap.size ≤ gb129)); have n3_ := n2_; clear HB; have HB := n0_; have BK129 := n1_; have GW129 := n2_; have GE129 := n3_; clear n0_ n1_ n2_ n3_; clear hb hbox hg; have hcz10_0 : w9.cell? ⟨gb129, 0, none⟩ = some (.int .i64 a1_0) := (blk_cell BK129.out 0).trans rfl; have hcz10_1 : w9.cell? ⟨gb129, 1, none⟩ = some (.int .i64 a1_1) := (blk_cell BK129.out 1).trans rfl; have hfz10_0 := blk_frozen BK129.out 0; have hfz10_1 := blk_frozen BK129.out 1) | ((with_reducible refine xC (f := 19) rfl ?_); refine goesL_ (some 10) rfl rfl Try.func19 (by kernel_rfl) rfl #[.agg #[.int .i64 a1_0, .int .i64 a1_1]] rfl (by (try simp only [List.map_toArray, List.map_cons, List.map_nil]); first | done | rfl | (simp only [List.length_drop, List.length_take]; rfl)) ?_; (with_reducible refine (cadence_Usable.calls k a1_0 a1_1 true _ A3.out).mono ?_); rintro e w11 ⟨rfl, hb⟩; refine ⟨_, rfl, ?_⟩; have n0_ := Aside0.mk (yB (g := gb129) (o := .cells #[.int .i64 a1_0, .int .i64 a1_1] 23 (0, 0)) (by (with_reducible repeat (first | refine yN ?_ _ | refine yD ?_ | refine yA ?_ _)); exact BK129.out) hb); have n1_ := Aside0.mk (zT (by repeat (first | (with_reducible first | exact HB.out | apply zA | apply zN | apply zD | refine zP ?_ GE129.out) | exact HB.out)) hb); clear BK129; clear HB; have BK129 := n0_; have HB := n1_; clear n0_ n1_; (try clear hb); (try clear hb2); (try clear hk); (try clear hi)) | ((with_reducible refine xC (f := 48) rfl ?_); refine goesL_ (some 13) rfl rfl Try.func48 (by kernel_rfl) rfl #[.int .i64 a0] rfl (by (try simp only [List.map_toArray, List.map_cons, List.map_nil]); first | done | rfl | (simp only [List.length_drop, List.length_take]; rfl)) ?_; (with_reducible refine (cadence_inRange.calls a0 true _ A5.out).mono ?_); rintro e w' ⟨rfl, ⟨nd, rfl⟩⟩; refine ⟨_, rfl, ?_⟩; have hcz12_0 : w11.cell? ⟨gb129, 0, none⟩ = some (.int .i64 a1_0) := (blk_cell BK129.out 0).trans rfl; have hcz12_1 : w11.cell? ⟨gb129, 1, none⟩ = some (.int .i64 a1_1) := (blk_cell BK129.out 1).trans rfl; have hfz12_0 := blk_frozen BK129.out 0; have hfz12_1 := blk_frozen BK129.out 1) | ((with_reducible refine xC (f := 49) rfl ?_); refine goesL_ (some 23) rfl rfl Try.func49 (by kernel_rfl) rfl #[.int .i64 a0, .int .i64 (wrap64 (96000 * a1_1)), .int .i64 (wrap64 (2 * a1_0))] rfl (by (try simp only [List.map_toArray, List.map_cons, List.map_nil]); first | done | rfl | (simp only [List.length_drop, List.length_take]; rfl)) ?_; (with_reducible refine (rational_MulDiv.calls k a0 (wrap64 (96000 * a1_1)) (wrap64 (2 * a1_0)) t132 t133 t134 _ A7.out).mono ?_); rintro e w13 ⟨rfl, hb⟩; refine ⟨_, rfl, ?_⟩; have n0_ := Aside0.mk (yB (g := gb129) (o := .cells #[.int .i64 a1_0, .int .i64 a1_1] 23 (0, 0)) (by (with_reducible repeat (first | refine yN ?_ _ | refine yD ?_ | refine yA ?_ _)); exact BK129.out) hb); have n1_ := Aside0.mk (zT (by repeat (first | (with_reducible first | exact HB.out | apply zA | apply zN | apply zD | refine zP ?_ GE129.out) | exact HB.out)) hb); clear BK129; clear HB; have BK129 := n0_; have HB := n1_; clear n0_ n1_; (try clear hb); (try clear hb2); (try clear hk); (try clear hi); have hcz14_0 : w13.cell? ⟨gb129, 0, none⟩ = some (.int .i64 a1_0) := (blk_cell BK129.out 0).trans rfl; have hcz14_1 : w13.cell? ⟨gb129, 1, none⟩ = some (.int .i64 a1_1) := (blk_cell BK129.out 1).trans rfl; have hfz14_0 := blk_frozen BK129.out 0; have hfz14_1 := blk_frozen BK129.out 1))
    go_ret2
    exact ⟨by first | rfl | (simp [errW_none, errW_some] <;> rfl) | (simp [*, errW_none, errW_some] <;> rfl), by repeat (first | (with_reducible first | exact HB.out | apply zA | apply zN | apply zD | refine zP ?_ GE129.out) | exact HB.out)⟩
   ·rw [if_neg c8] at H
    have c8b0 : decide (a1_0 ≤ t133) = false := decide_eq_false c8
    clear c8
    simp only [Option.some.injEq, Prod.mk.injEq] at H
    obtain ⟨rfl, rfl⟩ := H
    go_enter Try.func25, Try.ntmps25
    go_wp2_with (first | ((with_reducible refine xD (N := 3) rfl ?_); refine box_event ?hg (N := 3) ?hd (cs := #[.int .i64 a1_0, .int .i64 a1_1]) (t := 23) ?hr ?_; (case hd => rfl); (case hg => rfl); (case hr => first | (go_simp; done) | (go_simp; rfl)); intro gb129 hg w15 hbox hb; have n0_ := Aside0.mk (zT (by repeat (first | (with_reducible first | exact HB.out | apply zA | apply zN | apply zD) | exact HB.out)) hb); have n1_ := Aside0.mk (hbox); have n2_ := Aside0.mk ((by rw [hg]; exact (zS (by repeat (first | (with_reducible first | exact HB.out | apply zA | apply zN | apply zD) | exact HB.out))) : w.heap.size ≤ gb129)); have n3_ := n2_; clear HB; have HB := n0_; have BK129 := n1_; have GW129 := n2_; have GE129 := n3_; clear n0_ n1_ n2_ n3_; clear hb hbox hg; have hcz16_0 : w15.cell? ⟨gb129, 0, none⟩ = some (.int .i64 a1_0) := (blk_cell BK129.out 0).trans rfl; have hcz16_1 : w15.cell? ⟨gb129, 1, none⟩ = some (.int .i64 a1_1) := (blk_cell BK129.out 1).trans rfl; have hfz16_0 := blk_frozen BK129.out 0; have hfz16_1 := blk_frozen BK129.out 1) | ((with_reducible refine xC (f := 19) rfl ?_); refine goesL_ (some 10) rfl rfl Try.func19 (by kernel_rfl) rfl #[.agg #[.int .i64 a1_0, .int .i64 a1_1]] rfl (by (try simp only [List.map_toArray, List.map_cons, List.map_nil]); first | done | rfl | (simp only [List.length_drop, List.length_take]; rfl)) ?_; (with_reducible refine (cadence_Usable.calls k a1_0 a1_1 true _ A3.out).mono ?_); rintro e w17 ⟨rfl, hb⟩; refine ⟨_, rfl, ?_⟩; have n0_ := Aside0.mk (yB (g := gb129) (o := .cells #[.int .i64 a1_0, .int .i64 a1_1] 23 (0, 0)) (by (with_reducible repeat (first | refine yN ?_ _ | refine yD ?_ | refine yA ?_ _)); exact BK129.out) hb); have n1_ := Aside0.mk (zT (by repeat (first | (with_reducible first | exact HB.out | apply zA | apply zN | apply zD | refine zP ?_ GE129.out) | exact HB.out)) hb); clear BK129; clear HB; have BK129 := n0_; have HB := n1_; clear n0_ n1_; (try clear hb); (try clear hb2); (try clear hk); (try clear hi)) | ((with_reducible refine xC (f := 48) rfl ?_); refine goesL_ (some 13) rfl rfl Try.func48 (by kernel_rfl) rfl #[.int .i64 a0] rfl (by (try simp only [List.map_toArray, List.map_cons, List.map_nil]); first | done | rfl | (simp only [List.length_drop, List.length_take]; rfl)) ?_; (with_reducible refine (cadence_inRange.calls a0 true _ A5.out).mono ?_); rintro e w' ⟨rfl, ⟨nd, rfl⟩⟩; refine ⟨_, rfl, ?_⟩; have hcz18_0 : w17.cell? ⟨gb129, 0, none⟩ = some (.int .i64 a1_0) := (blk_cell BK129.out 0).trans rfl; have hcz18_1 : w17.cell? ⟨gb129, 1, none⟩ = some (.int .i64 a1_1) := (blk_cell BK129.out 1).trans rfl; have hfz18_0 := blk_frozen BK129.out 0; have hfz18_1 := blk_frozen BK129.out 1) | ((with_reducible refine xC (f := 49) rfl ?_); refine goesL_ (some 23) rfl rfl Try.func49 (by kernel_rfl) rfl #[.int .i64 a0, .int .i64 (wrap64 (96000 * a1_1)), .int .i64 (wrap64 (2 * a1_0))] rfl (by (try simp only [List.map_toArray, List.map_cons, List.map_nil]); first | done | rfl | (simp only [List.length_drop, List.length_take]; rfl)) ?_; (with_reducible refine (rational_MulDiv.calls k a0 (wrap64 (96000 * a1_1)) (wrap64 (2 * a1_0)) t132 t133 t134 _ A7.out).mono ?_); rintro e w19 ⟨rfl, hb⟩; refine ⟨_, rfl, ?_⟩; have n0_ := Aside0.mk (yB (g := gb129) (o := .cells #[.int .i64 a1_0, .int .i64 a1_1] 23 (0, 0)) (by (with_reducible repeat (first | refine yN ?_ _ | refine yD ?_ | refine yA ?_ _)); exact BK129.out) hb); have n1_ := Aside0.mk (zT (by repeat (first | (with_reducible first | exact HB.out | apply zA | apply zN | apply zD | refine zP ?_ GE129.out) | exact HB.out)) hb); clear BK129; clear HB; have BK129 := n0_; have HB := n1_; clear n0_ n1_; (try clear hb); (try clear hb2); (try clear hk); (try clear hi); have hcz20_0 : w19.cell? ⟨gb129, 0, none⟩ = some (.int .i64 a1_0) := (blk_cell BK129.out 0).trans rfl; have hcz20_1 : w19.cell? ⟨gb129, 1, none⟩ = some (.int .i64 a1_1) := (blk_cell BK129.out 1).trans rfl; have hfz20_0 := blk_frozen BK129.out 0; have hfz20_1 := blk_frozen BK129.out 1))
    go_ret2
    exact ⟨by first | rfl | (simp [errW_none, errW_some] <;> rfl) | (simp [*, errW_none, errW_some] <;> rfl), by repeat (first | (with_reducible first | exact HB.out | apply zA | apply zN | apply zD | refine zP ?_ GE129.out) | exact HB.out)⟩
  ·replace c6 := Bool.eq_false_iff.mpr c6
   subst c6
   have H1 : (some (0, 2)) = some (r1, r2) := by rw [if_neg (show ¬ (false = true) by decide)] at H; exact H
   clear H
   have H := H1
   clear H1
   simp only [Option.some.injEq, Prod.mk.injEq] at H
   obtain ⟨rfl, rfl⟩ := H
   go_enter Try.func25, Try.ntmps25
   go_wp2_with (first | ((with_reducible refine xD (N := 3) rfl ?_); refine box_event ?hg (N := 3) ?hd (cs := #[.int .i64 a1_0, .int .i64 a1_1]) (t := 23) ?hr ?_; (case hd => rfl); (case hg => rfl); (case hr => first | (go_simp; done) | (go_simp; rfl)); intro gb129 hg w21 hbox hb; have n0_ := Aside0.mk (zT (by repeat (first | (with_reducible first | exact HB.out | apply zA | apply zN | apply zD) | exact HB.out)) hb); have n1_ := Aside0.mk (hbox); have n2_ := Aside0.mk ((by rw [hg]; exact (zS (by repeat (first | (with_reducible first | exact HB.out | apply zA | apply zN | apply zD) | exact HB.out))) : w.heap.size ≤ gb129)); have n3_ := n2_; clear HB; have HB := n0_; have BK129 := n1_; have GW129 := n2_; have GE129 := n3_; clear n0_ n1_ n2_ n3_; clear hb hbox hg; have hcz22_0 : w21.cell? ⟨gb129, 0, none⟩ = some (.int .i64 a1_0) := (blk_cell BK129.out 0).trans rfl; have hcz22_1 : w21.cell? ⟨gb129, 1, none⟩ = some (.int .i64 a1_1) := (blk_cell BK129.out 1).trans rfl; have hfz22_0 := blk_frozen BK129.out 0; have hfz22_1 := blk_frozen BK129.out 1) | ((with_reducible refine xC (f := 19) rfl ?_); refine goesL_ (some 10) rfl rfl Try.func19 (by kernel_rfl) rfl #[.agg #[.int .i64 a1_0, .int .i64 a1_1]] rfl (by (try simp only [List.map_toArray, List.map_cons, List.map_nil]); first | done | rfl | (simp only [List.length_drop, List.length_take]; rfl)) ?_; (with_reducible refine (cadence_Usable.calls k a1_0 a1_1 true _ A3.out).mono ?_); rintro e w23 ⟨rfl, hb⟩; refine ⟨_, rfl, ?_⟩; have n0_ := Aside0.mk (yB (g := gb129) (o := .cells #[.int .i64 a1_0, .int .i64 a1_1] 23 (0, 0)) (by (with_reducible repeat (first | refine yN ?_ _ | refine yD ?_ | refine yA ?_ _)); exact BK129.out) hb); have n1_ := Aside0.mk (zT (by repeat (first | (with_reducible first | exact HB.out | apply zA | apply zN | apply zD | refine zP ?_ GE129.out) | exact HB.out)) hb); clear BK129; clear HB; have BK129 := n0_; have HB := n1_; clear n0_ n1_; (try clear hb); (try clear hb2); (try clear hk); (try clear hi)) | ((with_reducible refine xC (f := 48) rfl ?_); refine goesL_ (some 13) rfl rfl Try.func48 (by kernel_rfl) rfl #[.int .i64 a0] rfl (by (try simp only [List.map_toArray, List.map_cons, List.map_nil]); first | done | rfl | (simp only [List.length_drop, List.length_take]; rfl)) ?_; (with_reducible refine (cadence_inRange.calls a0 false _ A5.out).mono ?_); rintro e w' ⟨rfl, ⟨nd, rfl⟩⟩; refine ⟨_, rfl, ?_⟩))
   go_ret2
   exact ⟨by first | rfl | (simp [errW_none, errW_some] <;> rfl) | (simp [*, errW_none, errW_some] <;> rfl), by repeat (first | (with_reducible first | exact HB.out | apply zA | apply zN | apply zD | refine zP ?_ GE129.out) | exact HB.out)⟩
 ·replace c4 := Bool.eq_false_iff.mpr c4
  subst c4
  have H1 : (some (0, 1)) = some (r1, r2) := by rw [if_neg (show ¬ (false = true) by decide)] at H; exact H
  clear H
  have H := H1
  clear H1
  simp only [Option.some.injEq, Prod.mk.injEq] at H
  obtain ⟨rfl, rfl⟩ := H
  go_enter Try.func25, Try.ntmps25
  go_wp2_with (first | ((with_reducible refine xD (N := 3) rfl ?_); refine box_event ?hg (N := 3) ?hd (cs := #[.int .i64 a1_0, .int .i64 a1_1]) (t := 23) ?hr ?_; (case hd => rfl); (case hg => rfl); (case hr => first | (go_simp; done) | (go_simp; rfl)); intro gb129 hg w24 hbox hb; have n0_ := Aside0.mk (zT (by repeat (first | (with_reducible first | exact HB.out | apply zA | apply zN | apply zD) | exact HB.out)) hb); have n1_ := Aside0.mk (hbox); have n2_ := Aside0.mk ((by rw [hg]; exact (zS (by repeat (first | (with_reducible first | exact HB.out | apply zA | apply zN | apply zD) | exact HB.out))) : w.heap.size ≤ gb129)); have n3_ := n2_; clear HB; have HB := n0_; have BK129 := n1_; have GW129 := n2_; have GE129 := n3_; clear n0_ n1_ n2_ n3_; clear hb hbox hg; have hcz25_0 : w24.cell? ⟨gb129, 0, none⟩ = some (.int .i64 a1_0) := (blk_cell BK129.out 0).trans rfl; have hcz25_1 : w24.cell? ⟨gb129, 1, none⟩ = some (.int .i64 a1_1) := (blk_cell BK129.out 1).trans rfl; have hfz25_0 := blk_frozen BK129.out 0; have hfz25_1 := blk_frozen BK129.out 1) | ((with_reducible refine xC (f := 19) rfl ?_); refine goesL_ (some 10) rfl rfl Try.func19 (by kernel_rfl) rfl #[.agg #[.int .i64 a1_0, .int .i64 a1_1]] rfl (by (try simp only [List.map_toArray, List.map_cons, List.map_nil]); first | done | rfl | (simp only [List.length_drop, List.length_take]; rfl)) ?_; (with_reducible refine (cadence_Usable.calls k a1_0 a1_1 false _ A3.out).mono ?_); rintro e w26 ⟨rfl, hb⟩; refine ⟨_, rfl, ?_⟩; have n0_ := Aside0.mk (yB (g := gb129) (o := .cells #[.int .i64 a1_0, .int .i64 a1_1] 23 (0, 0)) (by (with_reducible repeat (first | refine yN ?_ _ | refine yD ?_ | refine yA ?_ _)); exact BK129.out) hb); have n1_ := Aside0.mk (zT (by repeat (first | (with_reducible first | exact HB.out | apply zA | apply zN | apply zD | refine zP ?_ GE129.out) | exact HB.out)) hb); clear BK129; clear HB; have BK129 := n0_; have HB := n1_; clear n0_ n1_; (try clear hb); (try clear hb2); (try clear hk); (try clear hi)))
  go_ret2
  exact ⟨by first | rfl | (simp [errW_none, errW_some] <;> rfl) | (simp [*, errW_none, errW_some] <;> rfl), by repeat (first | (with_reducible first | exact HB.out | apply zA | apply zN | apply zD | refine zP ?_ GE129.out) | exact HB.out)⟩

/-! ### cadence_floorDiv: function 52 -/
def cadence_floorDiv.f (a0 : Int) (a1 : Int) : Option (Int) := if a1 = 0 then (none) else (if (Int.tmod a0 a1) < 0 then (some (wrap64 ((wrap64 (Int.tdiv a0 a1)) - 1))) else (some (wrap64 (Int.tdiv a0 a1))))
set_option maxHeartbeats 8000000 in
set_option maxRecDepth 100000 in
theorem cadence_floorDiv.calls (a0 : Int) (a1 : Int) (r : Int) (w : World) (h : cadence_floorDiv.f a0 a1 = some r) :
    Calls Try.prog 52 #[.int .i64 a0, .int .i64 a1] w fun e w' => e = .returned (.int .i64 r) ∧ Drawn0 w w' := by
  have H : (if a1 = 0 then (none) else (if (Int.tmod a0 a1) < 0 then (some (wrap64 ((wrap64 (Int.tdiv a0 a1)) - 1))) else (some (wrap64 (Int.tdiv a0 a1))))) = some r := h
  clear h
  by_cases c3 : a1 = 0
  · rw [if_pos c3] at H
    exact absurd H (by simp)
  · rw [if_neg c3] at H
    have c3b0 : (a1 == 0) = false := beq_eq_false_iff_ne.mpr c3
    have c3b1 : (a1 != 0) = true := bne_iff_ne.mpr c3
    by_cases c4 : (Int.tmod a0 a1) < 0
    · rw [if_pos c4] at H
      have c4b0 : decide ((Int.tmod a0 a1) < 0) = true := decide_eq_true c4
      clear c4
      obtain rfl := Option.some.inj H
      go_enter Try.func52, Try.ntmps52
      go_wp2
      go_ret
      exact ⟨by first | rfl | (simp; done) | (simp [*]; done), by repeat (first | exact Drawn0.refl _ | apply Drawn0.step)⟩
    · rw [if_neg c4] at H
      have c4b0 : decide ((Int.tmod a0 a1) < 0) = false := decide_eq_false c4
      clear c4
      obtain rfl := Option.some.inj H
      go_enter Try.func52, Try.ntmps52
      go_wp2
      go_ret
      exact ⟨by first | rfl | (simp; done) | (simp [*]; done), by repeat (first | exact Drawn0.refl _ | apply Drawn0.step)⟩

/-! ### cadence_Owner: function 27 -/
def cadence_Owner.f (k : Nat) (a0 : Int) (a1_0 : Int) (a1_1 : Int) : Option (Int × Int) := (cadence_Usable.f k a1_0 a1_1).bind fun t136 => (if t136 = true then (if a0 < (-1099511627776) then (some (0, 2)) else (if a0 > 1099511627776 then (some (0, 2)) else ((cadence_floorDiv.f (wrap64 ((wrap64 ((wrap64 ((wrap64 (2 * a0)) + 1)) * a1_0)) - 1)) (wrap64 (96000 * a1_1))).bind fun t137 => (some (t137, 0))))) else (some (0, 1)))
theorem cadence_Owner.mono : ∀ a0 a1 a2 k, LeO (cadence_Owner.f k a0 a1 a2) (cadence_Owner.f (k + 1) a0 a1 a2) := by
 intro a0 a1 a2 k
 unfold cadence_Owner.f
 repeat' first
   | (with_reducible exact cadence_Usable.mono _ _ _)
   | (with_reducible exact LeO.refl _)
   | (with_reducible exact LeO.none _)
   | (with_reducible refine LeO.ite ?_ ?_)
   | (with_reducible refine LeO.bind ?_ (fun _ => ?_))
   | exact cadence_Usable.mono _ _ _
   | exact LeO.none _
   | refine LeO.ite ?_ ?_
   | refine LeO.bind ?_ (fun _ => ?_)
set_option maxHeartbeats 8000000 in
set_option maxRecDepth 100000 in
theorem cadence_Owner.calls (k : Nat) (a0 : Int) (a1_0 : Int) (a1_1 : Int) (r1 : Int) (r2 : Int) (w : World) (h : cadence_Owner.f k a0 a1_0 a1_1 = some (r1, r2)) :
  Calls Try.prog 27 #[.int .i64 a0, .agg #[.int .i64 a1_0, .int .i64 a1_1]] w fun e w' => e = .returned (.tuple #[.int .i64 r1, .int .i64 r2]) ∧ Below w.heap.size w w' := by
 have hu23 := Try.underlying23
 have HB := Aside0.mk (Below.refl w.heap.size w)
 have H : ((cadence_Usable.f k a1_0 a1_1).bind fun t136 => (if t136 = true then (if a0 < (-1099511627776) then (some (0, 2)) else (if a0 > 1099511627776 then (some (0, 2)) else ((cadence_floorDiv.f (wrap64 ((wrap64 ((wrap64 ((wrap64 (2 * a0)) + 1)) * a1_0)) - 1)) (wrap64 (96000 * a1_1))).bind fun t137 => (some (t137, 0))))) else (some (0, 1)))) = some (r1, r2) := h
 clear h
 replace H := Option.bind_eq_some_iff.mp H
 obtain ⟨t136, A30, H⟩ := H
 replace H : (if t136 = true then (if a0 < (-1099511627776) then (some (0, 2)) else (if a0 > 1099511627776 then (some (0, 2)) else ((cadence_floorDiv.f (wrap64 ((wrap64 ((wrap64 ((wrap64 (2 * a0)) + 1)) * a1_0)) - 1)) (wrap64 (96000 * a1_1))).bind fun t137 => (some (t137, 0))))) else (some (0, 1))) = some (r1, r2) := H
 have A3 := Aside0.mk A30
 clear A30
 by_cases c4 : t136 = true
 ·subst c4
  have H1 : (if a0 < (-1099511627776) then (some (0, 2)) else (if a0 > 1099511627776 then (some (0, 2)) else ((cadence_floorDiv.f (wrap64 ((wrap64 ((wrap64 ((wrap64 (2 * a0)) + 1)) * a1_0)) - 1)) (wrap64 (96000 * a1_1))).bind fun t137 => (some (t137, 0))))) = some (r1, r2) := by rw [if_pos rfl] at H; exact H
  clear H
  have H := H1
  clear H1
  by_cases c5 : a0 < (-1099511627776)
  ·rw [if_pos c5] at H
   have c5b0 : decide (a0 < (-1099511627776)) = true := decide_eq_true c5
   clear c5
   simp only [Option.some.injEq, Prod.mk.injEq] at H
   obtain ⟨rfl, rfl⟩ := H
   go_enter Try.func27, Try.ntmps27
   go_wp2_with (first | ((with_reducible refine xD (N := 3) rfl ?_); refine box_event ?hg (N := 3) ?hd (cs := #[.int .i64 a1_0, .int .i64 a1_1]) (t := 23) ?hr ?_; (case hd => rfl); (case hg => rfl); (case hr => first | (go_simp; done) | (go_simp; rfl)); intro gb135 hg w6 hbox hb; have n0_ := Aside0.mk (zT (by repeat (first | (with_reducible first | exact HB.out | apply zA | apply zN | apply zD) | exact HB.out)) hb); have n1_ := Aside0.mk (hbox); have n2_ := Aside0.mk ((by rw [hg]; exact (zS (by repeat (first | (with_reducible first | exact HB.out | apply zA | apply zN | apply zD) | exact HB.out))) : w.heap.size ≤ gb135)); have n3_ := n2_; clear HB; have HB := n0_; have BK135 := n1_; have GW135 := n2_; have GE135 := n3_; clear n0_ n1_ n2_ n3_; clear hb hbox hg; have hcz7_0 : w6.cell? ⟨gb135, 0, none⟩ = some (.int .i64 a1_0) := (blk_cell BK135.out 0).trans rfl; have hcz7_1 : w6.cell? ⟨gb135, 1, none⟩ = some (.int .i64 a1_1) := (blk_cell BK135.out 1).trans rfl; have hfz7_0 := blk_frozen BK135.out 0; have hfz7_1 := blk_frozen BK135.out 1) | ((with_reducible refine xC (f := 19) rfl ?_); refine goesL_ (some 7) rfl rfl Try.func19 (by kernel_rfl) rfl #[.agg #[.int .i64 a1_0, .int .i64 a1_1]] rfl (by (try simp only [List.map_toArray, List.map_cons, List.map_nil]); first | done | rfl | (simp only [List.length_drop, List.length_take]; rfl)) ?_; (with_reducible refine (cadence_Usable.calls k a1_0 a1_1 true _ A3.out).mono ?_); rintro e w8 ⟨rfl, hb⟩; refine ⟨_, rfl, ?_⟩; have n0_ := Aside0.mk (yB (g := gb135) (o := .cells #[.int .i64 a1_0, .int .i64 a1_1] 23 (0, 0)) (by (with_reducible repeat (first | refine yN ?_ _ | refine yD ?_ | refine yA ?_ _)); exact BK135.out) hb); have n1_ := Aside0.mk (zT (by repeat (first | (with_reducible first | exact HB.out | apply zA | apply zN | apply zD | refine zP ?_ GE135.out) | exact HB.out)) hb); clear BK135; clear HB; have BK135 := n0_; have HB := n1_; clear n0_ n1_; (try clear hb); (try clear hb2); (try clear hk); (try clear hi)))
   go_ret2
   exact ⟨by first | rfl | (simp [errW_none, errW_some] <;> rfl) | (simp [*, errW_none, errW_some] <;> rfl), by repeat (first | (with_reducible first | exact HB.out | apply zA | apply zN | apply zD | refine zP ?_ GE135.out) | exact HB.out)⟩
  ·rw [if_neg c5] at H
   have c5b0 : decide (a0 < (-1099511627776)) = false := decide_eq_false c5
   clear c5
   by_cases c9 : a0 > 1099511627776
   ·rw [if_pos c9] at H
    have c9b0 : decide (1099511627776 < a0) = true := decide_eq_true c9
    clear c9
    simp only [Option.some.injEq, Prod.mk.injEq] at H
    obtain ⟨rfl, rfl⟩ := H
    go_enter Try.func27, Try.ntmps27
    go_wp2_with (first | ((with_reducible refine xD (N := 3) rfl ?_); refine box_event ?hg (N := 3) ?hd (cs := #[.int .i64 a1_0, .int .i64 a1_1]) (t := 23) ?hr ?_; (case hd => rfl); (case hg => rfl); (case hr => first | (go_simp; done) | (go_simp; rfl)); intro gb135 hg w10 hbox hb; have n0_ := Aside0.mk (zT (by repeat (first | (with_reducible first | exact HB.out | apply zA | apply zN | apply zD) | exact HB.out)) hb); have n1_ := Aside0.mk (hbox); have n2_ := Aside0.mk ((by rw [hg]; exact (zS (by repeat (first | (with_reducible first | exact HB.out | apply zA | apply zN | apply zD) | exact HB.out))) : w.heap.size ≤ gb135)); have n3_ := n2_; clear HB; have HB := n0_; have BK135 := n1_; have GW135 := n2_; have GE135 := n3_; clear n0_ n1_ n2_ n3_; clear hb hbox hg; have hcz11_0 : w10.cell? ⟨gb135, 0, none⟩ = some (.int .i64 a1_0) := (blk_cell BK135.out 0).trans rfl; have hcz11_1 : w10.cell? ⟨gb135, 1, none⟩ = some (.int .i64 a1_1) := (blk_cell BK135.out 1).trans rfl; have hfz11_0 := blk_frozen BK135.out 0; have hfz11_1 := blk_frozen BK135.out 1) | ((with_reducible refine xC (f := 19) rfl ?_); refine goesL_ (some 7) rfl rfl Try.func19 (by kernel_rfl) rfl #[.agg #[.int .i64 a1_0, .int .i64 a1_1]] rfl (by (try simp only [List.map_toArray, List.map_cons, List.map_nil]); first | done | rfl | (simp only [List.length_drop, List.length_take]; rfl)) ?_; (with_reducible refine (cadence_Usable.calls k a1_0 a1_1 true _ A3.out).mono ?_); rintro e w12 ⟨rfl, hb⟩; refine ⟨_, rfl, ?_⟩; have n0_ := Aside0.mk (yB (g := gb135) (o := .cells #[.int .i64 a1_0, .int .i64 a1_1] 23 (0, 0)) (by (with_reducible repeat (first | refine yN ?_ _ | refine yD ?_ | refine yA ?_ _)); exact BK135.out) hb); have n1_ := Aside0.mk (zT (by repeat (first | (with_reducible first | exact HB.out | apply zA | apply zN | apply zD | refine zP ?_ GE135.out) | exact HB.out)) hb); clear BK135; clear HB; have BK135 := n0_; have HB := n1_; clear n0_ n1_; (try clear hb); (try clear hb2); (try clear hk); (try clear hi)))
    go_ret2
    exact ⟨by first | rfl | (simp [errW_none, errW_some] <;> rfl) | (simp [*, errW_none, errW_some] <;> rfl), by repeat (first | (with_reducible first | exact HB.out | apply zA | apply zN | apply zD | refine zP ?_ GE135.out) | exact HB.out)⟩
   ·rw [if_neg c9] at H
    have c9b0 : decide (1099511627776 < a0) = false := decide_eq_false c9
    clear c9
    replace H := Option.bind_eq_some_iff.mp H
    obtain ⟨t137, A130, H⟩ := H
    replace H : (some (t137, 0)) = some (r1, r2) := H
    have A13 := Aside0.mk A130
    clear A130
    simp only [Option.some.injEq, Prod.mk.injEq] at H
    obtain ⟨rfl, rfl⟩ := H
    go_enter Try.func27, Try.ntmps27
    go_wp2_with (first | ((with_reducible refine xD (N := 3) rfl ?_); refine box_event ?hg (N := 3) ?hd (cs := #[.int .i64 a1_0, .int .i64 a1_1]) (t := 23) ?hr ?_; (case hd => rfl); (case hg => rfl); (case hr => first | (go_simp; done) | (go_simp; rfl)); intro gb135 hg w14 hbox hb; have n0_ := Aside0.mk (zT (by repeat (first | (with_reducible first | exact HB.out | apply zA | apply zN | apply zD) | exact HB.out)) hb); have n1_ := Aside0.mk (hbox); have n2_ := Aside0.mk ((by rw [hg]; exact (zS (by repeat (first | (with_reducible first | exact HB.out | apply zA | apply zN | apply zD) | exact HB.out))) : w.heap.size ≤ gb135)); have n3_ := n2_; clear HB; have HB := n0_; have BK135 := n1_; have GW135 := n2_; have GE135 := n3_; clear n0_ n1_ n2_ n3_; clear hb hbox hg; have hcz15_0 : w14.cell? ⟨gb135, 0, none⟩ = some (.int .i64 a1_0) := (blk_cell BK135.out 0).trans rfl; have hcz15_1 : w14.cell? ⟨gb135, 1, none⟩ = some (.int .i64 a1_1) := (blk_cell BK135.out 1).trans rfl; have hfz15_0 := blk_frozen BK135.out 0; have hfz15_1 := blk_frozen BK135.out 1) | ((with_reducible refine xC (f := 19) rfl ?_); refine goesL_ (some 7) rfl rfl Try.func19 (by kernel_rfl) rfl #[.agg #[.int .i64 a1_0, .int .i64 a1_1]] rfl (by (try simp only [List.map_toArray, List.map_cons, List.map_nil]); first | done | rfl | (simp only [List.length_drop, List.length_take]; rfl)) ?_; (with_reducible refine (cadence_Usable.calls k a1_0 a1_1 true _ A3.out).mono ?_); rintro e w16 ⟨rfl, hb⟩; refine ⟨_, rfl, ?_⟩; have n0_ := Aside0.mk (yB (g := gb135) (o := .cells #[.int .i64 a1_0, .int .i64 a1_1] 23 (0, 0)) (by (with_reducible repeat (first | refine yN ?_ _ | refine yD ?_ | refine yA ?_ _)); exact BK135.out) hb); have n1_ := Aside0.mk (zT (by repeat (first | (with_reducible first | exact HB.out | apply zA | apply zN | apply zD | refine zP ?_ GE135.out) | exact HB.out)) hb); clear BK135; clear HB; have BK135 := n0_; have HB := n1_; clear n0_ n1_; (try clear hb); (try clear hb2); (try clear hk); (try clear hi); have hcz17_0 : w16.cell? ⟨gb135, 0, none⟩ = some (.int .i64 a1_0) := (blk_cell BK135.out 0).trans rfl; have hcz17_1 : w16.cell? ⟨gb135, 1, none⟩ = some (.int .i64 a1_1) := (blk_cell BK135.out 1).trans rfl; have hfz17_0 := blk_frozen BK135.out 0; have hfz17_1 := blk_frozen BK135.out 1) | ((with_reducible refine xC (f := 52) rfl ?_); refine goesL_ (some 25) rfl rfl Try.func52 (by kernel_rfl) rfl #[.int .i64 (wrap64 ((wrap64 ((wrap64 ((wrap64 (2 * a0)) + 1)) * a1_0)) - 1)), .int .i64 (wrap64 (96000 * a1_1))] rfl (by (try simp only [List.map_toArray, List.map_cons, List.map_nil]); first | done | rfl | (simp only [List.length_drop, List.length_take]; rfl)) ?_; (with_reducible refine (cadence_floorDiv.calls (wrap64 ((wrap64 ((wrap64 ((wrap64 (2 * a0)) + 1)) * a1_0)) - 1)) (wrap64 (96000 * a1_1)) t137 _ A13.out).mono ?_); rintro e w' ⟨rfl, ⟨nd, rfl⟩⟩; refine ⟨_, rfl, ?_⟩))
    go_ret2
    exact ⟨by first | rfl | (simp [errW_none, errW_some] <;> rfl) | (simp [*, errW_none, errW_some] <;> rfl), by repeat (first | (with_reducible first | exact HB.out | apply zA | apply zN | apply zD | refine zP ?_ GE135.out) | exact HB.out)⟩
 ·replace c4 := Bool.eq_false_iff.mpr c4
  subst c4
  have H1 : (some (0, 1)) = some (r1, r2) := by rw [if_neg (show ¬ (false = true) by decide)] at H; exact H
  clear H
  have H := H1
  clear H1
  simp only [Option.some.injEq, Prod.mk.injEq] at H
  obtain ⟨rfl, rfl⟩ := H
  go_enter Try.func27, Try.ntmps27
  go_wp2_with (first | ((with_reducible refine xD (N := 3) rfl ?_); refine box_event ?hg (N := 3) ?hd (cs := #[.int .i64 a1_0, .int .i64 a1_1]) (t := 23) ?hr ?_; (case hd => rfl); (case hg => rfl); (case hr => first | (go_simp; done) | (go_simp; rfl)); intro gb135 hg w18 hbox hb; have n0_ := Aside0.mk (zT (by repeat (first | (with_reducible first | exact HB.out | apply zA | apply zN | apply zD) | exact HB.out)) hb); have n1_ := Aside0.mk (hbox); have n2_ := Aside0.mk ((by rw [hg]; exact (zS (by repeat (first | (with_reducible first | exact HB.out | apply zA | apply zN | apply zD) | exact HB.out))) : w.heap.size ≤ gb135)); have n3_ := n2_; clear HB; have HB := n0_; have BK135 := n1_; have GW135 := n2_; have GE135 := n3_; clear n0_ n1_ n2_ n3_; clear hb hbox hg; have hcz19_0 : w18.cell? ⟨gb135, 0, none⟩ = some (.int .i64 a1_0) := (blk_cell BK135.out 0).trans rfl; have hcz19_1 : w18.cell? ⟨gb135, 1, none⟩ = some (.int .i64 a1_1) := (blk_cell BK135.out 1).trans rfl; have hfz19_0 := blk_frozen BK135.out 0; have hfz19_1 := blk_frozen BK135.out 1) | ((with_reducible refine xC (f := 19) rfl ?_); refine goesL_ (some 7) rfl rfl Try.func19 (by kernel_rfl) rfl #[.agg #[.int .i64 a1_0, .int .i64 a1_1]] rfl (by (try simp only [List.map_toArray, List.map_cons, List.map_nil]); first | done | rfl | (simp only [List.length_drop, List.length_take]; rfl)) ?_; (with_reducible refine (cadence_Usable.calls k a1_0 a1_1 false _ A3.out).mono ?_); rintro e w20 ⟨rfl, hb⟩; refine ⟨_, rfl, ?_⟩; have n0_ := Aside0.mk (yB (g := gb135) (o := .cells #[.int .i64 a1_0, .int .i64 a1_1] 23 (0, 0)) (by (with_reducible repeat (first | refine yN ?_ _ | refine yD ?_ | refine yA ?_ _)); exact BK135.out) hb); have n1_ := Aside0.mk (zT (by repeat (first | (with_reducible first | exact HB.out | apply zA | apply zN | apply zD | refine zP ?_ GE135.out) | exact HB.out)) hb); clear BK135; clear HB; have BK135 := n0_; have HB := n1_; clear n0_ n1_; (try clear hb); (try clear hb2); (try clear hk); (try clear hi)))
  go_ret2
  exact ⟨by first | rfl | (simp [errW_none, errW_some] <;> rfl) | (simp [*, errW_none, errW_some] <;> rfl), by repeat (first | (with_reducible first | exact HB.out | apply zA | apply zN | apply zD | refine zP ?_ GE135.out) | exact HB.out)⟩

end Go.Proofs.Ytcofjbbflcnaaaa.P
