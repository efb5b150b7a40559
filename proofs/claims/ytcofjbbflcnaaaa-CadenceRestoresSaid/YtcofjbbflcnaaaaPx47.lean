-- Written by this session's own program (wip/tools/myprint.py), which runs the kit's print with turns of its own: not a text of the kit's print.sh.
import Derived.Test.YtcofjbbflcnaaaaPx0
import Derived.Test.YtcofjbbflcnaaaaPx66
import Derived.Test.YtcofjbbflcnaaaaAbb
namespace Go.Proofs.Ytcofjbbflcnaaaa.P
open Go.RowKit Go.Proofs.YtcofjbbflcnaaaaW.PrintWords Go.Proofs.YtcofjbbflcnaaaaW.PrintLast Go.Proofs.YtcofjbbflcnaaaaW.PrintMore
open List renaming setIfInBounds_toArray → sA, set_cons_zero → sZ, set_cons_succ → sS
open Bool renaming true → T', false → F'
open Go.Proofs.YtcofjbbflcnaaaaW.PrintWords renaming below_alloc → zA, pw_below_drewN → zN, below_drew1 → zD, blk_drewN → yN, blk_drew → yD, blk_alloc → yA, below_size → zS, below_step → zT, blk_below → yB, below_set → zP, cell_far → xF, add_block → xB, gate_callee → xC, gate_dst → xD
attribute [local go_sem] max2_int min2_int max_two min_two max_three min_three max_four min_four   -- for this text's walks alone
set_option linter.unusedVariables false
set_option linter.unusedSimpArgs false

/-! ### cutroomref20_Join: function 46 -/
def cutroomref20_Join.f (k : Nat) (a0_0 : Int) (a0_1 : Int) (l0_2 : List Int) (l0_3 : List Int) (l0_4 : List Int) (a1_0 : Int) (a1_1 : Int) (l1_2 : List Int) (l1_3 : List Int) (l1_4 : List Int) : Option (Int × Int × List Int × List Int × List Int) := (cutroomref20_lines.f k l0_2 l1_2 a0_0).bind fun t260 => ((cutroomref20_lines.f k l0_3 l1_3 (wrap64 (Int.tdiv a0_0 2))).bind fun t263 => ((cutroomref20_lines.f k l0_4 l1_4 (wrap64 (Int.tdiv a0_0 2))).bind fun t266 => (some (a0_0, a0_1, t260, t263, t266))))
theorem cutroomref20_Join.mono : ∀ a0 a1 a2 a3 a4 a5 a6 a7 a8 a9 k, LeO (cutroomref20_Join.f k a0 a1 a2 a3 a4 a5 a6 a7 a8 a9) (cutroomref20_Join.f (k + 1) a0 a1 a2 a3 a4 a5 a6 a7 a8 a9) := by
 intro a0 a1 a2 a3 a4 a5 a6 a7 a8 a9 k
 unfold cutroomref20_Join.f
 repeat' first
   | (with_reducible exact cutroomref20_lines.mono _ _ _ _)
   | (with_reducible exact LeO.refl _)
   | (with_reducible exact LeO.none _)
   | (with_reducible refine LeO.ite ?_ ?_)
   | (with_reducible refine LeO.bind ?_ (fun _ => ?_))
   | exact cutroomref20_lines.mono _ _ _ _
   | exact LeO.none _
   | refine LeO.ite ?_ ?_
   | refine LeO.bind ?_ (fun _ => ?_)
def cutroomref20_Join.T1 : Bool × List (List Nat × List Nat) := (true, [([], []), ([0], [0]), ([], []), ([2], [2]), ([], []), ([4], [4]), ([], []), ([6], [6]), ([], []), ([8], [8]), ([5, 7, 9], [5, 7, 9]), ([], []), ([11], [11]), ([], []), ([13], [13]), ([], []), ([15], [15]), ([16], [16]), ([12, 14, 17, 10], [12, 14, 17]), ([], []), ([19], [19]), ([], []), ([21], [21]), ([], []), ([23], [23]), ([24], [24]), ([20, 22, 25, 18], [20, 22, 25]), ([1, 3, 10, 18, 26], [1, 3, 10, 18, 26]), ([27, 26, 0, 1, 2, 3, 4, 5, 6, 7, 8, 9, 10, 11, 12, 13, 14, 15, 16, 17, 18, 19, 20, 21, 22, 23, 24, 25, 26, 27], [27])])
def cutroomref20_Join.B1 : List Nat := [0, 1, 0, 4, 0, 16, 0, 64, 0, 256, 1008, 0, 2048, 0, 8192, 0, 32768, 98304, 262128, 0, 524288, 0, 2097152, 0, 8388608, 25165824, 67108848, 134217727, 268435455]
theorem cutroomref20_Join.tab1 : rtab .any (opsOf Try.f46 1) = cutroomref20_Join.T1 := by kernel_rfl
theorem cutroomref20_Join.bits1 : waitsOk cutroomref20_Join.T1.2 cutroomref20_Join.B1 = true := by kernel_rfl
set_option maxHeartbeats 8000000 in
set_option maxRecDepth 100000 in
theorem cutroomref20_Join.calls (k : Nat) (a0_0 : Int) (a0_1 : Int) (A0_2 : Option Addr) (c0_2 : Nat) (l0_2 : List Int) (A0_3 : Option Addr) (c0_3 : Nat) (l0_3 : List Int) (A0_4 : Option Addr) (c0_4 : Nat) (l0_4 : List Int) (a1_0 : Int) (a1_1 : Int) (A1_2 : Option Addr) (c1_2 : Nat) (l1_2 : List Int) (A1_3 : Option Addr) (c1_3 : Nat) (l1_3 : List Int) (A1_4 : Option Addr) (c1_4 : Nat) (l1_4 : List Int) (r1 : Int) (r2 : Int) (r3 : List Int) (r4 : List Int) (r5 : List Int) (w : World) (hr0_2 : Kd.C (Kd.int .u8) w A0_2 l0_2.length l0_2) (hc0_2 : l0_2.length ≤ c0_2) (hr0_3 : Kd.C (Kd.int .u8) w A0_3 l0_3.length l0_3) (hc0_3 : l0_3.length ≤ c0_3) (hr0_4 : Kd.C (Kd.int .u8) w A0_4 l0_4.length l0_4) (hc0_4 : l0_4.length ≤ c0_4) (hr1_2 : Kd.C (Kd.int .u8) w A1_2 l1_2.length l1_2) (hc1_2 : l1_2.length ≤ c1_2) (hr1_3 : Kd.C (Kd.int .u8) w A1_3 l1_3.length l1_3) (hc1_3 : l1_3.length ≤ c1_3) (hr1_4 : Kd.C (Kd.int .u8) w A1_4 l1_4.length l1_4) (hc1_4 : l1_4.length ≤ c1_4) (h : cutroomref20_Join.f k a0_0 a0_1 l0_2 l0_3 l0_4 a1_0 a1_1 l1_2 l1_3 l1_4 = some (r1, r2, r3, r4, r5)) :
  Calls Try.prog 46 #[.agg #[.int .i64 a0_0, .int .i64 a0_1, .slice A0_2 l0_2.length c0_2, .slice A0_3 l0_3.length c0_3, .slice A0_4 l0_4.length c0_4], .agg #[.int .i64 a1_0, .int .i64 a1_1, .slice A1_2 l1_2.length c1_2, .slice A1_3 l1_3.length c1_3, .slice A1_4 l1_4.length c1_4]] w fun e w' => ∃ v2_ v3_ v4_ : Value, e = .returned (.agg #[.int .i64 r1, .int .i64 r2, v2_, v3_, v4_]) ∧ Kd.R (Kd.int .u8) 5 w' w.heap.size (fun k_ => some k_ ≠ (v3_ : Value).ownBlock ∧ some k_ ≠ (v4_ : Value).ownBlock) v2_ r3 ∧ Kd.R (Kd.int .u8) 5 w' w.heap.size (fun k_ => some k_ ≠ (v2_ : Value).ownBlock ∧ some k_ ≠ (v4_ : Value).ownBlock) v3_ r4 ∧ Kd.R (Kd.int .u8) 5 w' w.heap.size (fun k_ => some k_ ≠ (v2_ : Value).ownBlock ∧ some k_ ≠ (v3_ : Value).ownBlock) v4_ r5 ∧ Below w.heap.size w w' := by
 have hu52 := Try.underlying52
 have HR0_2 := Aside0.mk hr0_2
 have HC0_2 := Aside0.mk hc0_2
 clear hr0_2 hc0_2
 have HR0_3 := Aside0.mk hr0_3
 have HC0_3 := Aside0.mk hc0_3
 clear hr0_3 hc0_3
 have HR0_4 := Aside0.mk hr0_4
 have HC0_4 := Aside0.mk hc0_4
 clear hr0_4 hc0_4
 have HR1_2 := Aside0.mk hr1_2
 have HC1_2 := Aside0.mk hc1_2
 clear hr1_2 hc1_2
 have HR1_3 := Aside0.mk hr1_3
 have HC1_3 := Aside0.mk hc1_3
 clear hr1_3 hc1_3
 have HR1_4 := Aside0.mk hr1_4
 have HC1_4 := Aside0.mk hc1_4
 clear hr1_4 hc1_4
 have HB := Aside0.mk (Below.refl w.heap.size w)
 have H : ((cutroomref20_lines.f k l0_2 l1_2 a0_0).bind fun t260 => ((cutroomref20_lines.f k l0_3 l1_3 (wrap64 (Int.tdiv a0_0 2))).bind fun t263 => ((cutroomref20_lines.f k l0_4 l1_4 (wrap64 (Int.tdiv a0_0 2))).bind fun t266 => (some (a0_0, a0_1, t260, t263, t266))))) = some (r1, r2, r3, r4, r5) := h
 clear h
 replace H := Option.bind_eq_some_iff.mp H
 obtain ⟨t260, A30, H⟩ := H
 replace H : ((cutroomref20_lines.f k l0_3 l1_3 (wrap64 (Int.tdiv a0_0 2))).bind fun t263 => ((cutroomref20_lines.f k l0_4 l1_4 (wrap64 (Int.tdiv a0_0 2))).bind fun t266 => (some (a0_0, a0_1, t260, t263, t266)))) = some (r1, r2, r3, r4, r5) := H
 have A3 := Aside0.mk A30
 clear A30
 replace H := Option.bind_eq_some_iff.mp H
 obtain ⟨t263, A40, H⟩ := H
 replace H : ((cutroomref20_lines.f k l0_4 l1_4 (wrap64 (Int.tdiv a0_0 2))).bind fun t266 => (some (a0_0, a0_1, t260, t263, t266))) = some (r1, r2, r3, r4, r5) := H
 have A4 := Aside0.mk A40
 clear A40
 replace H := Option.bind_eq_some_iff.mp H
 obtain ⟨t266, A50, H⟩ := H
 replace H : (some (a0_0, a0_1, t260, t263, t266)) = some (r1, r2, r3, r4, r5) := H
 have A5 := Aside0.mk A50
 clear A50
 simp only [Option.some.injEq, Prod.mk.injEq] at H
 obtain ⟨rfl, rfl, rfl, rfl, rfl⟩ := H
 go_enter Try.func46, Try.ntmps46
 try go_wp2_with (first | ((with_reducible refine xD (N := 2) rfl ?_); refine box_event ?hg (N := 2) ?hd (cs := #[.int .i64 a0_0, .int .i64 a0_1, .slice A0_2 l0_2.length c0_2, .slice A0_3 l0_3.length c0_3, .slice A0_4 l0_4.length c0_4]) (t := 52) ?hr ?_; (case hd => rfl); (case hg => rfl); (case hr => first | (go_simp; done) | (go_simp; rfl)); intro gb257 hg w6 hbox hb; have n0_ := Aside0.mk (zT (by repeat (first | (with_reducible first | exact HB.out | apply zA | apply zN | apply zD) | exact HB.out)) hb); have n1_ := Aside0.mk (hbox); have n2_ := Aside0.mk ((by rw [hg]; exact (zS (by repeat (first | (with_reducible first | exact HB.out | apply zA | apply zN | apply zD) | exact HB.out))) : w.heap.size ≤ gb257)); have n3_ := n2_; clear HB; have HB := n0_; have BK257 := n1_; have GW257 := n2_; have GE257 := n3_; clear n0_ n1_ n2_ n3_; clear hb hbox hg) | ((with_reducible refine xD (N := 3) rfl ?_); refine box_event ?hg (N := 3) ?hd (cs := #[.int .i64 a1_0, .int .i64 a1_1, .slice A1_2 l1_2.length c1_2, .slice A1_3 l1_3.length c1_3, .slice A1_4 l1_4.length c1_4]) (t := 52) ?hr ?_; (case hd => rfl); (case hg => rfl); (case hr => first | (go_simp; done) | (go_simp; rfl)); intro gb258 hg w7 hbox hb; have n0_ := Aside0.mk (yB (g := gb257) (o := .cells #[.int .i64 a0_0, .int .i64 a0_1, .slice A0_2 l0_2.length c0_2, .slice A0_3 l0_3.length c0_3, .slice A0_4 l0_4.length c0_4] 52 (0, 0)) (by (with_reducible repeat (first | refine yN ?_ _ | refine yD ?_ | refine yA ?_ _)); exact BK257.out) hb); have n1_ := Aside0.mk (zT (by repeat (first | (with_reducible first | exact HB.out | apply zA | apply zN | apply zD | refine zP ?_ GE257.out) | exact HB.out)) hb); have n2_ := Aside0.mk (hbox); have n3_ := Aside0.mk ((by rw [hg]; exact (zS (by repeat (first | (with_reducible first | exact HB.out | apply zA | apply zN | apply zD | refine zP ?_ GE257.out) | exact HB.out))) : w.heap.size ≤ gb258)); have n4_ := n3_; have n5_ := Aside0.mk ((by rw [hg]; exact Nat.ne_of_lt (blk_lt (g := gb257) (o := .cells #[.int .i64 a0_0, .int .i64 a0_1, .slice A0_2 l0_2.length c0_2, .slice A0_3 l0_3.length c0_3, .slice A0_4 l0_4.length c0_4] 52 (0, 0)) (by (with_reducible repeat (first | refine yN ?_ _ | refine yD ?_ | refine yA ?_ _)); exact BK257.out)) : gb257 ≠ gb258)); have n6_ := Aside0.mk ((by rw [hg]; exact Nat.ne_of_gt (blk_lt (g := gb257) (o := .cells #[.int .i64 a0_0, .int .i64 a0_1, .slice A0_2 l0_2.length c0_2, .slice A0_3 l0_3.length c0_3, .slice A0_4 l0_4.length c0_4] 52 (0, 0)) (by (with_reducible repeat (first | refine yN ?_ _ | refine yD ?_ | refine yA ?_ _)); exact BK257.out)) : gb258 ≠ gb257)); clear BK257; clear HB; have BK257 := n0_; have HB := n1_; have BK258 := n2_; have GW258 := n3_; have GE258 := n4_; have NB257_258 := n5_; have NB258_257 := n6_; clear n0_ n1_ n2_ n3_ n4_ n5_ n6_; clear hb hbox hg) | ((with_reducible refine xD (N := 4) rfl ?_); refine box_event ?hg (N := 4) ?hd (cs := #[.int .i64 0, .int .i64 0, .slice none 0 0, .slice none 0 0, .slice none 0 0]) (t := 52) ?hr ?_; (case hd => rfl); (case hg => rfl); (case hr => first | (go_simp; done) | (go_simp; rfl)); intro gb259 hg w8 hbox hb; have n0_ := Aside0.mk (yB (g := gb257) (o := .cells #[.int .i64 a0_0, .int .i64 a0_1, .slice A0_2 l0_2.length c0_2, .slice A0_3 l0_3.length c0_3, .slice A0_4 l0_4.length c0_4] 52 (0, 0)) (by (with_reducible repeat (first | refine yN ?_ _ | refine yD ?_ | refine yA ?_ _)); exact BK257.out) hb); have n1_ := Aside0.mk (yB (g := gb258) (o := .cells #[.int .i64 a1_0, .int .i64 a1_1, .slice A1_2 l1_2.length c1_2, .slice A1_3 l1_3.length c1_3, .slice A1_4 l1_4.length c1_4] 52 (0, 0)) (by (with_reducible repeat (first | refine yN ?_ _ | refine yD ?_ | refine yA ?_ _)); exact BK258.out) hb); have n2_ := Aside0.mk (zT (by repeat (first | (with_reducible first | exact HB.out | apply zA | apply zN | apply zD | refine zP ?_ GE257.out | refine zP ?_ GE258.out) | exact HB.out)) hb); have n3_ := Aside0.mk (hbox); have n4_ := Aside0.mk ((by rw [hg]; exact (zS (by repeat (first | (with_reducible first | exact HB.out | apply zA | apply zN | apply zD | refine zP ?_ GE257.out | refine zP ?_ GE258.out) | exact HB.out))) : w.heap.size ≤ gb259)); have n5_ := n4_; have n6_ := Aside0.mk ((by rw [hg]; exact Nat.ne_of_lt (blk_lt (g := gb257) (o := .cells #[.int .i64 a0_0, .int .i64 a0_1, .slice A0_2 l0_2.length c0_2, .slice A0_3 l0_3.length c0_3, .slice A0_4 l0_4.length c0_4] 52 (0, 0)) (by (with_reducible repeat (first | refine yN ?_ _ | refine yD ?_ | refine yA ?_ _)); exact BK257.out)) : gb257 ≠ gb259)); have n7_ := Aside0.mk ((by rw [hg]; exact Nat.ne_of_gt (blk_lt (g := gb257) (o := .cells #[.int .i64 a0_0, .int .i64 a0_1, .slice A0_2 l0_2.length c0_2, .slice A0_3 l0_3.length c0_3, .slice A0_4 l0_4.length c0_4] 52 (0, 0)) (by (with_reducible repeat (first | refine yN ?_ _ | refine yD ?_ | refine yA ?_ _)); exact BK257.out)) : gb259 ≠ gb257)); have n8_ := Aside0.mk ((by rw [hg]; exact Nat.ne_of_lt (blk_lt (g := gb258) (o := .cells #[.int .i64 a1_0, .int .i64 a1_1, .slice A1_2 l1_2.length c1_2, .slice A1_3 l1_3.length c1_3, .slice A1_4 l1_4.length c1_4] 52 (0, 0)) (by (with_reducible repeat (first | refine yN ?_ _ | refine yD ?_ | refine yA ?_ _)); exact BK258.out)) : gb258 ≠ gb259)); have n9_ := Aside0.mk ((by rw [hg]; exact Nat.ne_of_gt (blk_lt (g := gb258) (o := .cells #[.int .i64 a1_0, .int .i64 a1_1, .slice A1_2 l1_2.length c1_2, .slice A1_3 l1_3.length c1_3, .slice A1_4 l1_4.length c1_4] 52 (0, 0)) (by (with_reducible repeat (first | refine yN ?_ _ | refine yD ?_ | refine yA ?_ _)); exact BK258.out)) : gb259 ≠ gb258)); clear BK257; clear BK258; clear HB; have BK257 := n0_; have BK258 := n1_; have HB := n2_; have BK259 := n3_; have GW259 := n4_; have GE259 := n5_; have NB257_259 := n6_; have NB259_257 := n7_; have NB258_259 := n8_; have NB259_258 := n9_; clear n0_ n1_ n2_ n3_ n4_ n5_ n6_ n7_ n8_ n9_; clear hb hbox hg))
 have n0_ := Aside0.mk (yD BK257.out)
 have n1_ := Aside0.mk (yD BK258.out)
 have n2_ := Aside0.mk (yD BK259.out)
 have n3_ := Aside0.mk (zD HB.out)
 clear BK257
 clear BK258
 clear BK259
 clear HB
 have BK257 := n0_
 have BK258 := n1_
 have BK259 := n2_
 have HB := n3_
 clear n0_ n1_ n2_ n3_
 refine start_ (n := 29) (S := fun w' => w'.cell? ⟨gb257, 0, none⟩ = some (.int .i64 a0_0) ∧ w'.cell? ⟨gb257, 1, none⟩ = some (.int .i64 a0_1) ∧ w'.cell? ⟨gb257, 2, none⟩ = some (.slice A0_2 l0_2.length c0_2) ∧ w'.cell? ⟨gb257, 3, none⟩ = some (.slice A0_3 l0_3.length c0_3) ∧ w'.cell? ⟨gb257, 4, none⟩ = some (.slice A0_4 l0_4.length c0_4) ∧ w'.cell? ⟨gb258, 0, none⟩ = some (.int .i64 a1_0) ∧ w'.cell? ⟨gb258, 1, none⟩ = some (.int .i64 a1_1) ∧ w'.cell? ⟨gb258, 2, none⟩ = some (.slice A1_2 l1_2.length c1_2) ∧ w'.cell? ⟨gb258, 3, none⟩ = some (.slice A1_3 l1_3.length c1_3) ∧ w'.cell? ⟨gb258, 4, none⟩ = some (.slice A1_4 l1_4.length c1_4)) (ds := []) #[false, false, false, false, false, false, false, false, false, false, false, false, false, false, false, false, false, false, false, false, false, false, false, false, false, false, false, false, false] (by kernel_rfl) rfl rfl ⟨(blk_cell BK257.out 0).trans rfl, (blk_cell BK257.out 1).trans rfl, (blk_cell BK257.out 2).trans rfl, (blk_cell BK257.out 3).trans rfl, (blk_cell BK257.out 4).trans rfl, (blk_cell BK258.out 0).trans rfl, (blk_cell BK258.out 1).trans rfl, (blk_cell BK258.out 2).trans rfl, (blk_cell BK258.out 3).trans rfl, (blk_cell BK258.out 4).trans rfl⟩ (fun hHeld => ?_); refine with_tabW cutroomref20_Join.tab1 cutroomref20_Join.bits1 (fun HT_ HW_ => ?_)
 generalize w8.drew = w9 at BK257 BK258 BK259 HB hHeld ⊢
 refine Abb.pS 0 5 #[T', F', F', F', F', F', F', F', F', F', F', F', F', F', F', F', F', F', F', F', F', F', F', F', F', F', F', F', F'] HT_ ?_
 refine Abb.pS 2 7 #[T', F', T', F', F', F', F', F', F', F', F', F', F', F', F', F', F', F', F', F', F', F', F', F', F', F', F', F', F'] HT_ ?_
 refine Abb.pS 4 9 #[T', F', T', F', T', F', F', F', F', F', F', F', F', F', F', F', F', F', F', F', F', F', F', F', F', F', F', F', F'] HT_ ?_
 refine Abb.pS 6 11 #[T', F', T', F', T', F', T', F', F', F', F', F', F', F', F', F', F', F', F', F', F', F', F', F', F', F', F', F', F'] HT_ ?_
 refine Abb.pS 8 13 #[T', F', T', F', T', F', T', F', T', F', F', F', F', F', F', F', F', F', F', F', F', F', F', F', F', F', F', F', F'] HT_ ?_
 refine Abb.pS 11 16 #[T', F', T', F', T', F', T', F', T', F', F', T', F', F', F', F', F', F', F', F', F', F', F', F', F', F', F', F', F'] HT_ ?_
 refine Abb.pS 13 18 #[T', F', T', F', T', F', T', F', T', F', F', T', F', T', F', F', F', F', F', F', F', F', F', F', F', F', F', F', F'] HT_ ?_
 refine Abb.pS 15 20 #[T', F', T', F', T', F', T', F', T', F', F', T', F', T', F', T', F', F', F', F', F', F', F', F', F', F', F', F', F'] HT_ ?_
 refine Abb.pS 19 24 #[T', F', T', F', T', F', T', F', T', F', F', T', F', T', F', T', F', F', F', T', F', F', F', F', F', F', F', F', F'] HT_ ?_
 refine Abb.pS 21 26 #[T', F', T', F', T', F', T', F', T', F', F', T', F', T', F', T', F', F', F', T', F', T', F', F', F', F', F', F', F'] HT_ ?_
 refine Abb.pS 23 28 #[T', F', T', F', T', F', T', F', T', F', F', T', F', T', F', T', F', F', F', T', F', T', F', T', F', F', F', F', F'] HT_ ?_
 refine Abb.pT 1 6 #[T', T', T', F', T', F', T', F', T', F', F', T', F', T', F', T', F', F', F', T', F', T', F', T', F', F', F', F', F'] HT_ HW_ hHeld ?_
 refine Abb.pT 3 8 #[T', T', T', T', T', F', T', F', T', F', F', T', F', T', F', T', F', F', F', T', F', T', F', T', F', F', F', F', F'] HT_ HW_ hHeld ?_
 refine Abb.pT 5 10 #[T', T', T', T', T', T', T', F', T', F', F', T', F', T', F', T', F', F', F', T', F', T', F', T', F', F', F', F', F'] HT_ HW_ hHeld ?_
 refine Abb.pT 7 12 #[T', T', T', T', T', T', T', T', T', F', F', T', F', T', F', T', F', F', F', T', F', T', F', T', F', F', F', F', F'] HT_ HW_ hHeld ?_
 refine Abb.pT 9 14 #[T', T', T', T', T', T', T', T', T', T', F', T', F', T', F', T', F', F', F', T', F', T', F', T', F', F', F', F', F'] HT_ HW_ hHeld ?_
 refine Abb.pT 12 17 #[T', T', T', T', T', T', T', T', T', T', F', T', T', T', F', T', F', F', F', T', F', T', F', T', F', F', F', F', F'] HT_ HW_ hHeld ?_
 refine Abb.pT 14 19 #[T', T', T', T', T', T', T', T', T', T', F', T', T', T', T', T', F', F', F', T', F', T', F', T', F', F', F', F', F'] HT_ HW_ hHeld ?_
 refine Abb.pT 16 21 #[T', T', T', T', T', T', T', T', T', T', F', T', T', T', T', T', T', F', F', T', F', T', F', T', F', F', F', F', F'] HT_ HW_ hHeld ?_
 refine Abb.pS 17 22 #[T', T', T', T', T', T', T', T', T', T', F', T', T', T', T', T', T', T', F', T', F', T', F', T', F', F', F', F', F'] HT_ ?_
 refine Abb.pT 20 25 #[T', T', T', T', T', T', T', T', T', T', F', T', T', T', T', T', T', T', F', T', T', T', F', T', F', F', F', F', F'] HT_ HW_ hHeld ?_
 refine Abb.pT 22 27 #[T', T', T', T', T', T', T', T', T', T', F', T', T', T', T', T', T', T', F', T', T', T', T', T', F', F', F', F', F'] HT_ HW_ hHeld ?_
 refine Abb.pT 24 29 #[T', T', T', T', T', T', T', T', T', T', F', T', T', T', T', T', T', T', F', T', T', T', T', T', T', F', F', F', F'] HT_ HW_ hHeld ?_
 refine Abb.pS 25 30 #[T', T', T', T', T', T', T', T', T', T', F', T', T', T', T', T', T', T', F', T', T', T', T', T', T', T', F', F', F'] HT_ ?_
 refine one_ (i := 10) (N := some 15) #[T', T', T', T', T', T', T', T', T', T', T', T', T', T', T', T', T', T', F', T', T', T', T', T', T', T', F', F', F'] rfl rfl (one_of HT_.out (by kernel_rfl)) (by decide) (fun K hK => ?_)
 refine goes_ Try.func65 (by kernel_rfl) rfl #[.slice A0_2 l0_2.length c0_2, .slice A1_2 l1_2.length c1_2, .int .i64 a0_0] (by rfl) rfl rfl (by (try simp only [List.map_toArray, List.map_cons, List.map_nil]); first | done | rfl | (simp only [List.length_drop, List.length_take]; rfl)) ?_
 with_reducible refine (cutroomref20_lines.calls k _ _ l0_2 _ _ l1_2 a0_0 t260 _ ?side1 ?side2 ?side3 ?side4 A3.out).mono ?_
 (case side1 => repeat (first | exact (Kd.C_below HR0_2.out HB.out) | (with_reducible refine Kd.C_alloc ?_ _) | (with_reducible refine Kd.C_drewN ?_ _) | (with_reducible refine Kd.C_drew ?_)))
 (case side2 => exact HC0_2.out)
 (case side3 => repeat (first | exact (Kd.C_below HR1_2.out HB.out) | (with_reducible refine Kd.C_alloc ?_ _) | (with_reducible refine Kd.C_drewN ?_ _) | (with_reducible refine Kd.C_drew ?_)))
 (case side4 => exact HC1_2.out)
 rintro e w10 ⟨v261, rfl, ho0, hb⟩
 refine ⟨_, rfl, ?_⟩
 have n0_ := Aside0.mk (Kd.R_lower ho0 (zS (by repeat (first | (with_reducible first | exact HB.out | apply zA | apply zN | apply zD | refine zP ?_ GE257.out | refine zP ?_ GE258.out | refine zP ?_ GE259.out) | exact HB.out))))
 have n1_ := Aside0.mk (yB (g := gb257) (o := .cells #[.int .i64 a0_0, .int .i64 a0_1, .slice A0_2 l0_2.length c0_2, .slice A0_3 l0_3.length c0_3, .slice A0_4 l0_4.length c0_4] 52 (0, 0)) (by (with_reducible repeat (first | refine yN ?_ _ | refine yD ?_ | refine yA ?_ _)); exact BK257.out) hb)
 have n2_ := Aside0.mk (yB (g := gb258) (o := .cells #[.int .i64 a1_0, .int .i64 a1_1, .slice A1_2 l1_2.length c1_2, .slice A1_3 l1_3.length c1_3, .slice A1_4 l1_4.length c1_4] 52 (0, 0)) (by (with_reducible repeat (first | refine yN ?_ _ | refine yD ?_ | refine yA ?_ _)); exact BK258.out) hb)
 have n3_ := Aside0.mk (yB (g := gb259) (o := .cells #[.int .i64 0, .int .i64 0, .slice none 0 0, .slice none 0 0, .slice none 0 0] 52 (0, 0)) (by (with_reducible repeat (first | refine yN ?_ _ | refine yD ?_ | refine yA ?_ _)); exact BK259.out) hb)
 have n4_ := Aside0.mk (zT (by repeat (first | (with_reducible first | exact HB.out | apply zA | apply zN | apply zD | refine zP ?_ GE257.out | refine zP ?_ GE258.out | refine zP ?_ GE259.out) | exact HB.out)) hb)
 clear BK257
 clear BK258
 clear BK259
 clear HB
 have HO262 := n0_
 have BK257 := n1_
 have BK258 := n2_
 have BK259 := n3_
 have HB := n4_
 clear n0_ n1_ n2_ n3_ n4_
 (try clear hb)
 (try clear hb2)
 (try clear hk)
 (try clear hi)
 (try clear ho0)
 refine hK.out _ _ ⟨(blk_cell BK257.out 0).trans rfl, (blk_cell BK257.out 1).trans rfl, (blk_cell BK257.out 2).trans rfl, (blk_cell BK257.out 3).trans rfl, (blk_cell BK257.out 4).trans rfl, (blk_cell BK258.out 0).trans rfl, (blk_cell BK258.out 1).trans rfl, (blk_cell BK258.out 2).trans rfl, (blk_cell BK258.out 3).trans rfl, (blk_cell BK258.out 4).trans rfl⟩ (fun hHeld => ?_)
 clear hK K
 refine norm_ (a' := ?_) ?_ ?_
 rotate_left
 ·show Act.put _ (some 15) _ = _
  simp only [Act.put, sA, sZ, sS, i64_w, i32_w]
  rfl
 refine one_ (i := 18) (N := some 23) #[T', T', T', T', T', T', T', T', T', T', T', T', T', T', T', T', T', T', T', T', T', T', T', T', T', T', F', F', F'] rfl rfl (one_of HT_.out (by kernel_rfl)) (by decide) (fun K hK => ?_)
 refine goes_ Try.func65 (by kernel_rfl) rfl #[.slice A0_3 l0_3.length c0_3, .slice A1_3 l1_3.length c1_3, .int .i64 (wrap64 (Int.tdiv a0_0 2))] (by rfl) rfl rfl (by (try simp only [List.map_toArray, List.map_cons, List.map_nil]); first | done | rfl | (simp only [List.length_drop, List.length_take]; rfl)) ?_
 with_reducible refine (cutroomref20_lines.calls k _ _ l0_3 _ _ l1_3 (wrap64 (Int.tdiv a0_0 2)) t263 _ ?side1 ?side2 ?side3 ?side4 A4.out).mono ?_
 (case side1 => repeat (first | exact (Kd.C_below HR0_3.out HB.out) | (with_reducible refine Kd.C_alloc ?_ _) | (with_reducible refine Kd.C_drewN ?_ _) | (with_reducible refine Kd.C_drew ?_)))
 (case side2 => exact HC0_3.out)
 (case side3 => repeat (first | exact (Kd.C_below HR1_3.out HB.out) | (with_reducible refine Kd.C_alloc ?_ _) | (with_reducible refine Kd.C_drewN ?_ _) | (with_reducible refine Kd.C_drew ?_)))
 (case side4 => exact HC1_3.out)
 rintro e w11 ⟨v264, rfl, ho0, hb⟩
 refine ⟨_, rfl, ?_⟩
 have n0_ := Aside0.mk (Kd.R_elder' (by (with_reducible repeat (first | apply Kd.R_alloc | apply Kd.R_drewN | apply Kd.R_drew)); exact HO262.out) (Kd.R_base ho0) hb)
 have n1_ := Aside0.mk (Kd.R_lower (Kd.R_new' ho0 (Kd.R_lt (by (with_reducible repeat (first | apply Kd.R_alloc | apply Kd.R_drewN | apply Kd.R_drew)); exact HO262.out))) (zS (by repeat (first | (with_reducible first | exact HB.out | apply zA | apply zN | apply zD | refine zP ?_ GE257.out | refine zP ?_ GE258.out | refine zP ?_ GE259.out) | exact HB.out))))
 have n2_ := Aside0.mk (yB (g := gb257) (o := .cells #[.int .i64 a0_0, .int .i64 a0_1, .slice A0_2 l0_2.length c0_2, .slice A0_3 l0_3.length c0_3, .slice A0_4 l0_4.length c0_4] 52 (0, 0)) (by (with_reducible repeat (first | refine yN ?_ _ | refine yD ?_ | refine yA ?_ _)); exact BK257.out) hb)
 have n3_ := Aside0.mk (yB (g := gb258) (o := .cells #[.int .i64 a1_0, .int .i64 a1_1, .slice A1_2 l1_2.length c1_2, .slice A1_3 l1_3.length c1_3, .slice A1_4 l1_4.length c1_4] 52 (0, 0)) (by (with_reducible repeat (first | refine yN ?_ _ | refine yD ?_ | refine yA ?_ _)); exact BK258.out) hb)
 have n4_ := Aside0.mk (yB (g := gb259) (o := .cells #[.int .i64 0, .int .i64 0, .slice none 0 0, .slice none 0 0, .slice none 0 0] 52 (0, 0)) (by (with_reducible repeat (first | refine yN ?_ _ | refine yD ?_ | refine yA ?_ _)); exact BK259.out) hb)
 have n5_ := Aside0.mk (zT (by repeat (first | (with_reducible first | exact HB.out | apply zA | apply zN | apply zD | refine zP ?_ GE257.out | refine zP ?_ GE258.out | refine zP ?_ GE259.out) | exact HB.out)) hb)
 clear HO262
 clear BK257
 clear BK258
 clear BK259
 clear HB
 have HO262 := n0_
 have HO265 := n1_
 have BK257 := n2_
 have BK258 := n3_
 have BK259 := n4_
 have HB := n5_
 clear n0_ n1_ n2_ n3_ n4_ n5_
 (try clear hb)
 (try clear hb2)
 (try clear hk)
 (try clear hi)
 (try clear ho0)
 refine hK.out _ _ ⟨(blk_cell BK257.out 0).trans rfl, (blk_cell BK257.out 1).trans rfl, (blk_cell BK257.out 2).trans rfl, (blk_cell BK257.out 3).trans rfl, (blk_cell BK257.out 4).trans rfl, (blk_cell BK258.out 0).trans rfl, (blk_cell BK258.out 1).trans rfl, (blk_cell BK258.out 2).trans rfl, (blk_cell BK258.out 3).trans rfl, (blk_cell BK258.out 4).trans rfl⟩ (fun hHeld => ?_)
 clear hK K
 refine norm_ (a' := ?_) ?_ ?_
 rotate_left
 ·show Act.put _ (some 23) _ = _
  simp only [Act.put, sA, sZ, sS, i64_w, i32_w]
  rfl
 refine one_ (i := 26) (N := some 31) #[T', T', T', T', T', T', T', T', T', T', T', T', T', T', T', T', T', T', T', T', T', T', T', T', T', T', T', F', F'] rfl rfl (one_of HT_.out (by kernel_rfl)) (by decide) (fun K hK => ?_)
 refine goes_ Try.func65 (by kernel_rfl) rfl #[.slice A0_4 l0_4.length c0_4, .slice A1_4 l1_4.length c1_4, .int .i64 (wrap64 (Int.tdiv a0_0 2))] (by rfl) rfl rfl (by (try simp only [List.map_toArray, List.map_cons, List.map_nil]); first | done | rfl | (simp only [List.length_drop, List.length_take]; rfl)) ?_
 with_reducible refine (cutroomref20_lines.calls k _ _ l0_4 _ _ l1_4 (wrap64 (Int.tdiv a0_0 2)) t266 _ ?side1 ?side2 ?side3 ?side4 A5.out).mono ?_
 (case side1 => repeat (first | exact (Kd.C_below HR0_4.out HB.out) | (with_reducible refine Kd.C_alloc ?_ _) | (with_reducible refine Kd.C_drewN ?_ _) | (with_reducible refine Kd.C_drew ?_)))
 (case side2 => exact HC0_4.out)
 (case side3 => repeat (first | exact (Kd.C_below HR1_4.out HB.out) | (with_reducible refine Kd.C_alloc ?_ _) | (with_reducible refine Kd.C_drewN ?_ _) | (with_reducible refine Kd.C_drew ?_)))
 (case side4 => exact HC1_4.out)
 rintro e w12 ⟨v267, rfl, ho0, hb⟩
 refine ⟨_, rfl, ?_⟩
 have n0_ := Aside0.mk (Kd.R_elder' (by (with_reducible repeat (first | apply Kd.R_alloc | apply Kd.R_drewN | apply Kd.R_drew)); exact HO262.out) (Kd.R_base ho0) hb)
 have n1_ := Aside0.mk (Kd.R_elder' (by (with_reducible repeat (first | apply Kd.R_alloc | apply Kd.R_drewN | apply Kd.R_drew)); exact HO265.out) (Kd.R_base ho0) hb)
 have n2_ := Aside0.mk (Kd.R_lower (Kd.R_new' (Kd.R_new' ho0 (Kd.R_lt (by (with_reducible repeat (first | apply Kd.R_alloc | apply Kd.R_drewN | apply Kd.R_drew)); exact HO262.out))) (Kd.R_lt (by (with_reducible repeat (first | apply Kd.R_alloc | apply Kd.R_drewN | apply Kd.R_drew)); exact HO265.out))) (zS (by repeat (first | (with_reducible first | exact HB.out | apply zA | apply zN | apply zD | refine zP ?_ GE257.out | refine zP ?_ GE258.out | refine zP ?_ GE259.out) | exact HB.out))))
 have n3_ := Aside0.mk (yB (g := gb257) (o := .cells #[.int .i64 a0_0, .int .i64 a0_1, .slice A0_2 l0_2.length c0_2, .slice A0_3 l0_3.length c0_3, .slice A0_4 l0_4.length c0_4] 52 (0, 0)) (by (with_reducible repeat (first | refine yN ?_ _ | refine yD ?_ | refine yA ?_ _)); exact BK257.out) hb)
 have n4_ := Aside0.mk (yB (g := gb258) (o := .cells #[.int .i64 a1_0, .int .i64 a1_1, .slice A1_2 l1_2.length c1_2, .slice A1_3 l1_3.length c1_3, .slice A1_4 l1_4.length c1_4] 52 (0, 0)) (by (with_reducible repeat (first | refine yN ?_ _ | refine yD ?_ | refine yA ?_ _)); exact BK258.out) hb)
 have n5_ := Aside0.mk (yB (g := gb259) (o := .cells #[.int .i64 0, .int .i64 0, .slice none 0 0, .slice none 0 0, .slice none 0 0] 52 (0, 0)) (by (with_reducible repeat (first | refine yN ?_ _ | refine yD ?_ | refine yA ?_ _)); exact BK259.out) hb)
 have n6_ := Aside0.mk (zT (by repeat (first | (with_reducible first | exact HB.out | apply zA | apply zN | apply zD | refine zP ?_ GE257.out | refine zP ?_ GE258.out | refine zP ?_ GE259.out) | exact HB.out)) hb)
 clear HO262
 clear HO265
 clear BK257
 clear BK258
 clear BK259
 clear HB
 have HO262 := n0_
 have HO265 := n1_
 have HO268 := n2_
 have BK257 := n3_
 have BK258 := n4_
 have BK259 := n5_
 have HB := n6_
 clear n0_ n1_ n2_ n3_ n4_ n5_ n6_
 (try clear hb)
 (try clear hb2)
 (try clear hk)
 (try clear hi)
 (try clear ho0)
 obtain ⟨Ao13, co13, eo13⟩ := Kd.R_slice HO268.out
 (first | subst eo13 | (injection eo13 with f1_ f2_ f3_; have f4_ := f1_.symm; have f5_ := f3_.symm; clear f1_ f2_ f3_; subst f4_; subst f5_))
 obtain ⟨Ao14, co14, eo14⟩ := Kd.R_slice HO265.out
 (first | subst eo14 | (injection eo14 with f1_ f2_ f3_; have f4_ := f1_.symm; have f5_ := f3_.symm; clear f1_ f2_ f3_; subst f4_; subst f5_))
 obtain ⟨Ao15, co15, eo15⟩ := Kd.R_slice HO262.out
 (first | subst eo15 | (injection eo15 with f1_ f2_ f3_; have f4_ := f1_.symm; have f5_ := f3_.symm; clear f1_ f2_ f3_; subst f4_; subst f5_))
 refine hK.out _ _ ⟨(blk_cell BK257.out 0).trans rfl, (blk_cell BK257.out 1).trans rfl, (blk_cell BK257.out 2).trans rfl, (blk_cell BK257.out 3).trans rfl, (blk_cell BK257.out 4).trans rfl, (blk_cell BK258.out 0).trans rfl, (blk_cell BK258.out 1).trans rfl, (blk_cell BK258.out 2).trans rfl, (blk_cell BK258.out 3).trans rfl, (blk_cell BK258.out 4).trans rfl⟩ (fun hHeld => ?_)
 clear hK K
 refine norm_ (a' := ?_) ?_ ?_
 rotate_left
 ·show Act.put _ (some 31) _ = _
  simp only [Act.put, sA, sZ, sS, i64_w, i32_w]
  rfl
 refine Abb.pS 27 32 #[T', T', T', T', T', T', T', T', T', T', T', T', T', T', T', T', T', T', T', T', T', T', T', T', T', T', T', T', F'] HT_ ?_
 refine one_ (i := 28) (N := none) #[T', T', T', T', T', T', T', T', T', T', T', T', T', T', T', T', T', T', T', T', T', T', T', T', T', T', T', T', T'] rfl rfl (one_of HT_.out (by kernel_rfl)) (by decide) (fun K hK => ?_)
 have hs16 : w12.cell? ⟨gb259, 0, none⟩ = some (.int .i64 0) := (blk_cell BK259.out 0).trans rfl
 have hfs16 := blk_frozen BK259.out 0
 have hns16_0 := NB257_259.out
 have hns16_1 := NB258_259.out
 have hms16_0 := NB259_257.out
 have hms16_1 := NB259_258.out
 have hs17 : w12.cell? ⟨gb259, 1, none⟩ = some (.int .i64 0) := (blk_cell BK259.out 1).trans rfl
 have hfs17 := blk_frozen BK259.out 1
 have hns17_0 := NB257_259.out
 have hns17_1 := NB258_259.out
 have hms17_0 := NB259_257.out
 have hms17_1 := NB259_258.out
 have hs18 : w12.cell? ⟨gb259, 2, none⟩ = some (.slice none 0 0) := (blk_cell BK259.out 2).trans rfl
 have hfs18 := blk_frozen BK259.out 2
 have hns18_0 := NB257_259.out
 have hns18_1 := NB258_259.out
 have hms18_0 := NB259_257.out
 have hms18_1 := NB259_258.out
 have hs19 : w12.cell? ⟨gb259, 3, none⟩ = some (.slice none 0 0) := (blk_cell BK259.out 3).trans rfl
 have hfs19 := blk_frozen BK259.out 3
 have hns19_0 := NB257_259.out
 have hns19_1 := NB258_259.out
 have hms19_0 := NB259_257.out
 have hms19_1 := NB259_258.out
 have hs20 : w12.cell? ⟨gb259, 4, none⟩ = some (.slice none 0 0) := (blk_cell BK259.out 4).trans rfl
 have hfs20 := blk_frozen BK259.out 4
 have hns20_0 := NB257_259.out
 have hns20_1 := NB258_259.out
 have hms20_0 := NB259_257.out
 have hms20_1 := NB259_258.out
 refine skip_ (w1 := ?_) (by rfl) rfl ?_ ?_
 rotate_left
 ·go_simp
  rfl
 refine hK.out _ _ ⟨((xF (p := ⟨gb259, _, none⟩) NB257_259.out _).trans (((xF (p := ⟨gb259, _, none⟩) NB257_259.out _).trans (((xF (p := ⟨gb259, _, none⟩) NB257_259.out _).trans (((xF (p := ⟨gb259, _, none⟩) NB257_259.out _).trans (((xF (p := ⟨gb259, _, none⟩) NB257_259.out _).trans (hHeld.1)))))))))), ((xF (p := ⟨gb259, _, none⟩) NB257_259.out _).trans (((xF (p := ⟨gb259, _, none⟩) NB257_259.out _).trans (((xF (p := ⟨gb259, _, none⟩) NB257_259.out _).trans (((xF (p := ⟨gb259, _, none⟩) NB257_259.out _).trans (((xF (p := ⟨gb259, _, none⟩) NB257_259.out _).trans (hHeld.2.1)))))))))), ((xF (p := ⟨gb259, _, none⟩) NB257_259.out _).trans (((xF (p := ⟨gb259, _, none⟩) NB257_259.out _).trans (((xF (p := ⟨gb259, _, none⟩) NB257_259.out _).trans (((xF (p := ⟨gb259, _, none⟩) NB257_259.out _).trans (((xF (p := ⟨gb259, _, none⟩) NB257_259.out _).trans (hHeld.2.2.1)))))))))), ((xF (p := ⟨gb259, _, none⟩) NB257_259.out _).trans (((xF (p := ⟨gb259, _, none⟩) NB257_259.out _).trans (((xF (p := ⟨gb259, _, none⟩) NB257_259.out _).trans (((xF (p := ⟨gb259, _, none⟩) NB257_259.out _).trans (((xF (p := ⟨gb259, _, none⟩) NB257_259.out _).trans (hHeld.2.2.2.1)))))))))), ((xF (p := ⟨gb259, _, none⟩) NB257_259.out _).trans (((xF (p := ⟨gb259, _, none⟩) NB257_259.out _).trans (((xF (p := ⟨gb259, _, none⟩) NB257_259.out _).trans (((xF (p := ⟨gb259, _, none⟩) NB257_259.out _).trans (((xF (p := ⟨gb259, _, none⟩) NB257_259.out _).trans (hHeld.2.2.2.2.1)))))))))), ((xF (p := ⟨gb259, _, none⟩) NB258_259.out _).trans (((xF (p := ⟨gb259, _, none⟩) NB258_259.out _).trans (((xF (p := ⟨gb259, _, none⟩) NB258_259.out _).trans (((xF (p := ⟨gb259, _, none⟩) NB258_259.out _).trans (((xF (p := ⟨gb259, _, none⟩) NB258_259.out _).trans (hHeld.2.2.2.2.2.1)))))))))), ((xF (p := ⟨gb259, _, none⟩) NB258_259.out _).trans (((xF (p := ⟨gb259, _, none⟩) NB258_259.out _).trans (((xF (p := ⟨gb259, _, none⟩) NB258_259.out _).trans (((xF (p := ⟨gb259, _, none⟩) NB258_259.out _).trans (((xF (p := ⟨gb259, _, none⟩) NB258_259.out _).trans (hHeld.2.2.2.2.2.2.1)))))))))), ((xF (p := ⟨gb259, _, none⟩) NB258_259.out _).trans (((xF (p := ⟨gb259, _, none⟩) NB258_259.out _).trans (((xF (p := ⟨gb259, _, none⟩) NB258_259.out _).trans (((xF (p := ⟨gb259, _, none⟩) NB258_259.out _).trans (((xF (p := ⟨gb259, _, none⟩) NB258_259.out _).trans (hHeld.2.2.2.2.2.2.2.1)))))))))), ((xF (p := ⟨gb259, _, none⟩) NB258_259.out _).trans (((xF (p := ⟨gb259, _, none⟩) NB258_259.out _).trans (((xF (p := ⟨gb259, _, none⟩) NB258_259.out _).trans (((xF (p := ⟨gb259, _, none⟩) NB258_259.out _).trans (((xF (p := ⟨gb259, _, none⟩) NB258_259.out _).trans (hHeld.2.2.2.2.2.2.2.2.1)))))))))), ((xF (p := ⟨gb259, _, none⟩) NB258_259.out _).trans (((xF (p := ⟨gb259, _, none⟩) NB258_259.out _).trans (((xF (p := ⟨gb259, _, none⟩) NB258_259.out _).trans (((xF (p := ⟨gb259, _, none⟩) NB258_259.out _).trans (((xF (p := ⟨gb259, _, none⟩) NB258_259.out _).trans (hHeld.2.2.2.2.2.2.2.2.2))))))))))⟩ (fun hHeld => ?_)
 clear hK K
 refine done_ (done_of HT_.out (by kernel_rfl)) ?_
 try go_wp2
 refine bodyPost_ret (results_cell_row rfl _ _ gb259 52 #[.int .i64 a0_0, .int .i64 a0_1, .slice Ao15 t260.length co15, .slice Ao14 t263.length co14, .slice Ao13 t266.length co13] (0, 0) _ rfl (by (with_reducible repeat (first | refine yN ?_ _ | refine yD ?_ | refine yA ?_ _)); refine blk_put (cs := #[.int .i64 a0_0, .int .i64 a0_1, .slice Ao15 t260.length co15, .slice Ao14 t263.length co14, .slice none 0 0]) ?_ 4 _ rfl; (with_reducible repeat (first | refine yN ?_ _ | refine yD ?_ | refine yA ?_ _)); refine blk_put (cs := #[.int .i64 a0_0, .int .i64 a0_1, .slice Ao15 t260.length co15, .slice none 0 0, .slice none 0 0]) ?_ 3 _ rfl; (with_reducible repeat (first | refine yN ?_ _ | refine yD ?_ | refine yA ?_ _)); refine blk_put (cs := #[.int .i64 a0_0, .int .i64 a0_1, .slice none 0 0, .slice none 0 0, .slice none 0 0]) ?_ 2 _ rfl; (with_reducible repeat (first | refine yN ?_ _ | refine yD ?_ | refine yA ?_ _)); refine blk_put (cs := #[.int .i64 a0_0, .int .i64 0, .slice none 0 0, .slice none 0 0, .slice none 0 0]) ?_ 1 _ rfl; (with_reducible repeat (first | refine yN ?_ _ | refine yD ?_ | refine yA ?_ _)); refine blk_put (cs := #[.int .i64 0, .int .i64 0, .slice none 0 0, .slice none 0 0, .slice none 0 0]) ?_ 0 _ rfl; (with_reducible repeat (first | refine yN ?_ _ | refine yD ?_ | refine yA ?_ _)); exact BK259.out) Try.underlying52 rfl (by kernel_rfl)) rfl ?_
 exact ⟨_, _, _, by first | rfl | (simp [errW_none, errW_some] <;> rfl) | (simp [*, errW_none, errW_some] <;> rfl), by (with_reducible repeat (first | apply Kd.R_alloc | apply Kd.R_drewN | apply Kd.R_drew)); exact Kd.R_mono (Kd.R_far (p := ⟨gb259, 4, none⟩) (Kd.R_far (p := ⟨gb259, 3, none⟩) (Kd.R_far (p := ⟨gb259, 2, none⟩) (Kd.R_far (p := ⟨gb259, 1, none⟩) (Kd.R_far (p := ⟨gb259, 0, none⟩) (Kd.R_types HO262.out BK259.out (by decide)) (fun _ hk => hk.2) (.int .i64 a0_0)) (fun _ hk => hk.2) (.int .i64 a0_1)) (fun _ hk => hk.2) (.slice Ao15 t260.length co15)) (fun _ hk => hk.2) (.slice Ao14 t263.length co14)) (fun _ hk => hk.2) (.slice Ao13 t266.length co13)) (fun _ hk => ⟨hk.1.1.2, hk.1.2⟩), by (with_reducible repeat (first | apply Kd.R_alloc | apply Kd.R_drewN | apply Kd.R_drew)); exact Kd.R_mono (Kd.R_far (p := ⟨gb259, 4, none⟩) (Kd.R_far (p := ⟨gb259, 3, none⟩) (Kd.R_far (p := ⟨gb259, 2, none⟩) (Kd.R_far (p := ⟨gb259, 1, none⟩) (Kd.R_far (p := ⟨gb259, 0, none⟩) (Kd.R_types HO265.out BK259.out (by decide)) (fun _ hk => hk.2) (.int .i64 a0_0)) (fun _ hk => hk.2) (.int .i64 a0_1)) (fun _ hk => hk.2) (.slice Ao15 t260.length co15)) (fun _ hk => hk.2) (.slice Ao14 t263.length co14)) (fun _ hk => hk.2) (.slice Ao13 t266.length co13)) (fun _ hk => ⟨hk.1.1.2, hk.1.2⟩), by (with_reducible repeat (first | apply Kd.R_alloc | apply Kd.R_drewN | apply Kd.R_drew)); exact Kd.R_mono (Kd.R_far (p := ⟨gb259, 4, none⟩) (Kd.R_far (p := ⟨gb259, 3, none⟩) (Kd.R_far (p := ⟨gb259, 2, none⟩) (Kd.R_far (p := ⟨gb259, 1, none⟩) (Kd.R_far (p := ⟨gb259, 0, none⟩) (Kd.R_types HO268.out BK259.out (by decide)) (fun _ hk => hk.2) (.int .i64 a0_0)) (fun _ hk => hk.2) (.int .i64 a0_1)) (fun _ hk => hk.2) (.slice Ao15 t260.length co15)) (fun _ hk => hk.2) (.slice Ao14 t263.length co14)) (fun _ hk => hk.2) (.slice Ao13 t266.length co13)) (fun _ hk => ⟨hk.1.1.2, hk.1.2⟩), by repeat (first | (with_reducible first | exact HB.out | apply zA | apply zN | apply zD | refine zP ?_ GE257.out | refine zP ?_ GE258.out | refine zP ?_ GE259.out) | exact HB.out)⟩

end Go.Proofs.Ytcofjbbflcnaaaa.P
