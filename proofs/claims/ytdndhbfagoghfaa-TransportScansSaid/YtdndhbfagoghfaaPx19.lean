-- Written by this session's own program (wip/tools/myprint.py), which runs the kit's print with turns of its own: not a text of the kit's print.sh.
import Derived.Test.YtdndhbfagoghfaaPx0
import Derived.Test.YtdndhbfagoghfaaPx14
import Derived.Test.YtdndhbfagoghfaaPx15
namespace Go.Proofs.Ytdndhbfagoghfaa.P
open Go.RowKit Go.Proofs.YtdndhbfagoghfaaW.PrintWords Go.Proofs.YtdndhbfagoghfaaW.PrintLast Go.Proofs.YtdndhbfagoghfaaW.PrintMore
open List renaming setIfInBounds_toArray → sA, set_cons_zero → sZ, set_cons_succ → sS
open Bool renaming true → T', false → F'
open Go.Proofs.YtdndhbfagoghfaaW.PrintWords renaming below_alloc → zA, pw_below_drewN → zN, below_drew1 → zD, blk_drewN → yN, blk_drew → yD, blk_alloc → yA, below_size → zS, below_step → zT, blk_below → yB, below_set → zP, cell_far → xF, add_block → xB, gate_callee → xC, gate_dst → xD
attribute [local go_sem] max2_int min2_int max_two min_two max_three min_three max_four min_four   -- for this text's walks alone
set_option linter.unusedVariables false
set_option linter.unusedSimpArgs false

/-! ### cutroomref17_Take: function 18 -/
theorem nE19 {w : World} {p : Addr} {v : Value} {g : Nat} (h : w.cell? p = some v) (hg : w.heap.size ≤ g) : p.block ≠ g := Nat.ne_of_lt (Nat.lt_of_lt_of_le (World.block_lt_of_cell? _ _ h) hg)
theorem nF19 {w : World} {p : Addr} {i : Nat} {v : Value} {g : Nat} (h : w.cell? (p.add i) = some v) (hg : w.heap.size ≤ g) : p.block ≠ g := Nat.ne_of_lt (Nat.lt_of_lt_of_le (by have := World.block_lt_of_cell? _ _ h; rwa [xB] at this) hg)
def cutroomref17_Take.j0 : Nat → List Int → Int → Int → Int → Bool → Int → Option (Int × Int × Bool × Int × List Int × Int)
 | 0, _, _, _, _, _, _ => none
 | k + 1, x0, x5, x334000, x334001, x334002, x334003 => (some (([] : List Int) : List Int)).bind fun y345 => (if 0 ≤ x5 then (if x5 ≤ (x0.length : Int) then (if y345.length + (x0.drop (x5 : Int).toNat).length < 140737488355328 then ((some (y345 ++ (x0.drop (x5 : Int).toNat) : List Int)).bind fun y349 => ((cutroomref17_Put.f k x334000 x334001 x334002 x334003 y349).bind fun bt352 => (if bt352.2 = 0 then ((cutroomref02_SameBytes.f x0 bt352.1).bind fun t356 => (if t356 = true then (some (x334000, x334001, x334002, x334003, y349, 0)) else (some (0, 0, false, 0, ([] : List Int), 3)))) else (some (0, 0, false, 0, ([] : List Int), 3))))) else (none)) else (none)) else (none))
def cutroomref17_Take.f (k : Nat) (l0 : List Int) : Option (Int × Int × Bool × Int × List Int × Int) := if (l0.length : Int) < 188 then (some (0, 0, false, 0, ([] : List Int), 4)) else (if (l0.length : Int) > 188 then (some (0, 0, false, 0, ([] : List Int), 3)) else (if 1 < (l0.length : Int) then (if 2 < (l0.length : Int) then (if 3 < (l0.length : Int) then (if (Go.bits .and .u8 (rd l0 3) 32) = 0 then (cutroomref17_Take.j0 k l0 4 (Go.bits .or .i64 (wrap64 ((wrap64 (Go.bits .and .u8 (rd l0 1) 31)) * 256)) (wrap64 (rd l0 2))) (wrap64 (Go.bits .and .u8 (rd l0 3) 15)) ((Go.bits .and .u8 (rd l0 1) 64) != 0) (-1)) else (if 4 < (l0.length : Int) then (if (rd l0 4) > 6 then (if 5 < (l0.length : Int) then (if (Go.bits .and .u8 (rd l0 5) 16) = 0 then (cutroomref17_Take.j0 k l0 (mn (wrap64 (5 + (wrap64 (rd l0 4)))) 188) (Go.bits .or .i64 (wrap64 ((wrap64 (Go.bits .and .u8 (rd l0 1) 31)) * 256)) (wrap64 (rd l0 2))) (wrap64 (Go.bits .and .u8 (rd l0 3) 15)) ((Go.bits .and .u8 (rd l0 1) 64) != 0) (-1)) else (if 6 < (l0.length : Int) then (if 7 < (l0.length : Int) then (if 8 < (l0.length : Int) then (if 9 < (l0.length : Int) then (if 10 < (l0.length : Int) then (if 11 < (l0.length : Int) then (cutroomref17_Take.j0 k l0 (mn (wrap64 (5 + (wrap64 (rd l0 4)))) 188) (Go.bits .or .i64 (wrap64 ((wrap64 (Go.bits .and .u8 (rd l0 1) 31)) * 256)) (wrap64 (rd l0 2))) (wrap64 (Go.bits .and .u8 (rd l0 3) 15)) ((Go.bits .and .u8 (rd l0 1) 64) != 0) (wrap64 ((wrap64 ((wrap64 ((Go.bits .or .i64 (Go.bits .or .i64 (Go.bits .or .i64 (Go.bits .or .i64 (wrap64 ((wrap64 (rd l0 6)) * 33554432)) (wrap64 ((wrap64 (rd l0 7)) * 131072))) (wrap64 ((wrap64 (rd l0 8)) * 512))) (wrap64 ((wrap64 (rd l0 9)) * 2))) (wrap64 ((rd l0 10) / 128))) * 300)) + (wrap64 ((wrap64 (Go.bits .and .u8 (rd l0 10) 1)) * 256)))) + (wrap64 (rd l0 11))))) else (none)) else (none)) else (none)) else (none)) else (none)) else (none))) else (none)) else (cutroomref17_Take.j0 k l0 (mn (wrap64 (5 + (wrap64 (rd l0 4)))) 188) (Go.bits .or .i64 (wrap64 ((wrap64 (Go.bits .and .u8 (rd l0 1) 31)) * 256)) (wrap64 (rd l0 2))) (wrap64 (Go.bits .and .u8 (rd l0 3) 15)) ((Go.bits .and .u8 (rd l0 1) 64) != 0) (-1))) else (none))) else (none)) else (none)) else (none)))
theorem cutroomref17_Take.mono_l : ∀ k, (∀ y0 y1 y2 y3 y4 y5, LeO (cutroomref17_Take.j0 k y0 y1 y2 y3 y4 y5) (cutroomref17_Take.j0 (k + 1) y0 y1 y2 y3 y4 y5))
 | 0 => fun _ _ _ _ _ _ r h => by simp [cutroomref17_Take.j0] at h
 | k + 1 => by
  have ih0 := cutroomref17_Take.mono_l k
  ·intro y0 y1 y2 y3 y4 y5
   unfold cutroomref17_Take.j0
   repeat' first
   | (with_reducible exact ih0 _ _ _ _ _ _)
   | (with_reducible exact cutroomref17_Put.mono _ _ _ _ _ _)
   | (with_reducible exact LeO.refl _)
   | (with_reducible exact LeO.none _)
   | (with_reducible refine LeO.ite ?_ ?_)
   | (with_reducible refine LeO.bind ?_ (fun _ => ?_))
   | exact ih0 _ _ _ _ _ _
   | exact cutroomref17_Put.mono _ _ _ _ _ _
   | exact LeO.none _
   | refine LeO.ite ?_ ?_
   | refine LeO.bind ?_ (fun _ => ?_)
theorem cutroomref17_Take.mono : ∀ a0 k, LeO (cutroomref17_Take.f k a0) (cutroomref17_Take.f (k + 1) a0) := by
 intro a0 k
 have ih0 := cutroomref17_Take.mono_l k
 unfold cutroomref17_Take.f
 repeat' first
   | (with_reducible exact ih0 _ _ _ _ _ _)
   | (with_reducible exact cutroomref17_Put.mono _ _ _ _ _ _)
   | (with_reducible exact LeO.refl _)
   | (with_reducible exact LeO.none _)
   | (with_reducible refine LeO.ite ?_ ?_)
   | (with_reducible refine LeO.bind ?_ (fun _ => ?_))
   | exact ih0 _ _ _ _ _ _
   | exact cutroomref17_Put.mono _ _ _ _ _ _
   | exact LeO.none _
   | refine LeO.ite ?_ ?_
   | refine LeO.bind ?_ (fun _ => ?_)
def cutroomref17_Take.T5 : Bool × List (List Nat × List Nat) := (true, [([], []), ([0], [0]), ([1], [1]), ([2], [2]), ([3], [3]), ([4], [4]), ([], []), ([6], [6]), ([7], [7]), ([8], [8]), ([5, 9], [5, 9]), ([], []), ([11], [11]), ([12], [12]), ([13], [13]), ([14], [14]), ([], []), ([16], [16]), ([17], [17]), ([18], [18]), ([19], [19]), ([10, 15, 20], [10, 15, 20]), ([], []), ([22, 21, 0, 1, 2, 3, 4, 5, 6, 7, 8, 9, 10, 11, 12, 13, 14, 15, 16, 17, 18, 19, 20, 21, 22], [21, 22])])
def cutroomref17_Take.B5 : List Nat := [0, 1, 3, 7, 15, 31, 0, 64, 192, 448, 1023, 0, 2048, 6144, 14336, 30720, 0, 65536, 196608, 458752, 983040, 2097151, 0, 8388607]
theorem cutroomref17_Take.tab5 : rtab .any (opsOf Try.f18 5) = cutroomref17_Take.T5 := by kernel_rfl
theorem cutroomref17_Take.bits5 : waitsOk cutroomref17_Take.T5.2 cutroomref17_Take.B5 = true := by kernel_rfl
def cutroomref17_Take.T10 : Bool × List (List Nat × List Nat) := (true, [([], []), ([0], [0]), ([1], [1]), ([2], [2]), ([3], [3]), ([], []), ([5], [5]), ([6], [6]), ([7], [7]), ([8], [8]), ([4, 9], [4, 9]), ([], []), ([11], [11]), ([12], [12]), ([13], [13]), ([14], [14]), ([10, 15], [10, 15]), ([], []), ([17], [17]), ([18], [18]), ([19], [19]), ([20], [20]), ([16, 21], [16, 21]), ([], []), ([23], [23]), ([24], [24]), ([25], [25]), ([26], [26]), ([22, 27], [22, 27]), ([28, 0, 1, 2, 3, 4, 5, 6, 7, 8, 9, 10, 11, 12, 13, 14, 15, 16, 17, 18, 19, 20, 21, 22, 23, 24, 25, 26, 27, 28], [28])])
def cutroomref17_Take.B10 : List Nat := [0, 1, 3, 7, 15, 0, 32, 96, 224, 480, 1023, 0, 2048, 6144, 14336, 30720, 65535, 0, 131072, 393216, 917504, 1966080, 4194303, 0, 8388608, 25165824, 58720256, 125829120, 268435455, 536870911]
theorem cutroomref17_Take.tab10 : rtab .any (opsOf Try.f18 10) = cutroomref17_Take.T10 := by kernel_rfl
theorem cutroomref17_Take.bits10 : waitsOk cutroomref17_Take.T10.2 cutroomref17_Take.B10 = true := by kernel_rfl
def cutroomref17_Take.T11 : Bool × List (List Nat × List Nat) := (true, [([], []), ([0], [0]), ([], []), ([2], [2]), ([3], [3]), ([4], [4]), ([5], [5]), ([6], [6]), ([1, 7], [1, 7]), ([], []), ([9], [9]), ([10], [10]), ([11], [11]), ([8, 12], [8, 12]), ([0, 1, 2, 3, 4, 5, 6, 7, 8, 9, 10, 11, 12, 13], []), ([14, 13, 0, 1, 2, 3, 4, 5, 6, 7, 8, 9, 10, 11, 12, 13], [13, 14])])
def cutroomref17_Take.B11 : List Nat := [0, 1, 0, 4, 12, 28, 60, 124, 255, 0, 512, 1536, 3584, 8191, 16383, 32767]
theorem cutroomref17_Take.tab11 : rtab .any (opsOf Try.f18 11) = cutroomref17_Take.T11 := by kernel_rfl
theorem cutroomref17_Take.bits11 : waitsOk cutroomref17_Take.T11.2 cutroomref17_Take.B11 = true := by kernel_rfl
set_option maxHeartbeats 20000000 in
set_option maxRecDepth 100000 in
theorem cutroomref17_Take.calls (k : Nat) (A0 : Option Addr) (c0 : Nat) (l0 : List Int) (r1 : Int) (r2 : Int) (r3 : Bool) (r4 : Int) (r5 : List Int) (r6 : Int) (w : World) (hr0 : Kd.C (Kd.int .u8) w A0 l0.length l0) (hc0 : l0.length ≤ c0) (h : cutroomref17_Take.f k l0 = some (r1, r2, r3, r4, r5, r6)) :
  Calls Try.prog 18 #[.slice A0 l0.length c0] w fun e w' => ∃ v4_ : Value, e = .returned (.tuple #[.agg #[.int .i64 r1, .int .i64 r2, .bool r3, .int .i64 r4, v4_], .int .i64 r6]) ∧ Kd.R (Kd.int .u8) 5 w' w.heap.size (fun _ => True) v4_ r5 ∧ Below w.heap.size w w' := by
 have hu24 := Try.underlying24
 have HR0 := Aside0.mk hr0
 have HC0 := Aside0.mk hc0
 clear hr0 hc0
 have HB := Aside0.mk (Below.refl w.heap.size w)
 have H : (if (l0.length : Int) < 188 then (some (0, 0, false, 0, ([] : List Int), 4)) else (if (l0.length : Int) > 188 then (some (0, 0, false, 0, ([] : List Int), 3)) else (if 1 < (l0.length : Int) then (if 2 < (l0.length : Int) then (if 3 < (l0.length : Int) then (if (Go.bits .and .u8 (rd l0 3) 32) = 0 then (cutroomref17_Take.j0 k l0 4 (Go.bits .or .i64 (wrap64 ((wrap64 (Go.bits .and .u8 (rd l0 1) 31)) * 256)) (wrap64 (rd l0 2))) (wrap64 (Go.bits .and .u8 (rd l0 3) 15)) ((Go.bits .and .u8 (rd l0 1) 64) != 0) (-1)) else (if 4 < (l0.length : Int) then (if (rd l0 4) > 6 then (if 5 < (l0.length : Int) then (if (Go.bits .and .u8 (rd l0 5) 16) = 0 then (cutroomref17_Take.j0 k l0 (mn (wrap64 (5 + (wrap64 (rd l0 4)))) 188) (Go.bits .or .i64 (wrap64 ((wrap64 (Go.bits .and .u8 (rd l0 1) 31)) * 256)) (wrap64 (rd l0 2))) (wrap64 (Go.bits .and .u8 (rd l0 3) 15)) ((Go.bits .and .u8 (rd l0 1) 64) != 0) (-1)) else (if 6 < (l0.length : Int) then (if 7 < (l0.length : Int) then (if 8 < (l0.length : Int) then (if 9 < (l0.length : Int) then (if 10 < (l0.length : Int) then (if 11 < (l0.length : Int) then (cutroomref17_Take.j0 k l0 (mn (wrap64 (5 + (wrap64 (rd l0 4)))) 188) (Go.bits .or .i64 (wrap64 ((wrap64 (Go.bits .and .u8 (rd l0 1) 31)) * 256)) (wrap64 (rd l0 2))) (wrap64 (Go.bits .and .u8 (rd l0 3) 15)) ((Go.bits .and .u8 (rd l0 1) 64) != 0) (wrap64 ((wrap64 ((wrap64 ((Go.bits .or .i64 (Go.bits .or .i64 (Go.bits .or .i64 (Go.bits .or .i64 (wrap64 ((wrap64 (rd l0 6)) * 33554432)) (wrap64 ((wrap64 (rd l0 7)) * 131072))) (wrap64 ((wrap64 (rd l0 8)) * 512))) (wrap64 ((wrap64 (rd l0 9)) * 2))) (wrap64 ((rd l0 10) / 128))) * 300)) + (wrap64 ((wrap64 (Go.bits .and .u8 (rd l0 10) 1)) * 256)))) + (wrap64 (rd l0 11))))) else (none)) else (none)) else (none)) else (none)) else (none)) else (none))) else (none)) else (cutroomref17_Take.j0 k l0 (mn (wrap64 (5 + (wrap64 (rd l0 4)))) 188) (Go.bits .or .i64 (wrap64 ((wrap64 (Go.bits .and .u8 (rd l0 1) 31)) * 256)) (wrap64 (rd l0 2))) (wrap64 (Go.bits .and .u8 (rd l0 3) 15)) ((Go.bits .and .u8 (rd l0 1) 64) != 0) (-1))) else (none))) else (none)) else (none)) else (none)))) = some (r1, r2, r3, r4, r5, r6) := h
 clear h
 by_cases c2 : (l0.length : Int) < 188
 ·rw [if_pos c2] at H
  have c2b0 : decide ((l0.length : Int) < 188) = true := decide_eq_true c2
  have c2b1 : decide (l0.length < 188) = true := decide_eq_true (by omega)
  clear c2
  simp only [Option.some.injEq, Prod.mk.injEq] at H
  obtain ⟨rfl, rfl, rfl, rfl, rfl, rfl⟩ := H
  go_enter Try.func18, Try.ntmps18
  go_wp2_with (first | ((with_reducible refine xD (N := 2) rfl ?_); refine box_event ?hg (N := 2) ?hd (cs := #[.int .i64 0, .int .i64 0, .bool false, .int .i64 0, .slice none 0 0]) (t := 24) ?hr ?_; (case hd => rfl); (case hg => rfl); (case hr => first | (go_simp; done) | (go_simp; rfl)); intro gb328 hg w3 hbox hb; have n0_ := Aside0.mk (zT (by repeat (first | (with_reducible first | exact HB.out | apply zA | apply zN | apply zD) | exact HB.out)) hb); have n1_ := Aside0.mk (hbox); have n2_ := Aside0.mk ((by rw [hg]; exact (zS (by repeat (first | (with_reducible first | exact HB.out | apply zA | apply zN | apply zD) | exact HB.out))) : w.heap.size ≤ gb328)); have n3_ := n2_; clear HB; have HB := n0_; have BK328 := n1_; have GW328 := n2_; have GE328 := n3_; clear n0_ n1_ n2_ n3_; clear hb hbox hg; have hcz4_0 : w3.cell? ⟨gb328, 0, none⟩ = some (.int .i64 0) := (blk_cell BK328.out 0).trans rfl; have hcz4_1 : w3.cell? ⟨gb328, 1, none⟩ = some (.int .i64 0) := (blk_cell BK328.out 1).trans rfl; have hcz4_2 : w3.cell? ⟨gb328, 2, none⟩ = some (.bool false) := (blk_cell BK328.out 2).trans rfl; have hcz4_3 : w3.cell? ⟨gb328, 3, none⟩ = some (.int .i64 0) := (blk_cell BK328.out 3).trans rfl; have hcz4_4 : w3.cell? ⟨gb328, 4, none⟩ = some (.slice none 0 0) := (blk_cell BK328.out 4).trans rfl; have hfz4_0 := blk_frozen BK328.out 0; have hfz4_1 := blk_frozen BK328.out 1; have hfz4_2 := blk_frozen BK328.out 2; have hfz4_3 := blk_frozen BK328.out 3; have hfz4_4 := blk_frozen BK328.out 4))
  refine bodyPost_ret (results_ct rfl _ _ gb328 24 #[.int .i64 0, .int .i64 0, .bool false, .int .i64 0, .slice none 0 0] (0, 0) _ rfl (by (with_reducible repeat (first | refine yN ?_ _ | refine yD ?_ | refine yA ?_ _)); refine blk_put (cs := #[.int .i64 0, .int .i64 0, .bool false, .int .i64 0, .slice none 0 0]) ?_ 4 _ rfl; (with_reducible repeat (first | refine yN ?_ _ | refine yD ?_ | refine yA ?_ _)); refine blk_put (cs := #[.int .i64 0, .int .i64 0, .bool false, .int .i64 0, .slice none 0 0]) ?_ 3 _ rfl; (with_reducible repeat (first | refine yN ?_ _ | refine yD ?_ | refine yA ?_ _)); refine blk_put (cs := #[.int .i64 0, .int .i64 0, .bool false, .int .i64 0, .slice none 0 0]) ?_ 2 _ rfl; (with_reducible repeat (first | refine yN ?_ _ | refine yD ?_ | refine yA ?_ _)); refine blk_put (cs := #[.int .i64 0, .int .i64 0, .bool false, .int .i64 0, .slice none 0 0]) ?_ 1 _ rfl; (with_reducible repeat (first | refine yN ?_ _ | refine yD ?_ | refine yA ?_ _)); refine blk_put (cs := #[.int .i64 0, .int .i64 0, .bool false, .int .i64 0, .slice none 0 0]) ?_ 0 _ rfl; (with_reducible repeat (first | refine yN ?_ _ | refine yD ?_ | refine yA ?_ _)); exact BK328.out) Try.underlying24 rfl (by kernel_rfl)) rfl ?_
  exact ⟨_, by first | rfl | (simp [errW_none, errW_some] <;> rfl) | (simp [*, errW_none, errW_some] <;> rfl), by first | exact Kd.R_nil _ _ _ _ _ | exact Kd.N_nil _ _ _ _ _ | exact Kd.V_nil _ _ _ _ _ | exact Kd.Q_nil _ _ _ _ _ | exact Kd.S_nil _ _ _ _ _, by repeat (first | (with_reducible first | exact HB.out | apply zA | apply zN | apply zD | refine zP ?_ GE328.out) | exact HB.out)⟩
 ·rw [if_neg c2] at H
  have c2b0 : decide ((l0.length : Int) < 188) = false := decide_eq_false c2
  have c2b1 : decide (l0.length < 188) = false := decide_eq_false (by omega)
  clear c2
  by_cases c5 : (l0.length : Int) > 188
  ·rw [if_pos c5] at H
   have c5b0 : decide (188 < (l0.length : Int)) = true := decide_eq_true c5
   have c5b1 : decide (188 < l0.length) = true := decide_eq_true (by omega)
   clear c5
   simp only [Option.some.injEq, Prod.mk.injEq] at H
   obtain ⟨rfl, rfl, rfl, rfl, rfl, rfl⟩ := H
   go_enter Try.func18, Try.ntmps18
   go_wp2_with (first | ((with_reducible refine xD (N := 2) rfl ?_); refine box_event ?hg (N := 2) ?hd (cs := #[.int .i64 0, .int .i64 0, .bool false, .int .i64 0, .slice none 0 0]) (t := 24) ?hr ?_; (case hd => rfl); (case hg => rfl); (case hr => first | (go_simp; done) | (go_simp; rfl)); intro gb328 hg w6 hbox hb; have n0_ := Aside0.mk (zT (by repeat (first | (with_reducible first | exact HB.out | apply zA | apply zN | apply zD) | exact HB.out)) hb); have n1_ := Aside0.mk (hbox); have n2_ := Aside0.mk ((by rw [hg]; exact (zS (by repeat (first | (with_reducible first | exact HB.out | apply zA | apply zN | apply zD) | exact HB.out))) : w.heap.size ≤ gb328)); have n3_ := n2_; clear HB; have HB := n0_; have BK328 := n1_; have GW328 := n2_; have GE328 := n3_; clear n0_ n1_ n2_ n3_; clear hb hbox hg; have hcz7_0 : w6.cell? ⟨gb328, 0, none⟩ = some (.int .i64 0) := (blk_cell BK328.out 0).trans rfl; have hcz7_1 : w6.cell? ⟨gb328, 1, none⟩ = some (.int .i64 0) := (blk_cell BK328.out 1).trans rfl; have hcz7_2 : w6.cell? ⟨gb328, 2, none⟩ = some (.bool false) := (blk_cell BK328.out 2).trans rfl; have hcz7_3 : w6.cell? ⟨gb328, 3, none⟩ = some (.int .i64 0) := (blk_cell BK328.out 3).trans rfl; have hcz7_4 : w6.cell? ⟨gb328, 4, none⟩ = some (.slice none 0 0) := (blk_cell BK328.out 4).trans rfl; have hfz7_0 := blk_frozen BK328.out 0; have hfz7_1 := blk_frozen BK328.out 1; have hfz7_2 := blk_frozen BK328.out 2; have hfz7_3 := blk_frozen BK328.out 3; have hfz7_4 := blk_frozen BK328.out 4))
   refine bodyPost_ret (results_ct rfl _ _ gb328 24 #[.int .i64 0, .int .i64 0, .bool false, .int .i64 0, .slice none 0 0] (0, 0) _ rfl (by (with_reducible repeat (first | refine yN ?_ _ | refine yD ?_ | refine yA ?_ _)); refine blk_put (cs := #[.int .i64 0, .int .i64 0, .bool false, .int .i64 0, .slice none 0 0]) ?_ 4 _ rfl; (with_reducible repeat (first | refine yN ?_ _ | refine yD ?_ | refine yA ?_ _)); refine blk_put (cs := #[.int .i64 0, .int .i64 0, .bool false, .int .i64 0, .slice none 0 0]) ?_ 3 _ rfl; (with_reducible repeat (first | refine yN ?_ _ | refine yD ?_ | refine yA ?_ _)); refine blk_put (cs := #[.int .i64 0, .int .i64 0, .bool false, .int .i64 0, .slice none 0 0]) ?_ 2 _ rfl; (with_reducible repeat (first | refine yN ?_ _ | refine yD ?_ | refine yA ?_ _)); refine blk_put (cs := #[.int .i64 0, .int .i64 0, .bool false, .int .i64 0, .slice none 0 0]) ?_ 1 _ rfl; (with_reducible repeat (first | refine yN ?_ _ | refine yD ?_ | refine yA ?_ _)); refine blk_put (cs := #[.int .i64 0, .int .i64 0, .bool false, .int .i64 0, .slice none 0 0]) ?_ 0 _ rfl; (with_reducible repeat (first | refine yN ?_ _ | refine yD ?_ | refine yA ?_ _)); exact BK328.out) Try.underlying24 rfl (by kernel_rfl)) rfl ?_
   exact ⟨_, by first | rfl | (simp [errW_none, errW_some] <;> rfl) | (simp [*, errW_none, errW_some] <;> rfl), by first | exact Kd.R_nil _ _ _ _ _ | exact Kd.N_nil _ _ _ _ _ | exact Kd.V_nil _ _ _ _ _ | exact Kd.Q_nil _ _ _ _ _ | exact Kd.S_nil _ _ _ _ _, by repeat (first | (with_reducible first | exact HB.out | apply zA | apply zN | apply zD | refine zP ?_ GE328.out) | exact HB.out)⟩
  ·rw [if_neg c5] at H
   have c5b0 : decide (188 < (l0.length : Int)) = false := decide_eq_false c5
   have c5b1 : decide (188 < l0.length) = false := decide_eq_false (by omega)
   clear c5
   by_cases c8 : 1 < (l0.length : Int)
   ·rw [if_pos c8] at H
    have c8b0 : decide (1 < (l0.length : Int)) = true := decide_eq_true c8
    have c8b1 : decide (1 < l0.length) = true := decide_eq_true (by omega)
    clear c8
    by_cases c9 : 2 < (l0.length : Int)
    ·rw [if_pos c9] at H
     have c9b0 : decide (2 < (l0.length : Int)) = true := decide_eq_true c9
     have c9b1 : decide (2 < l0.length) = true := decide_eq_true (by omega)
     clear c9
     by_cases c10 : 3 < (l0.length : Int)
     ·rw [if_pos c10] at H
      have c10b0 : decide (3 < (l0.length : Int)) = true := decide_eq_true c10
      have c10b1 : decide (3 < l0.length) = true := decide_eq_true (by omega)
      clear c10
      have HC11 := Aside0.mk H
      clear H
      go_enter Try.func18, Try.ntmps18
      try go_wp2_with (first | ((with_reducible refine xD (N := 2) rfl ?_); refine box_event ?hg (N := 2) ?hd (cs := #[.int .i64 0, .int .i64 0, .bool false, .int .i64 0, .slice none 0 0]) (t := 24) ?hr ?_; (case hd => rfl); (case hg => rfl); (case hr => first | (go_simp; done) | (go_simp; rfl)); intro gb328 hg w12 hbox hb; have n0_ := Aside0.mk (zT (by repeat (first | (with_reducible first | exact HB.out | apply zA | apply zN | apply zD) | exact HB.out)) hb); have n1_ := Aside0.mk (hbox); have n2_ := Aside0.mk ((by rw [hg]; exact (zS (by repeat (first | (with_reducible first | exact HB.out | apply zA | apply zN | apply zD) | exact HB.out))) : w.heap.size ≤ gb328)); have n3_ := n2_; clear HB; have HB := n0_; have BK328 := n1_; have GW328 := n2_; have GE328 := n3_; clear n0_ n1_ n2_ n3_; clear hb hbox hg))
      have n0_ := Aside0.mk (yD BK328.out)
      have n1_ := Aside0.mk (zD HB.out)
      clear BK328
      clear HB
      have BK328 := n0_
      have HB := n1_
      clear n0_ n1_
      have p329 : 0 ≤ (1 : Int) := (by omega)
      have q329 : 1 < (l0.length : Int) := of_decide_eq_true (by first | (with_reducible assumption) | assumption)
      obtain ⟨ad329, e329, hx329_0⟩ := Kd.at_int HR0.out 1 p329 q329
      have hw329_0 := hx329_0
      (try rw [show ((1 : Int)).toNat = 1 from rfl] at hw329_0)
      (try rw [show 1 * 1 = 1 from rfl] at hw329_0)
      (try simp only [Nat.reduceMul, Nat.reduceEqDiff, Go.Addr.add, ↓reduceIte] at hw329_0)
      cases e329
      (try simp only [show (1 : Int).toNat = 1 from rfl, Nat.reduceMul, Nat.reduceEqDiff, Go.Addr.add, ↓reduceIte] at hx329_0)
      have qi329 : (1 < l0.length) = True := eq_true (by omega)
      (try rw [show ((1 : Int)).toNat = 1 from rfl] at hx329_0)
      replace hx329_0 := (HB.out.cell (World.block_lt_of_cell? w _ hx329_0)).trans hx329_0
      replace p329 := eq_true p329
      replace q329 := eq_true q329
      have p330 : 0 ≤ (2 : Int) := (by omega)
      have q330 : 2 < (l0.length : Int) := of_decide_eq_true (by first | (with_reducible assumption) | assumption)
      obtain ⟨ad330, e330, hx330_0⟩ := Kd.at_int HR0.out 2 p330 q330
      have hw330_0 := hx330_0
      (try rw [show ((2 : Int)).toNat = 2 from rfl] at hw330_0)
      (try rw [show 2 * 1 = 2 from rfl] at hw330_0)
      (try simp only [Nat.reduceMul, Nat.reduceEqDiff, Go.Addr.add, ↓reduceIte] at hw330_0)
      obtain rfl : ad329 = ad330 := (by injection e330)
      (try simp only [show (2 : Int).toNat = 2 from rfl, Nat.reduceMul, Nat.reduceEqDiff, Go.Addr.add, ↓reduceIte] at hx330_0)
      have qi330 : (2 < l0.length) = True := eq_true (by omega)
      (try rw [show ((2 : Int)).toNat = 2 from rfl] at hx330_0)
      replace hx330_0 := (HB.out.cell (World.block_lt_of_cell? w _ hx330_0)).trans hx330_0
      replace p330 := eq_true p330
      replace q330 := eq_true q330
      have p331 : 0 ≤ (3 : Int) := (by omega)
      have q331 : 3 < (l0.length : Int) := of_decide_eq_true (by first | (with_reducible assumption) | assumption)
      obtain ⟨ad331, e331, hx331_0⟩ := Kd.at_int HR0.out 3 p331 q331
      have hw331_0 := hx331_0
      (try rw [show ((3 : Int)).toNat = 3 from rfl] at hw331_0)
      (try rw [show 3 * 1 = 3 from rfl] at hw331_0)
      (try simp only [Nat.reduceMul, Nat.reduceEqDiff, Go.Addr.add, ↓reduceIte] at hw331_0)
      obtain rfl : ad329 = ad331 := (by injection e331)
      (try simp only [show (3 : Int).toNat = 3 from rfl, Nat.reduceMul, Nat.reduceEqDiff, Go.Addr.add, ↓reduceIte] at hx331_0)
      have qi331 : (3 < l0.length) = True := eq_true (by omega)
      (try rw [show ((3 : Int)).toNat = 3 from rfl] at hx331_0)
      replace hx331_0 := (HB.out.cell (World.block_lt_of_cell? w _ hx331_0)).trans hx331_0
      replace p331 := eq_true p331
      replace q331 := eq_true q331
      have p332 : 0 ≤ (1 : Int) := (by omega)
      have q332 : 1 < (l0.length : Int) := of_decide_eq_true (by first | (with_reducible assumption) | assumption)
      obtain ⟨ad332, e332, hx332_0⟩ := Kd.at_int HR0.out 1 p332 q332
      have hw332_0 := hx332_0
      (try rw [show ((1 : Int)).toNat = 1 from rfl] at hw332_0)
      (try rw [show 1 * 1 = 1 from rfl] at hw332_0)
      (try simp only [Nat.reduceMul, Nat.reduceEqDiff, Go.Addr.add, ↓reduceIte] at hw332_0)
      obtain rfl : ad329 = ad332 := (by injection e332)
      (try simp only [show (1 : Int).toNat = 1 from rfl, Nat.reduceMul, Nat.reduceEqDiff, Go.Addr.add, ↓reduceIte] at hx332_0)
      have qi332 : (1 < l0.length) = True := eq_true (by omega)
      (try rw [show ((1 : Int)).toNat = 1 from rfl] at hx332_0)
      replace hx332_0 := (HB.out.cell (World.block_lt_of_cell? w _ hx332_0)).trans hx332_0
      replace p332 := eq_true p332
      replace q332 := eq_true q332
      refine start_ (n := 24) (S := fun w' => w'.cell? ⟨ad329.block, ad329.off + 1, none⟩ = some (.int .u8 (rd l0 1)) ∧ w'.cell? ⟨ad329.block, ad329.off + 2, none⟩ = some (.int .u8 (rd l0 2)) ∧ w'.cell? ⟨ad329.block, ad329.off + 3, none⟩ = some (.int .u8 (rd l0 3)) ∧ w'.cell? ⟨ad329.block, ad329.off + 1, none⟩ = some (.int .u8 (rd l0 1))) (ds := []) #[false, false, false, false, false, false, false, false, false, false, false, false, false, false, false, false, false, false, false, false, false, false, false, false] (by kernel_rfl) rfl rfl ⟨((HB.out.cell (World.block_lt_of_cell? w _ hw329_0)).trans hw329_0), ((HB.out.cell (World.block_lt_of_cell? w _ hw330_0)).trans hw330_0), ((HB.out.cell (World.block_lt_of_cell? w _ hw331_0)).trans hw331_0), ((HB.out.cell (World.block_lt_of_cell? w _ hw332_0)).trans hw332_0)⟩ (fun hHeld => ?_); refine with_tabW cutroomref17_Take.tab5 cutroomref17_Take.bits5 (fun HT_ HW_ => ?_)
      generalize w12.drew = w13 at BK328 HB hx329_0 hx330_0 hx331_0 hx332_0 hHeld ⊢
      refine pure_ (i := 0) (N := some 17) (v := ?_) (a' := ?_) #[T', F', F', F', F', F', F', F', F', F', F', F', F', F', F', F', F', F', F', F', F', F', F', F'] rfl rfl (any_of HT_.out (by kernel_rfl)) (fun _ _ _ h => h) (Or.inl ⟨by rfl, ?_⟩) ?_ ?_;rotate_left;(intro w';go_simp;with_reducible rfl);rotate_left;(simp only [Act.put, sA, sZ, sS, i64_w, i32_w];rfl)
      refine pure_ (i := 1) (N := some 18) (v := ?_) (a' := ?_) #[T', T', F', F', F', F', F', F', F', F', F', F', F', F', F', F', F', F', F', F', F', F', F', F'] rfl rfl (any_of HT_.out (by kernel_rfl)) (fun _ _ _ h => h) (Or.inl ⟨by rfl, ?_⟩) ?_ ?_;rotate_left;(intro w';go_simp;with_reducible rfl);rotate_left;(simp only [Act.put, sA, sZ, sS, i64_w, i32_w];rfl)
      refine pure_ (i := 6) (N := some 23) (v := ?_) (a' := ?_) #[T', T', F', F', F', F', T', F', F', F', F', F', F', F', F', F', F', F', F', F', F', F', F', F'] rfl rfl (any_of HT_.out (by kernel_rfl)) (fun _ _ _ h => h) (Or.inl ⟨by rfl, ?_⟩) ?_ ?_;rotate_left;(intro w';go_simp;with_reducible rfl);rotate_left;(simp only [Act.put, sA, sZ, sS, i64_w, i32_w];rfl)
      refine pure_ (i := 7) (N := some 24) (v := ?_) (a' := ?_) #[T', T', F', F', F', F', T', T', F', F', F', F', F', F', F', F', F', F', F', F', F', F', F', F'] rfl rfl (any_of HT_.out (by kernel_rfl)) (fun _ _ _ h => h) (Or.inl ⟨by rfl, ?_⟩) ?_ ?_;rotate_left;(intro w';go_simp;with_reducible rfl);rotate_left;(simp only [Act.put, sA, sZ, sS, i64_w, i32_w];rfl)
      refine pure_ (i := 11) (N := some 28) (v := ?_) (a' := ?_) #[T', T', F', F', F', F', T', T', F', F', F', T', F', F', F', F', F', F', F', F', F', F', F', F'] rfl rfl (any_of HT_.out (by kernel_rfl)) (fun _ _ _ h => h) (Or.inl ⟨by rfl, ?_⟩) ?_ ?_;rotate_left;(intro w';go_simp;with_reducible rfl);rotate_left;(simp only [Act.put, sA, sZ, sS, i64_w, i32_w];rfl)
      refine pure_ (i := 12) (N := some 29) (v := ?_) (a' := ?_) #[T', T', F', F', F', F', T', T', F', F', F', T', T', F', F', F', F', F', F', F', F', F', F', F'] rfl rfl (any_of HT_.out (by kernel_rfl)) (fun _ _ _ h => h) (Or.inl ⟨by rfl, ?_⟩) ?_ ?_;rotate_left;(intro w';go_simp;with_reducible rfl);rotate_left;(simp only [Act.put, sA, sZ, sS, i64_w, i32_w];rfl)
      refine pure_ (i := 16) (N := some 33) (v := ?_) (a' := ?_) #[T', T', F', F', F', F', T', T', F', F', F', T', T', F', F', F', T', F', F', F', F', F', F', F'] rfl rfl (any_of HT_.out (by kernel_rfl)) (fun _ _ _ h => h) (Or.inl ⟨by rfl, ?_⟩) ?_ ?_;rotate_left;(intro w';go_simp;with_reducible rfl);rotate_left;(simp only [Act.put, sA, sZ, sS, i64_w, i32_w];rfl)
      refine pure_ (i := 17) (N := some 34) (v := ?_) (a' := ?_) #[T', T', F', F', F', F', T', T', F', F', F', T', T', F', F', F', T', T', F', F', F', F', F', F'] rfl rfl (any_of HT_.out (by kernel_rfl)) (fun _ _ _ h => h) (Or.inl ⟨by rfl, ?_⟩) ?_ ?_;rotate_left;(intro w';go_simp;with_reducible rfl);rotate_left;(simp only [Act.put, sA, sZ, sS, i64_w, i32_w];rfl)
      refine take_ (i := 2) (N := some 19) (v := ?_) (a' := ?_) #[T', T', T', F', F', F', T', T', F', F', F', T', T', F', F', F', T', T', F', F', F', F', F', F'] rfl rfl (take_ofW HT_.out HW_.out (by kernel_rfl)) (fun _ _ _ h => h) (Or.inl ⟨by rfl, ?_⟩) hHeld ?_ ?_;rotate_left;(rintro w' ⟨s0, s1, s2, s3⟩;go_simp;with_reducible rfl);rotate_left;(simp only [Act.put, sA, sZ, sS, i64_w, i32_w];rfl)
      refine pure_ (i := 3) (N := some 20) (v := ?_) (a' := ?_) #[T', T', T', T', F', F', T', T', F', F', F', T', T', F', F', F', T', T', F', F', F', F', F', F'] rfl rfl (any_of HT_.out (by kernel_rfl)) (fun _ _ _ h => h) (Or.inl ⟨by rfl, ?_⟩) ?_ ?_;rotate_left;(intro w';go_simp;with_reducible rfl);rotate_left;(simp only [Act.put, sA, sZ, sS, i64_w, i32_w];rfl)
      refine pure_ (i := 4) (N := some 21) (v := ?_) (a' := ?_) #[T', T', T', T', T', F', T', T', F', F', F', T', T', F', F', F', T', T', F', F', F', F', F', F'] rfl rfl (any_of HT_.out (by kernel_rfl)) (fun _ _ _ h => h) (Or.inl ⟨by rfl, ?_⟩) ?_ ?_;rotate_left;(intro w';go_simp;with_reducible rfl);rotate_left;(simp only [Act.put, sA, sZ, sS, i64_w, i32_w];rfl)
      refine pure_ (i := 5) (N := some 22) (v := ?_) (a' := ?_) #[T', T', T', T', T', T', T', T', F', F', F', T', T', F', F', F', T', T', F', F', F', F', F', F'] rfl rfl (any_of HT_.out (by kernel_rfl)) (fun _ _ _ h => h) (Or.inl ⟨by rfl, ?_⟩) ?_ ?_;rotate_left;(intro w';go_simp;with_reducible rfl);rotate_left;(simp only [Act.put, sA, sZ, sS, i64_w, i32_w];rfl)
      refine take_ (i := 8) (N := some 25) (v := ?_) (a' := ?_) #[T', T', T', T', T', T', T', T', T', F', F', T', T', F', F', F', T', T', F', F', F', F', F', F'] rfl rfl (take_ofW HT_.out HW_.out (by kernel_rfl)) (fun _ _ _ h => h) (Or.inl ⟨by rfl, ?_⟩) hHeld ?_ ?_;rotate_left;(rintro w' ⟨s0, s1, s2, s3⟩;go_simp;with_reducible rfl);rotate_left;(simp only [Act.put, sA, sZ, sS, i64_w, i32_w];rfl)
      refine pure_ (i := 9) (N := some 26) (v := ?_) (a' := ?_) #[T', T', T', T', T', T', T', T', T', T', F', T', T', F', F', F', T', T', F', F', F', F', F', F'] rfl rfl (any_of HT_.out (by kernel_rfl)) (fun _ _ _ h => h) (Or.inl ⟨by rfl, ?_⟩) ?_ ?_;rotate_left;(intro w';go_simp;with_reducible rfl);rotate_left;(simp only [Act.put, sA, sZ, sS, i64_w, i32_w];rfl)
      refine pure_ (i := 10) (N := some 27) (v := ?_) (a' := ?_) #[T', T', T', T', T', T', T', T', T', T', T', T', T', F', F', F', T', T', F', F', F', F', F', F'] rfl rfl (any_of HT_.out (by kernel_rfl)) (fun _ _ _ h => h) (Or.inl ⟨by rfl, ?_⟩) ?_ ?_;rotate_left;(intro w';go_simp;with_reducible rfl);rotate_left;(simp only [Act.put, sA, sZ, sS, i64_w, i32_w];rfl)
      refine take_ (i := 13) (N := some 30) (v := ?_) (a' := ?_) #[T', T', T', T', T', T', T', T', T', T', T', T', T', T', F', F', T', T', F', F', F', F', F', F'] rfl rfl (take_ofW HT_.out HW_.out (by kernel_rfl)) (fun _ _ _ h => h) (Or.inl ⟨by rfl, ?_⟩) hHeld ?_ ?_;rotate_left;(rintro w' ⟨s0, s1, s2, s3⟩;go_simp;with_reducible rfl);rotate_left;(simp only [Act.put, sA, sZ, sS, i64_w, i32_w];rfl)
      refine pure_ (i := 14) (N := some 31) (v := ?_) (a' := ?_) #[T', T', T', T', T', T', T', T', T', T', T', T', T', T', T', F', T', T', F', F', F', F', F', F'] rfl rfl (any_of HT_.out (by kernel_rfl)) (fun _ _ _ h => h) (Or.inl ⟨by rfl, ?_⟩) ?_ ?_;rotate_left;(intro w';go_simp;with_reducible rfl);rotate_left;(simp only [Act.put, sA, sZ, sS, i64_w, i32_w];rfl)
      refine pure_ (i := 15) (N := some 32) (v := ?_) (a' := ?_) #[T', T', T', T', T', T', T', T', T', T', T', T', T', T', T', T', T', T', F', F', F', F', F', F'] rfl rfl (any_of HT_.out (by kernel_rfl)) (fun _ _ _ h => h) (Or.inl ⟨by rfl, ?_⟩) ?_ ?_;rotate_left;(intro w';go_simp;with_reducible rfl);rotate_left;(simp only [Act.put, sA, sZ, sS, i64_w, i32_w];rfl)
      refine take_ (i := 18) (N := some 35) (v := ?_) (a' := ?_) #[T', T', T', T', T', T', T', T', T', T', T', T', T', T', T', T', T', T', T', F', F', F', F', F'] rfl rfl (take_ofW HT_.out HW_.out (by kernel_rfl)) (fun _ _ _ h => h) (Or.inl ⟨by rfl, ?_⟩) hHeld ?_ ?_;rotate_left;(rintro w' ⟨s0, s1, s2, s3⟩;go_simp;with_reducible rfl);rotate_left;(simp only [Act.put, sA, sZ, sS, i64_w, i32_w];rfl)
      refine pure_ (i := 19) (N := some 36) (v := ?_) (a' := ?_) #[T', T', T', T', T', T', T', T', T', T', T', T', T', T', T', T', T', T', T', T', F', F', F', F'] rfl rfl (any_of HT_.out (by kernel_rfl)) (fun _ _ _ h => h) (Or.inl ⟨by rfl, ?_⟩) ?_ ?_;rotate_left;(intro w';go_simp;with_reducible rfl);rotate_left;(simp only [Act.put, sA, sZ, sS, i64_w, i32_w];rfl)
      refine pure_ (i := 20) (N := some 37) (v := ?_) (a' := ?_) #[T', T', T', T', T', T', T', T', T', T', T', T', T', T', T', T', T', T', T', T', T', F', F', F'] rfl rfl (any_of HT_.out (by kernel_rfl)) (fun _ _ _ h => h) (Or.inl ⟨by rfl, ?_⟩) ?_ ?_;rotate_left;(intro w';go_simp;with_reducible rfl);rotate_left;(simp only [Act.put, sA, sZ, sS, i64_w, i32_w];rfl)
      refine pure_ (i := 21) (N := some 38) (v := ?_) (a' := ?_) #[T', T', T', T', T', T', T', T', T', T', T', T', T', T', T', T', T', T', T', T', T', T', F', F'] rfl rfl (any_of HT_.out (by kernel_rfl)) (fun _ _ _ h => h) (Or.inl ⟨by rfl, ?_⟩) ?_ ?_;rotate_left;(intro w';go_simp;with_reducible rfl);rotate_left;(simp only [Act.put, sA, sZ, sS, i64_w, i32_w];rfl)
      refine one_ (i := 22) (N := some 4) #[T', T', T', T', T', T', T', T', T', T', T', T', T', T', T', T', T', T', T', T', T', T', T', F'] rfl rfl (one_of HT_.out (by kernel_rfl)) (by decide) (fun K hK => ?_)
      refine box_step ?hg (N := 4) ?hd (cs := #[.int .i64 0, .int .i64 0, .bool false, .int .i64 0, .slice none 0 0]) (t := 24) ?hr ?_; (case hd => rfl); (case hg => rfl); (case hr => first | (go_simp; done) | (go_simp; rfl))
      intro gb333 hg w14 hbox hb
      have n0_ := Aside0.mk (yB (g := gb328) (o := .cells #[.int .i64 0, .int .i64 0, .bool false, .int .i64 0, .slice none 0 0] 24 (0, 0)) (by (with_reducible repeat (first | refine yN ?_ _ | refine yD ?_ | refine yA ?_ _)); exact BK328.out) hb)
      have n1_ := Aside0.mk (zT (by repeat (first | (with_reducible first | exact HB.out | apply zA | apply zN | apply zD | refine zP ?_ GE328.out) | exact HB.out)) hb)
      have n2_ := Aside0.mk (hbox)
      have n3_ := Aside0.mk ((by rw [hg]; exact (zS (by repeat (first | (with_reducible first | exact HB.out | apply zA | apply zN | apply zD | refine zP ?_ GE328.out) | exact HB.out))) : w.heap.size ≤ gb333))
      have n4_ := Aside0.mk ((by rw [hg]; exact (zS (by repeat (first | (with_reducible first | exact HB.out | apply zA | apply zN | apply zD | refine zP ?_ GE328.out) | exact HB.out))) : w.heap.size ≤ gb333))
      have n5_ := Aside0.mk ((by rw [hg]; exact Nat.ne_of_lt (blk_lt (g := gb328) (o := .cells #[.int .i64 0, .int .i64 0, .bool false, .int .i64 0, .slice none 0 0] 24 (0, 0)) (by (with_reducible repeat (first | refine yN ?_ _ | refine yD ?_ | refine yA ?_ _)); exact BK328.out)) : gb328 ≠ gb333))
      have n6_ := Aside0.mk ((by rw [hg]; exact Nat.ne_of_gt (blk_lt (g := gb328) (o := .cells #[.int .i64 0, .int .i64 0, .bool false, .int .i64 0, .slice none 0 0] 24 (0, 0)) (by (with_reducible repeat (first | refine yN ?_ _ | refine yD ?_ | refine yA ?_ _)); exact BK328.out)) : gb333 ≠ gb328))
      clear BK328
      clear HB
      have BK328 := n0_
      have HB := n1_
      have BK333 := n2_
      have GW333 := n3_
      have GE333 := n4_
      have NB328_333 := n5_
      have NB333_328 := n6_
      clear n0_ n1_ n2_ n3_ n4_ n5_ n6_
      clear hb hbox hg
      refine hK.out _ _ ⟨((HB.out.cell (World.block_lt_of_cell? w _ hw329_0)).trans hw329_0), ((HB.out.cell (World.block_lt_of_cell? w _ hw330_0)).trans hw330_0), ((HB.out.cell (World.block_lt_of_cell? w _ hw331_0)).trans hw331_0), ((HB.out.cell (World.block_lt_of_cell? w _ hw332_0)).trans hw332_0)⟩ (fun hHeld => ?_)
      clear hK K
      refine norm_ (a' := ?_) ?_ ?_
      rotate_left
      ·show Act.put _ (some 4) _ = _
       simp only [Act.put, sA, sZ, sS, i64_w, i32_w]
       rfl
      refine one_ (i := 23) (N := none) #[T', T', T', T', T', T', T', T', T', T', T', T', T', T', T', T', T', T', T', T', T', T', T', T'] rfl rfl (one_of HT_.out (by kernel_rfl)) (by decide) (fun K hK => ?_)
      have hs15 : w14.cell? ⟨gb333, 0, none⟩ = some (.int .i64 0) := (blk_cell BK333.out 0).trans rfl
      have hfs15 := blk_frozen BK333.out 0
      have hns15_0 := NB328_333.out
      have hms15_0 := NB333_328.out
      have hs16 : w14.cell? ⟨gb333, 1, none⟩ = some (.int .i64 0) := (blk_cell BK333.out 1).trans rfl
      have hfs16 := blk_frozen BK333.out 1
      have hns16_0 := NB328_333.out
      have hms16_0 := NB333_328.out
      have hs17 : w14.cell? ⟨gb333, 2, none⟩ = some (.bool false) := (blk_cell BK333.out 2).trans rfl
      have hfs17 := blk_frozen BK333.out 2
      have hns17_0 := NB328_333.out
      have hms17_0 := NB333_328.out
      have hs18 : w14.cell? ⟨gb333, 3, none⟩ = some (.int .i64 0) := (blk_cell BK333.out 3).trans rfl
      have hfs18 := blk_frozen BK333.out 3
      have hns18_0 := NB328_333.out
      have hms18_0 := NB333_328.out
      have hs19 : w14.cell? ⟨gb333, 4, none⟩ = some (.slice none 0 0) := (blk_cell BK333.out 4).trans rfl
      have hfs19 := blk_frozen BK333.out 4
      have hns19_0 := NB328_333.out
      have hms19_0 := NB333_328.out
      refine skip_ (w1 := ?_) (by rfl) rfl ?_ ?_
      rotate_left
      ·go_simp
       rfl
      refine hK.out _ _ ⟨((xF (p := ⟨gb333, _, none⟩) (by first | exact nE19 hw329_0 GW333.out | exact nF19 hw329_0 GW333.out | (rw [xB]; exact nE19 hw329_0 GW333.out) | (rw [xB]; exact nF19 hw329_0 GW333.out)) _).trans (((xF (p := ⟨gb333, _, none⟩) (by first | exact nE19 hw329_0 GW333.out | exact nF19 hw329_0 GW333.out | (rw [xB]; exact nE19 hw329_0 GW333.out) | (rw [xB]; exact nF19 hw329_0 GW333.out)) _).trans (((xF (p := ⟨gb333, _, none⟩) (by first | exact nE19 hw329_0 GW333.out | exact nF19 hw329_0 GW333.out | (rw [xB]; exact nE19 hw329_0 GW333.out) | (rw [xB]; exact nF19 hw329_0 GW333.out)) _).trans (((xF (p := ⟨gb333, _, none⟩) (by first | exact nE19 hw329_0 GW333.out | exact nF19 hw329_0 GW333.out | (rw [xB]; exact nE19 hw329_0 GW333.out) | (rw [xB]; exact nF19 hw329_0 GW333.out)) _).trans (((xF (p := ⟨gb333, _, none⟩) (by first | exact nE19 hw329_0 GW333.out | exact nF19 hw329_0 GW333.out | (rw [xB]; exact nE19 hw329_0 GW333.out) | (rw [xB]; exact nF19 hw329_0 GW333.out)) _).trans (hHeld.1)))))))))), ((xF (p := ⟨gb333, _, none⟩) (by first | exact nE19 hw330_0 GW333.out | exact nF19 hw330_0 GW333.out | (rw [xB]; exact nE19 hw330_0 GW333.out) | (rw [xB]; exact nF19 hw330_0 GW333.out)) _).trans (((xF (p := ⟨gb333, _, none⟩) (by first | exact nE19 hw330_0 GW333.out | exact nF19 hw330_0 GW333.out | (rw [xB]; exact nE19 hw330_0 GW333.out) | (rw [xB]; exact nF19 hw330_0 GW333.out)) _).trans (((xF (p := ⟨gb333, _, none⟩) (by first | exact nE19 hw330_0 GW333.out | exact nF19 hw330_0 GW333.out | (rw [xB]; exact nE19 hw330_0 GW333.out) | (rw [xB]; exact nF19 hw330_0 GW333.out)) _).trans (((xF (p := ⟨gb333, _, none⟩) (by first | exact nE19 hw330_0 GW333.out | exact nF19 hw330_0 GW333.out | (rw [xB]; exact nE19 hw330_0 GW333.out) | (rw [xB]; exact nF19 hw330_0 GW333.out)) _).trans (((xF (p := ⟨gb333, _, none⟩) (by first | exact nE19 hw330_0 GW333.out | exact nF19 hw330_0 GW333.out | (rw [xB]; exact nE19 hw330_0 GW333.out) | (rw [xB]; exact nF19 hw330_0 GW333.out)) _).trans (hHeld.2.1)))))))))), ((xF (p := ⟨gb333, _, none⟩) (by first | exact nE19 hw331_0 GW333.out | exact nF19 hw331_0 GW333.out | (rw [xB]; exact nE19 hw331_0 GW333.out) | (rw [xB]; exact nF19 hw331_0 GW333.out)) _).trans (((xF (p := ⟨gb333, _, none⟩) (by first | exact nE19 hw331_0 GW333.out | exact nF19 hw331_0 GW333.out | (rw [xB]; exact nE19 hw331_0 GW333.out) | (rw [xB]; exact nF19 hw331_0 GW333.out)) _).trans (((xF (p := ⟨gb333, _, none⟩) (by first | exact nE19 hw331_0 GW333.out | exact nF19 hw331_0 GW333.out | (rw [xB]; exact nE19 hw331_0 GW333.out) | (rw [xB]; exact nF19 hw331_0 GW333.out)) _).trans (((xF (p := ⟨gb333, _, none⟩) (by first | exact nE19 hw331_0 GW333.out | exact nF19 hw331_0 GW333.out | (rw [xB]; exact nE19 hw331_0 GW333.out) | (rw [xB]; exact nF19 hw331_0 GW333.out)) _).trans (((xF (p := ⟨gb333, _, none⟩) (by first | exact nE19 hw331_0 GW333.out | exact nF19 hw331_0 GW333.out | (rw [xB]; exact nE19 hw331_0 GW333.out) | (rw [xB]; exact nF19 hw331_0 GW333.out)) _).trans (hHeld.2.2.1)))))))))), ((xF (p := ⟨gb333, _, none⟩) (by first | exact nE19 hw332_0 GW333.out | exact nF19 hw332_0 GW333.out | (rw [xB]; exact nE19 hw332_0 GW333.out) | (rw [xB]; exact nF19 hw332_0 GW333.out)) _).trans (((xF (p := ⟨gb333, _, none⟩) (by first | exact nE19 hw332_0 GW333.out | exact nF19 hw332_0 GW333.out | (rw [xB]; exact nE19 hw332_0 GW333.out) | (rw [xB]; exact nF19 hw332_0 GW333.out)) _).trans (((xF (p := ⟨gb333, _, none⟩) (by first | exact nE19 hw332_0 GW333.out | exact nF19 hw332_0 GW333.out | (rw [xB]; exact nE19 hw332_0 GW333.out) | (rw [xB]; exact nF19 hw332_0 GW333.out)) _).trans (((xF (p := ⟨gb333, _, none⟩) (by first | exact nE19 hw332_0 GW333.out | exact nF19 hw332_0 GW333.out | (rw [xB]; exact nE19 hw332_0 GW333.out) | (rw [xB]; exact nF19 hw332_0 GW333.out)) _).trans (((xF (p := ⟨gb333, _, none⟩) (by first | exact nE19 hw332_0 GW333.out | exact nF19 hw332_0 GW333.out | (rw [xB]; exact nE19 hw332_0 GW333.out) | (rw [xB]; exact nF19 hw332_0 GW333.out)) _).trans (hHeld.2.2.2))))))))))⟩ (fun hHeld => ?_)
      clear hK K
      refine done_ (done_of HT_.out (by kernel_rfl)) ?_
      have n0_ : Aside0 ((((((w14.setCell ⟨gb333, 0, none⟩ (.int .i64 (Go.bits .or .i64 (wrap64 ((wrap64 (Go.bits .and .u8 (rd l0 1) 31)) * 256)) (wrap64 (rd l0 2))))).setCell ⟨gb333, 1, none⟩ (.int .i64 (wrap64 (Go.bits .and .u8 (rd l0 3) 15)))).setCell ⟨gb333, 2, none⟩ (.bool ((Go.bits .and .u8 (rd l0 1) 64) != 0))).setCell ⟨gb333, 3, none⟩ (.int .i64 (-1))).setCell ⟨gb333, 4, none⟩ (.slice none 0 0)).heap[gb328]? = some (.cells #[.int .i64 0, .int .i64 0, .bool false, .int .i64 0, .slice none 0 0] 24 (0, 0))) := ⟨by (with_reducible repeat (first | refine yN ?_ _ | refine yD ?_ | refine yA ?_ _)); refine blk_far ?_ NB328_333.out _; (with_reducible repeat (first | refine yN ?_ _ | refine yD ?_ | refine yA ?_ _)); refine blk_far ?_ NB328_333.out _; (with_reducible repeat (first | refine yN ?_ _ | refine yD ?_ | refine yA ?_ _)); refine blk_far ?_ NB328_333.out _; (with_reducible repeat (first | refine yN ?_ _ | refine yD ?_ | refine yA ?_ _)); refine blk_far ?_ NB328_333.out _; (with_reducible repeat (first | refine yN ?_ _ | refine yD ?_ | refine yA ?_ _)); refine blk_far ?_ NB328_333.out _; (with_reducible repeat (first | refine yN ?_ _ | refine yD ?_ | refine yA ?_ _)); exact BK328.out⟩
      have n1_ : Aside0 ((((((w14.setCell ⟨gb333, 0, none⟩ (.int .i64 (Go.bits .or .i64 (wrap64 ((wrap64 (Go.bits .and .u8 (rd l0 1) 31)) * 256)) (wrap64 (rd l0 2))))).setCell ⟨gb333, 1, none⟩ (.int .i64 (wrap64 (Go.bits .and .u8 (rd l0 3) 15)))).setCell ⟨gb333, 2, none⟩ (.bool ((Go.bits .and .u8 (rd l0 1) 64) != 0))).setCell ⟨gb333, 3, none⟩ (.int .i64 (-1))).setCell ⟨gb333, 4, none⟩ (.slice none 0 0)).heap[gb333]? = some (.cells #[.int .i64 (Go.bits .or .i64 (wrap64 ((wrap64 (Go.bits .and .u8 (rd l0 1) 31)) * 256)) (wrap64 (rd l0 2))), .int .i64 (wrap64 (Go.bits .and .u8 (rd l0 3) 15)), .bool ((Go.bits .and .u8 (rd l0 1) 64) != 0), .int .i64 (-1), .slice none 0 0] 24 (0, 0))) := ⟨by (with_reducible repeat (first | refine yN ?_ _ | refine yD ?_ | refine yA ?_ _)); refine blk_put (cs := #[.int .i64 (Go.bits .or .i64 (wrap64 ((wrap64 (Go.bits .and .u8 (rd l0 1) 31)) * 256)) (wrap64 (rd l0 2))), .int .i64 (wrap64 (Go.bits .and .u8 (rd l0 3) 15)), .bool ((Go.bits .and .u8 (rd l0 1) 64) != 0), .int .i64 (-1), .slice none 0 0]) ?_ 4 _ rfl; (with_reducible repeat (first | refine yN ?_ _ | refine yD ?_ | refine yA ?_ _)); refine blk_put (cs := #[.int .i64 (Go.bits .or .i64 (wrap64 ((wrap64 (Go.bits .and .u8 (rd l0 1) 31)) * 256)) (wrap64 (rd l0 2))), .int .i64 (wrap64 (Go.bits .and .u8 (rd l0 3) 15)), .bool ((Go.bits .and .u8 (rd l0 1) 64) != 0), .int .i64 0, .slice none 0 0]) ?_ 3 _ rfl; (with_reducible repeat (first | refine yN ?_ _ | refine yD ?_ | refine yA ?_ _)); refine blk_put (cs := #[.int .i64 (Go.bits .or .i64 (wrap64 ((wrap64 (Go.bits .and .u8 (rd l0 1) 31)) * 256)) (wrap64 (rd l0 2))), .int .i64 (wrap64 (Go.bits .and .u8 (rd l0 3) 15)), .bool false, .int .i64 0, .slice none 0 0]) ?_ 2 _ rfl; (with_reducible repeat (first | refine yN ?_ _ | refine yD ?_ | refine yA ?_ _)); refine blk_put (cs := #[.int .i64 (Go.bits .or .i64 (wrap64 ((wrap64 (Go.bits .and .u8 (rd l0 1) 31)) * 256)) (wrap64 (rd l0 2))), .int .i64 0, .bool false, .int .i64 0, .slice none 0 0]) ?_ 1 _ rfl; (with_reducible repeat (first | refine yN ?_ _ | refine yD ?_ | refine yA ?_ _)); refine blk_put (cs := #[.int .i64 0, .int .i64 0, .bool false, .int .i64 0, .slice none 0 0]) ?_ 0 _ rfl; (with_reducible repeat (first | refine yN ?_ _ | refine yD ?_ | refine yA ?_ _)); exact BK333.out⟩
      have n2_ : Aside0 (Below w.heap.size w (((((w14.setCell ⟨gb333, 0, none⟩ (.int .i64 (Go.bits .or .i64 (wrap64 ((wrap64 (Go.bits .and .u8 (rd l0 1) 31)) * 256)) (wrap64 (rd l0 2))))).setCell ⟨gb333, 1, none⟩ (.int .i64 (wrap64 (Go.bits .and .u8 (rd l0 3) 15)))).setCell ⟨gb333, 2, none⟩ (.bool ((Go.bits .and .u8 (rd l0 1) 64) != 0))).setCell ⟨gb333, 3, none⟩ (.int .i64 (-1))).setCell ⟨gb333, 4, none⟩ (.slice none 0 0))) := ⟨by repeat (first | (with_reducible first | exact HB.out | apply zA | apply zN | apply zD | refine zP ?_ GE328.out | refine zP ?_ GE333.out) | exact HB.out)⟩
      (try clear BK328)
      (try clear BK333)
      (try clear HB)
      generalize (((((w14.setCell ⟨gb333, 0, none⟩ (.int .i64 (Go.bits .or .i64 (wrap64 ((wrap64 (Go.bits .and .u8 (rd l0 1) 31)) * 256)) (wrap64 (rd l0 2))))).setCell ⟨gb333, 1, none⟩ (.int .i64 (wrap64 (Go.bits .and .u8 (rd l0 3) 15)))).setCell ⟨gb333, 2, none⟩ (.bool ((Go.bits .and .u8 (rd l0 1) 64) != 0))).setCell ⟨gb333, 3, none⟩ (.int .i64 (-1))).setCell ⟨gb333, 4, none⟩ (.slice none 0 0)) = w32 at n0_ n1_ n2_ ⊢
      have BK328 := n0_
      have BK333 := n1_
      have HB := n2_
      clear n0_ n1_ n2_
      have p334 : 0 ≤ (3 : Int) := (by omega)
      have q334 : 3 < (l0.length : Int) := of_decide_eq_true (by first | (with_reducible assumption) | assumption)
      obtain ⟨ad334, e334, hx334_0⟩ := Kd.at_int HR0.out 3 p334 q334
      obtain rfl : ad329 = ad334 := (by injection e334)
      (try simp only [show (3 : Int).toNat = 3 from rfl, Nat.reduceMul, Nat.reduceEqDiff, Go.Addr.add, ↓reduceIte] at hx334_0)
      have qi334 : (3 < l0.length) = True := eq_true (by omega)
      (try rw [show ((3 : Int)).toNat = 3 from rfl] at hx334_0)
      replace hx334_0 := (HB.out.cell (World.block_lt_of_cell? w _ hx334_0)).trans hx334_0
      replace p334 := eq_true p334
      replace q334 := eq_true q334
      go_upto_if 43 with (fail)
      go_cut [5] (fun v5 wc => ∃ (kq : Nat) (x5_10 : Int) (x334003_10 : Int), v5 = .int .i64 x5_10 ∧ Aside0 (cutroomref17_Take.j0 kq l0 x5_10 (Go.bits .or .i64 (wrap64 ((wrap64 (Go.bits .and .u8 (rd l0 1) 31)) * 256)) (wrap64 (rd l0 2))) (wrap64 (Go.bits .and .u8 (rd l0 3) 15)) ((Go.bits .and .u8 (rd l0 1) 64) != 0) x334003_10 = some (r1, r2, r3, r4, r5, r6)) ∧ Aside0 (kq ≤ k) ∧ Aside0 (wc.heap[gb328]? = some (.cells #[.int .i64 0, .int .i64 0, .bool false, .int .i64 0, (.slice none 0 0)] 24 (0, 0))) ∧ Aside0 (wc.heap[gb333]? = some (.cells #[.int .i64 (Go.bits .or .i64 (wrap64 ((wrap64 (Go.bits .and .u8 (rd l0 1) 31)) * 256)) (wrap64 (rd l0 2))), .int .i64 (wrap64 (Go.bits .and .u8 (rd l0 3) 15)), .bool ((Go.bits .and .u8 (rd l0 1) 64) != 0), .int .i64 x334003_10, (.slice none 0 0)] 24 (0, 0))) ∧ Aside0 (Below w.heap.size w wc))
      case first =>
       have H := HC11.out
       clear HC11
       by_cases c20 : (Go.bits .and .u8 (rd l0 3) 32) = 0
       ·rw [if_pos c20] at H
        have c20b0 : ((Go.bits .and .u8 (rd l0 3) 32) == 0) = true := beq_iff_eq.mpr c20
        have c20b1 : ((Go.bits .and .u8 (rd l0 3) 32) != 0) = false := bne_eq_false_iff_eq.mpr c20
        clear c20
        (first | rw [c20b0] | (simp only [i64_w, i32_w]; rw [c20b0]) | skip)
        have H' := Aside0.mk H
        clear H
        go_wp2
        go_meet
        case rel => exact ⟨_, (4), ((-1)), (by first | rfl | (simp; done) | (simp [*]; done)), H', ⟨by first | omega | exact Nat.le_refl _⟩, ⟨by (with_reducible repeat (first | refine yN ?_ _ | refine yD ?_ | refine yA ?_ _)); exact BK328.out⟩, ⟨by (with_reducible repeat (first | refine yN ?_ _ | refine yD ?_ | refine yA ?_ _)); exact BK333.out⟩, ⟨by repeat (first | (with_reducible first | exact HB.out | apply zA | apply zN | apply zD | refine zP ?_ GE328.out | refine zP ?_ GE333.out) | exact HB.out)⟩⟩
       ·rw [if_neg c20] at H
        have c20b0 : ((Go.bits .and .u8 (rd l0 3) 32) == 0) = false := beq_eq_false_iff_ne.mpr c20
        have c20b1 : ((Go.bits .and .u8 (rd l0 3) 32) != 0) = true := bne_iff_ne.mpr c20
        (first | rw [c20b0] | (simp only [i64_w, i32_w]; rw [c20b0]) | skip)
        by_cases c21 : 4 < (l0.length : Int)
        ·rw [if_pos c21] at H
         have c21b0 : decide (4 < (l0.length : Int)) = true := decide_eq_true c21
         have c21b1 : decide (4 < l0.length) = true := decide_eq_true (by omega)
         clear c21
         obtain ⟨ji22, hji22⟩ : ∃ j_ : Int, (mn (wrap64 (5 + (wrap64 (rd l0 4)))) 188) = j_ := ⟨_, rfl⟩
         replace H : (if (rd l0 4) > 6 then (if 5 < (l0.length : Int) then (if (Go.bits .and .u8 (rd l0 5) 16) = 0 then (cutroomref17_Take.j0 k l0 ji22 (Go.bits .or .i64 (wrap64 ((wrap64 (Go.bits .and .u8 (rd l0 1) 31)) * 256)) (wrap64 (rd l0 2))) (wrap64 (Go.bits .and .u8 (rd l0 3) 15)) ((Go.bits .and .u8 (rd l0 1) 64) != 0) (-1)) else (if 6 < (l0.length : Int) then (if 7 < (l0.length : Int) then (if 8 < (l0.length : Int) then (if 9 < (l0.length : Int) then (if 10 < (l0.length : Int) then (if 11 < (l0.length : Int) then (cutroomref17_Take.j0 k l0 ji22 (Go.bits .or .i64 (wrap64 ((wrap64 (Go.bits .and .u8 (rd l0 1) 31)) * 256)) (wrap64 (rd l0 2))) (wrap64 (Go.bits .and .u8 (rd l0 3) 15)) ((Go.bits .and .u8 (rd l0 1) 64) != 0) (wrap64 ((wrap64 ((wrap64 ((Go.bits .or .i64 (Go.bits .or .i64 (Go.bits .or .i64 (Go.bits .or .i64 (wrap64 ((wrap64 (rd l0 6)) * 33554432)) (wrap64 ((wrap64 (rd l0 7)) * 131072))) (wrap64 ((wrap64 (rd l0 8)) * 512))) (wrap64 ((wrap64 (rd l0 9)) * 2))) (wrap64 ((rd l0 10) / 128))) * 300)) + (wrap64 ((wrap64 (Go.bits .and .u8 (rd l0 10) 1)) * 256)))) + (wrap64 (rd l0 11))))) else (none)) else (none)) else (none)) else (none)) else (none)) else (none))) else (none)) else (cutroomref17_Take.j0 k l0 ji22 (Go.bits .or .i64 (wrap64 ((wrap64 (Go.bits .and .u8 (rd l0 1) 31)) * 256)) (wrap64 (rd l0 2))) (wrap64 (Go.bits .and .u8 (rd l0 3) 15)) ((Go.bits .and .u8 (rd l0 1) 64) != 0) (-1))) = some (r1, r2, r3, r4, r5, r6) := by first | (rw [hji22] at H; exact H) | (simp only [hji22] at H ⊢; exact H)
         (try (have hji22h : ji22 ≤ 188 := by (rw [← hji22]; unfold mn; (repeat' split) <;> omega)))
         (try (have hji22g : ji22 ≤ 64 := by omega))
         have hji22_ : (if 188 < (wrap64 (5 + (wrap64 (rd l0 4)))) then 188 else (wrap64 (5 + (wrap64 (rd l0 4))))) = ji22 := hji22
         by_cases c23 : (rd l0 4) > 6
         ·rw [if_pos c23] at H
          have c23b0 : decide (6 < (rd l0 4)) = true := decide_eq_true c23
          clear c23
          by_cases c24 : 5 < (l0.length : Int)
          ·rw [if_pos c24] at H
           have c24b0 : decide (5 < (l0.length : Int)) = true := decide_eq_true c24
           have c24b1 : decide (5 < l0.length) = true := decide_eq_true (by omega)
           clear c24
           by_cases c25 : (Go.bits .and .u8 (rd l0 5) 16) = 0
           ·rw [if_pos c25] at H
            have c25b0 : ((Go.bits .and .u8 (rd l0 5) 16) == 0) = true := beq_iff_eq.mpr c25
            have c25b1 : ((Go.bits .and .u8 (rd l0 5) 16) != 0) = false := bne_eq_false_iff_eq.mpr c25
            clear c25
            have H' := Aside0.mk H
            clear H
            have p335 : 0 ≤ (4 : Int) := (by omega)
            have q335 : 4 < (l0.length : Int) := of_decide_eq_true (by first | (with_reducible assumption) | assumption)
            obtain ⟨ad335, e335, hx335_0⟩ := Kd.at_int HR0.out 4 p335 q335
            obtain rfl : ad329 = ad335 := (by injection e335)
            (try simp only [show (4 : Int).toNat = 4 from rfl, Nat.reduceMul, Nat.reduceEqDiff, Go.Addr.add, ↓reduceIte] at hx335_0)
            have qi335 : (4 < l0.length) = True := eq_true (by omega)
            (try rw [show ((4 : Int)).toNat = 4 from rfl] at hx335_0)
            have hn335_0 : ad329.block ≠ gb333 := Nat.ne_of_lt (Nat.lt_of_lt_of_le (by have := World.block_lt_of_cell? _ _ hx335_0; first | rwa [xB] at this | exact this) GW333.out)
            have hn335_1 : ad329.block ≠ gb333 := Nat.ne_of_lt (Nat.lt_of_lt_of_le (by have := World.block_lt_of_cell? _ _ hx335_0; first | rwa [xB] at this | exact this) GW333.out)
            have hn335_2 : ad329.block ≠ gb333 := Nat.ne_of_lt (Nat.lt_of_lt_of_le (by have := World.block_lt_of_cell? _ _ hx335_0; first | rwa [xB] at this | exact this) GW333.out)
            have hn335_3 : ad329.block ≠ gb333 := Nat.ne_of_lt (Nat.lt_of_lt_of_le (by have := World.block_lt_of_cell? _ _ hx335_0; first | rwa [xB] at this | exact this) GW333.out)
            have hn335_4 : ad329.block ≠ gb333 := Nat.ne_of_lt (Nat.lt_of_lt_of_le (by have := World.block_lt_of_cell? _ _ hx335_0; first | rwa [xB] at this | exact this) GW333.out)
            replace hx335_0 := (HB.out.cell (World.block_lt_of_cell? w _ hx335_0)).trans hx335_0
            clear hn335_0
            clear hn335_1
            clear hn335_2
            clear hn335_3
            clear hn335_4
            replace p335 := eq_true p335
            replace q335 := eq_true q335
            have p336 : 0 ≤ (4 : Int) := (by omega)
            have q336 : 4 < (l0.length : Int) := of_decide_eq_true (by first | (with_reducible assumption) | assumption)
            obtain ⟨ad336, e336, hx336_0⟩ := Kd.at_int HR0.out 4 p336 q336
            obtain rfl : ad329 = ad336 := (by injection e336)
            (try simp only [show (4 : Int).toNat = 4 from rfl, Nat.reduceMul, Nat.reduceEqDiff, Go.Addr.add, ↓reduceIte] at hx336_0)
            have qi336 : (4 < l0.length) = True := eq_true (by omega)
            (try rw [show ((4 : Int)).toNat = 4 from rfl] at hx336_0)
            have hn336_0 : ad329.block ≠ gb333 := Nat.ne_of_lt (Nat.lt_of_lt_of_le (by have := World.block_lt_of_cell? _ _ hx336_0; first | rwa [xB] at this | exact this) GW333.out)
            have hn336_1 : ad329.block ≠ gb333 := Nat.ne_of_lt (Nat.lt_of_lt_of_le (by have := World.block_lt_of_cell? _ _ hx336_0; first | rwa [xB] at this | exact this) GW333.out)
            have hn336_2 : ad329.block ≠ gb333 := Nat.ne_of_lt (Nat.lt_of_lt_of_le (by have := World.block_lt_of_cell? _ _ hx336_0; first | rwa [xB] at this | exact this) GW333.out)
            have hn336_3 : ad329.block ≠ gb333 := Nat.ne_of_lt (Nat.lt_of_lt_of_le (by have := World.block_lt_of_cell? _ _ hx336_0; first | rwa [xB] at this | exact this) GW333.out)
            have hn336_4 : ad329.block ≠ gb333 := Nat.ne_of_lt (Nat.lt_of_lt_of_le (by have := World.block_lt_of_cell? _ _ hx336_0; first | rwa [xB] at this | exact this) GW333.out)
            replace hx336_0 := (HB.out.cell (World.block_lt_of_cell? w _ hx336_0)).trans hx336_0
            clear hn336_0
            clear hn336_1
            clear hn336_2
            clear hn336_3
            clear hn336_4
            replace p336 := eq_true p336
            replace q336 := eq_true q336
            have p337 : 0 ≤ (5 : Int) := (by omega)
            have q337 : 5 < (l0.length : Int) := of_decide_eq_true (by first | (with_reducible assumption) | assumption)
            obtain ⟨ad337, e337, hx337_0⟩ := Kd.at_int HR0.out 5 p337 q337
            obtain rfl : ad329 = ad337 := (by injection e337)
            (try simp only [show (5 : Int).toNat = 5 from rfl, Nat.reduceMul, Nat.reduceEqDiff, Go.Addr.add, ↓reduceIte] at hx337_0)
            have qi337 : (5 < l0.length) = True := eq_true (by omega)
            (try rw [show ((5 : Int)).toNat = 5 from rfl] at hx337_0)
            have hn337_0 : ad329.block ≠ gb333 := Nat.ne_of_lt (Nat.lt_of_lt_of_le (by have := World.block_lt_of_cell? _ _ hx337_0; first | rwa [xB] at this | exact this) GW333.out)
            have hn337_1 : ad329.block ≠ gb333 := Nat.ne_of_lt (Nat.lt_of_lt_of_le (by have := World.block_lt_of_cell? _ _ hx337_0; first | rwa [xB] at this | exact this) GW333.out)
            have hn337_2 : ad329.block ≠ gb333 := Nat.ne_of_lt (Nat.lt_of_lt_of_le (by have := World.block_lt_of_cell? _ _ hx337_0; first | rwa [xB] at this | exact this) GW333.out)
            have hn337_3 : ad329.block ≠ gb333 := Nat.ne_of_lt (Nat.lt_of_lt_of_le (by have := World.block_lt_of_cell? _ _ hx337_0; first | rwa [xB] at this | exact this) GW333.out)
            have hn337_4 : ad329.block ≠ gb333 := Nat.ne_of_lt (Nat.lt_of_lt_of_le (by have := World.block_lt_of_cell? _ _ hx337_0; first | rwa [xB] at this | exact this) GW333.out)
            replace hx337_0 := (HB.out.cell (World.block_lt_of_cell? w _ hx337_0)).trans hx337_0
            clear hn337_0
            clear hn337_1
            clear hn337_2
            clear hn337_3
            clear hn337_4
            replace p337 := eq_true p337
            replace q337 := eq_true q337
            go_wp2
            go_meet
            case rel => exact ⟨_, (ji22), ((-1)), (by first | rfl | (simp; done) | (simp only [← hji22] <;> (first | rfl | simp)) | (simp [*]; done)), H', ⟨by first | omega | exact Nat.le_refl _⟩, ⟨by (with_reducible repeat (first | refine yN ?_ _ | refine yD ?_ | refine yA ?_ _)); exact BK328.out⟩, ⟨by (with_reducible repeat (first | refine yN ?_ _ | refine yD ?_ | refine yA ?_ _)); exact BK333.out⟩, ⟨by repeat (first | (with_reducible first | exact HB.out | apply zA | apply zN | apply zD | refine zP ?_ GE328.out | refine zP ?_ GE333.out) | exact HB.out)⟩⟩
           ·rw [if_neg c25] at H
            have c25b0 : ((Go.bits .and .u8 (rd l0 5) 16) == 0) = false := beq_eq_false_iff_ne.mpr c25
            have c25b1 : ((Go.bits .and .u8 (rd l0 5) 16) != 0) = true := bne_iff_ne.mpr c25
            by_cases c26 : 6 < (l0.length : Int)
            ·rw [if_pos c26] at H
             have c26b0 : decide (6 < (l0.length : Int)) = true := decide_eq_true c26
             have c26b1 : decide (6 < l0.length) = true := decide_eq_true (by omega)
             clear c26
             by_cases c27 : 7 < (l0.length : Int)
             ·rw [if_pos c27] at H
              have c27b0 : decide (7 < (l0.length : Int)) = true := decide_eq_true c27
              have c27b1 : decide (7 < l0.length) = true := decide_eq_true (by omega)
              clear c27
              by_cases c28 : 8 < (l0.length : Int)
              ·rw [if_pos c28] at H
               have c28b0 : decide (8 < (l0.length : Int)) = true := decide_eq_true c28
               have c28b1 : decide (8 < l0.length) = true := decide_eq_true (by omega)
               clear c28
               by_cases c29 : 9 < (l0.length : Int)
               ·rw [if_pos c29] at H
                have c29b0 : decide (9 < (l0.length : Int)) = true := decide_eq_true c29
                have c29b1 : decide (9 < l0.length) = true := decide_eq_true (by omega)
                clear c29
                by_cases c30 : 10 < (l0.length : Int)
                ·rw [if_pos c30] at H
                 have c30b0 : decide (10 < (l0.length : Int)) = true := decide_eq_true c30
                 have c30b1 : decide (10 < l0.length) = true := decide_eq_true (by omega)
                 clear c30
                 by_cases c31 : 11 < (l0.length : Int)
                 ·rw [if_pos c31] at H
                  have c31b0 : decide (11 < (l0.length : Int)) = true := decide_eq_true c31
                  have c31b1 : decide (11 < l0.length) = true := decide_eq_true (by omega)
                  clear c31
                  have H' := Aside0.mk H
                  clear H
                  have p335 : 0 ≤ (4 : Int) := (by omega)
                  have q335 : 4 < (l0.length : Int) := of_decide_eq_true (by first | (with_reducible assumption) | assumption)
                  obtain ⟨ad335, e335, hx335_0⟩ := Kd.at_int HR0.out 4 p335 q335
                  obtain rfl : ad329 = ad335 := (by injection e335)
                  (try simp only [show (4 : Int).toNat = 4 from rfl, Nat.reduceMul, Nat.reduceEqDiff, Go.Addr.add, ↓reduceIte] at hx335_0)
                  have qi335 : (4 < l0.length) = True := eq_true (by omega)
                  (try rw [show ((4 : Int)).toNat = 4 from rfl] at hx335_0)
                  have hn335_0 : ad329.block ≠ gb333 := Nat.ne_of_lt (Nat.lt_of_lt_of_le (by have := World.block_lt_of_cell? _ _ hx335_0; first | rwa [xB] at this | exact this) GW333.out)
                  have hn335_1 : ad329.block ≠ gb333 := Nat.ne_of_lt (Nat.lt_of_lt_of_le (by have := World.block_lt_of_cell? _ _ hx335_0; first | rwa [xB] at this | exact this) GW333.out)
                  have hn335_2 : ad329.block ≠ gb333 := Nat.ne_of_lt (Nat.lt_of_lt_of_le (by have := World.block_lt_of_cell? _ _ hx335_0; first | rwa [xB] at this | exact this) GW333.out)
                  have hn335_3 : ad329.block ≠ gb333 := Nat.ne_of_lt (Nat.lt_of_lt_of_le (by have := World.block_lt_of_cell? _ _ hx335_0; first | rwa [xB] at this | exact this) GW333.out)
                  have hn335_4 : ad329.block ≠ gb333 := Nat.ne_of_lt (Nat.lt_of_lt_of_le (by have := World.block_lt_of_cell? _ _ hx335_0; first | rwa [xB] at this | exact this) GW333.out)
                  replace hx335_0 := (HB.out.cell (World.block_lt_of_cell? w _ hx335_0)).trans hx335_0
                  clear hn335_0
                  clear hn335_1
                  clear hn335_2
                  clear hn335_3
                  clear hn335_4
                  replace p335 := eq_true p335
                  replace q335 := eq_true q335
                  have p336 : 0 ≤ (4 : Int) := (by omega)
                  have q336 : 4 < (l0.length : Int) := of_decide_eq_true (by first | (with_reducible assumption) | assumption)
                  obtain ⟨ad336, e336, hx336_0⟩ := Kd.at_int HR0.out 4 p336 q336
                  obtain rfl : ad329 = ad336 := (by injection e336)
                  (try simp only [show (4 : Int).toNat = 4 from rfl, Nat.reduceMul, Nat.reduceEqDiff, Go.Addr.add, ↓reduceIte] at hx336_0)
                  have qi336 : (4 < l0.length) = True := eq_true (by omega)
                  (try rw [show ((4 : Int)).toNat = 4 from rfl] at hx336_0)
                  have hn336_0 : ad329.block ≠ gb333 := Nat.ne_of_lt (Nat.lt_of_lt_of_le (by have := World.block_lt_of_cell? _ _ hx336_0; first | rwa [xB] at this | exact this) GW333.out)
                  have hn336_1 : ad329.block ≠ gb333 := Nat.ne_of_lt (Nat.lt_of_lt_of_le (by have := World.block_lt_of_cell? _ _ hx336_0; first | rwa [xB] at this | exact this) GW333.out)
                  have hn336_2 : ad329.block ≠ gb333 := Nat.ne_of_lt (Nat.lt_of_lt_of_le (by have := World.block_lt_of_cell? _ _ hx336_0; first | rwa [xB] at this | exact this) GW333.out)
                  have hn336_3 : ad329.block ≠ gb333 := Nat.ne_of_lt (Nat.lt_of_lt_of_le (by have := World.block_lt_of_cell? _ _ hx336_0; first | rwa [xB] at this | exact this) GW333.out)
                  have hn336_4 : ad329.block ≠ gb333 := Nat.ne_of_lt (Nat.lt_of_lt_of_le (by have := World.block_lt_of_cell? _ _ hx336_0; first | rwa [xB] at this | exact this) GW333.out)
                  replace hx336_0 := (HB.out.cell (World.block_lt_of_cell? w _ hx336_0)).trans hx336_0
                  clear hn336_0
                  clear hn336_1
                  clear hn336_2
                  clear hn336_3
                  clear hn336_4
                  replace p336 := eq_true p336
                  replace q336 := eq_true q336
                  have p337 : 0 ≤ (5 : Int) := (by omega)
                  have q337 : 5 < (l0.length : Int) := of_decide_eq_true (by first | (with_reducible assumption) | assumption)
                  obtain ⟨ad337, e337, hx337_0⟩ := Kd.at_int HR0.out 5 p337 q337
                  obtain rfl : ad329 = ad337 := (by injection e337)
                  (try simp only [show (5 : Int).toNat = 5 from rfl, Nat.reduceMul, Nat.reduceEqDiff, Go.Addr.add, ↓reduceIte] at hx337_0)
                  have qi337 : (5 < l0.length) = True := eq_true (by omega)
                  (try rw [show ((5 : Int)).toNat = 5 from rfl] at hx337_0)
                  have hn337_0 : ad329.block ≠ gb333 := Nat.ne_of_lt (Nat.lt_of_lt_of_le (by have := World.block_lt_of_cell? _ _ hx337_0; first | rwa [xB] at this | exact this) GW333.out)
                  have hn337_1 : ad329.block ≠ gb333 := Nat.ne_of_lt (Nat.lt_of_lt_of_le (by have := World.block_lt_of_cell? _ _ hx337_0; first | rwa [xB] at this | exact this) GW333.out)
                  have hn337_2 : ad329.block ≠ gb333 := Nat.ne_of_lt (Nat.lt_of_lt_of_le (by have := World.block_lt_of_cell? _ _ hx337_0; first | rwa [xB] at this | exact this) GW333.out)
                  have hn337_3 : ad329.block ≠ gb333 := Nat.ne_of_lt (Nat.lt_of_lt_of_le (by have := World.block_lt_of_cell? _ _ hx337_0; first | rwa [xB] at this | exact this) GW333.out)
                  have hn337_4 : ad329.block ≠ gb333 := Nat.ne_of_lt (Nat.lt_of_lt_of_le (by have := World.block_lt_of_cell? _ _ hx337_0; first | rwa [xB] at this | exact this) GW333.out)
                  replace hx337_0 := (HB.out.cell (World.block_lt_of_cell? w _ hx337_0)).trans hx337_0
                  clear hn337_0
                  clear hn337_1
                  clear hn337_2
                  clear hn337_3
                  clear hn337_4
                  replace p337 := eq_true p337
                  replace q337 := eq_true q337
                  try go_wp2
                  have n0_ := Aside0.mk (yD BK328.out)
                  have n1_ := Aside0.mk (yD BK333.out)
                  have n2_ := Aside0.mk (zD HB.out)
                  clear BK328
                  clear BK333
                  clear HB
                  have BK328 := n0_
                  have BK333 := n1_
                  have HB := n2_
                  clear n0_ n1_ n2_
                  have p338 : 0 ≤ (6 : Int) := (by omega)
                  have q338 : 6 < (l0.length : Int) := of_decide_eq_true (by first | (with_reducible assumption) | assumption)
                  obtain ⟨ad338, e338, hx338_0⟩ := Kd.at_int HR0.out 6 p338 q338
                  have hw338_0 := hx338_0
                  (try rw [show ((6 : Int)).toNat = 6 from rfl] at hw338_0)
                  (try rw [show 6 * 1 = 6 from rfl] at hw338_0)
                  (try simp only [Nat.reduceMul, Nat.reduceEqDiff, Go.Addr.add, ↓reduceIte] at hw338_0)
                  obtain rfl : ad329 = ad338 := (by injection e338)
                  (try simp only [show (6 : Int).toNat = 6 from rfl, Nat.reduceMul, Nat.reduceEqDiff, Go.Addr.add, ↓reduceIte] at hx338_0)
                  have qi338 : (6 < l0.length) = True := eq_true (by omega)
                  (try rw [show ((6 : Int)).toNat = 6 from rfl] at hx338_0)
                  replace hx338_0 := (HB.out.cell (World.block_lt_of_cell? w _ hx338_0)).trans hx338_0
                  replace p338 := eq_true p338
                  replace q338 := eq_true q338
                  have p339 : 0 ≤ (7 : Int) := (by omega)
                  have q339 : 7 < (l0.length : Int) := of_decide_eq_true (by first | (with_reducible assumption) | assumption)
                  obtain ⟨ad339, e339, hx339_0⟩ := Kd.at_int HR0.out 7 p339 q339
                  have hw339_0 := hx339_0
                  (try rw [show ((7 : Int)).toNat = 7 from rfl] at hw339_0)
                  (try rw [show 7 * 1 = 7 from rfl] at hw339_0)
                  (try simp only [Nat.reduceMul, Nat.reduceEqDiff, Go.Addr.add, ↓reduceIte] at hw339_0)
                  obtain rfl : ad329 = ad339 := (by injection e339)
                  (try simp only [show (7 : Int).toNat = 7 from rfl, Nat.reduceMul, Nat.reduceEqDiff, Go.Addr.add, ↓reduceIte] at hx339_0)
                  have qi339 : (7 < l0.length) = True := eq_true (by omega)
                  (try rw [show ((7 : Int)).toNat = 7 from rfl] at hx339_0)
                  replace hx339_0 := (HB.out.cell (World.block_lt_of_cell? w _ hx339_0)).trans hx339_0
                  replace p339 := eq_true p339
                  replace q339 := eq_true q339
                  have p340 : 0 ≤ (8 : Int) := (by omega)
                  have q340 : 8 < (l0.length : Int) := of_decide_eq_true (by first | (with_reducible assumption) | assumption)
                  obtain ⟨ad340, e340, hx340_0⟩ := Kd.at_int HR0.out 8 p340 q340
                  have hw340_0 := hx340_0
                  (try rw [show ((8 : Int)).toNat = 8 from rfl] at hw340_0)
                  (try rw [show 8 * 1 = 8 from rfl] at hw340_0)
                  (try simp only [Nat.reduceMul, Nat.reduceEqDiff, Go.Addr.add, ↓reduceIte] at hw340_0)
                  obtain rfl : ad329 = ad340 := (by injection e340)
                  (try simp only [show (8 : Int).toNat = 8 from rfl, Nat.reduceMul, Nat.reduceEqDiff, Go.Addr.add, ↓reduceIte] at hx340_0)
                  have qi340 : (8 < l0.length) = True := eq_true (by omega)
                  (try rw [show ((8 : Int)).toNat = 8 from rfl] at hx340_0)
                  replace hx340_0 := (HB.out.cell (World.block_lt_of_cell? w _ hx340_0)).trans hx340_0
                  replace p340 := eq_true p340
                  replace q340 := eq_true q340
                  have p341 : 0 ≤ (9 : Int) := (by omega)
                  have q341 : 9 < (l0.length : Int) := of_decide_eq_true (by first | (with_reducible assumption) | assumption)
                  obtain ⟨ad341, e341, hx341_0⟩ := Kd.at_int HR0.out 9 p341 q341
                  have hw341_0 := hx341_0
                  (try rw [show ((9 : Int)).toNat = 9 from rfl] at hw341_0)
                  (try rw [show 9 * 1 = 9 from rfl] at hw341_0)
                  (try simp only [Nat.reduceMul, Nat.reduceEqDiff, Go.Addr.add, ↓reduceIte] at hw341_0)
                  obtain rfl : ad329 = ad341 := (by injection e341)
                  (try simp only [show (9 : Int).toNat = 9 from rfl, Nat.reduceMul, Nat.reduceEqDiff, Go.Addr.add, ↓reduceIte] at hx341_0)
                  have qi341 : (9 < l0.length) = True := eq_true (by omega)
                  (try rw [show ((9 : Int)).toNat = 9 from rfl] at hx341_0)
                  replace hx341_0 := (HB.out.cell (World.block_lt_of_cell? w _ hx341_0)).trans hx341_0
                  replace p341 := eq_true p341
                  replace q341 := eq_true q341
                  have p342 : 0 ≤ (10 : Int) := (by omega)
                  have q342 : 10 < (l0.length : Int) := of_decide_eq_true (by first | (with_reducible assumption) | assumption)
                  obtain ⟨ad342, e342, hx342_0⟩ := Kd.at_int HR0.out 10 p342 q342
                  have hw342_0 := hx342_0
                  (try rw [show ((10 : Int)).toNat = 10 from rfl] at hw342_0)
                  (try rw [show 10 * 1 = 10 from rfl] at hw342_0)
                  (try simp only [Nat.reduceMul, Nat.reduceEqDiff, Go.Addr.add, ↓reduceIte] at hw342_0)
                  obtain rfl : ad329 = ad342 := (by injection e342)
                  (try simp only [show (10 : Int).toNat = 10 from rfl, Nat.reduceMul, Nat.reduceEqDiff, Go.Addr.add, ↓reduceIte] at hx342_0)
                  have qi342 : (10 < l0.length) = True := eq_true (by omega)
                  (try rw [show ((10 : Int)).toNat = 10 from rfl] at hx342_0)
                  replace hx342_0 := (HB.out.cell (World.block_lt_of_cell? w _ hx342_0)).trans hx342_0
                  replace p342 := eq_true p342
                  replace q342 := eq_true q342
                  refine start_ (n := 30) (S := fun w' => w'.cell? ⟨ad329.block, ad329.off + 6, none⟩ = some (.int .u8 (rd l0 6)) ∧ w'.cell? ⟨ad329.block, ad329.off + 7, none⟩ = some (.int .u8 (rd l0 7)) ∧ w'.cell? ⟨ad329.block, ad329.off + 8, none⟩ = some (.int .u8 (rd l0 8)) ∧ w'.cell? ⟨ad329.block, ad329.off + 9, none⟩ = some (.int .u8 (rd l0 9)) ∧ w'.cell? ⟨ad329.block, ad329.off + 10, none⟩ = some (.int .u8 (rd l0 10))) (ds := []) #[false, false, false, false, false, false, false, false, false, false, false, false, false, false, false, false, false, false, false, false, false, false, false, false, false, false, false, false, false, false] (by kernel_rfl) rfl rfl ⟨((HB.out.cell (World.block_lt_of_cell? w _ hw338_0)).trans hw338_0), ((HB.out.cell (World.block_lt_of_cell? w _ hw339_0)).trans hw339_0), ((HB.out.cell (World.block_lt_of_cell? w _ hw340_0)).trans hw340_0), ((HB.out.cell (World.block_lt_of_cell? w _ hw341_0)).trans hw341_0), ((HB.out.cell (World.block_lt_of_cell? w _ hw342_0)).trans hw342_0)⟩ (fun hHeld => ?_); refine with_tabW cutroomref17_Take.tab10 cutroomref17_Take.bits10 (fun HT_ HW_ => ?_)
                  generalize w32.drew = w33 at BK328 BK333 HB hx338_0 hx339_0 hx340_0 hx341_0 hx342_0 hHeld ⊢
                  refine pure_ (i := 0) (N := some 61) (v := ?_) (a' := ?_) #[T', F', F', F', F', F', F', F', F', F', F', F', F', F', F', F', F', F', F', F', F', F', F', F', F', F', F', F', F', F'] rfl rfl (any_of HT_.out (by kernel_rfl)) (fun _ _ _ h => h) (Or.inl ⟨by rfl, ?_⟩) ?_ ?_;rotate_left;(intro w';go_simp;with_reducible rfl);rotate_left;(simp only [Act.put, sA, sZ, sS, i64_w, i32_w];rfl)
                  refine pure_ (i := 1) (N := some 62) (v := ?_) (a' := ?_) #[T', T', F', F', F', F', F', F', F', F', F', F', F', F', F', F', F', F', F', F', F', F', F', F', F', F', F', F', F', F'] rfl rfl (any_of HT_.out (by kernel_rfl)) (fun _ _ _ h => h) (Or.inl ⟨by rfl, ?_⟩) ?_ ?_;rotate_left;(intro w';go_simp;with_reducible rfl);rotate_left;(simp only [Act.put, sA, sZ, sS, i64_w, i32_w];rfl)
                  refine pure_ (i := 5) (N := some 66) (v := ?_) (a' := ?_) #[T', T', F', F', F', T', F', F', F', F', F', F', F', F', F', F', F', F', F', F', F', F', F', F', F', F', F', F', F', F'] rfl rfl (any_of HT_.out (by kernel_rfl)) (fun _ _ _ h => h) (Or.inl ⟨by rfl, ?_⟩) ?_ ?_;rotate_left;(intro w';go_simp;with_reducible rfl);rotate_left;(simp only [Act.put, sA, sZ, sS, i64_w, i32_w];rfl)
                  refine pure_ (i := 6) (N := some 67) (v := ?_) (a' := ?_) #[T', T', F', F', F', T', T', F', F', F', F', F', F', F', F', F', F', F', F', F', F', F', F', F', F', F', F', F', F', F'] rfl rfl (any_of HT_.out (by kernel_rfl)) (fun _ _ _ h => h) (Or.inl ⟨by rfl, ?_⟩) ?_ ?_;rotate_left;(intro w';go_simp;with_reducible rfl);rotate_left;(simp only [Act.put, sA, sZ, sS, i64_w, i32_w];rfl)
                  refine pure_ (i := 11) (N := some 72) (v := ?_) (a' := ?_) #[T', T', F', F', F', T', T', F', F', F', F', T', F', F', F', F', F', F', F', F', F', F', F', F', F', F', F', F', F', F'] rfl rfl (any_of HT_.out (by kernel_rfl)) (fun _ _ _ h => h) (Or.inl ⟨by rfl, ?_⟩) ?_ ?_;rotate_left;(intro w';go_simp;with_reducible rfl);rotate_left;(simp only [Act.put, sA, sZ, sS, i64_w, i32_w];rfl)
                  refine pure_ (i := 12) (N := some 73) (v := ?_) (a' := ?_) #[T', T', F', F', F', T', T', F', F', F', F', T', T', F', F', F', F', F', F', F', F', F', F', F', F', F', F', F', F', F'] rfl rfl (any_of HT_.out (by kernel_rfl)) (fun _ _ _ h => h) (Or.inl ⟨by rfl, ?_⟩) ?_ ?_;rotate_left;(intro w';go_simp;with_reducible rfl);rotate_left;(simp only [Act.put, sA, sZ, sS, i64_w, i32_w];rfl)
                  refine pure_ (i := 17) (N := some 78) (v := ?_) (a' := ?_) #[T', T', F', F', F', T', T', F', F', F', F', T', T', F', F', F', F', T', F', F', F', F', F', F', F', F', F', F', F', F'] rfl rfl (any_of HT_.out (by kernel_rfl)) (fun _ _ _ h => h) (Or.inl ⟨by rfl, ?_⟩) ?_ ?_;rotate_left;(intro w';go_simp;with_reducible rfl);rotate_left;(simp only [Act.put, sA, sZ, sS, i64_w, i32_w];rfl)
                  refine pure_ (i := 18) (N := some 79) (v := ?_) (a' := ?_) #[T', T', F', F', F', T', T', F', F', F', F', T', T', F', F', F', F', T', T', F', F', F', F', F', F', F', F', F', F', F'] rfl rfl (any_of HT_.out (by kernel_rfl)) (fun _ _ _ h => h) (Or.inl ⟨by rfl, ?_⟩) ?_ ?_;rotate_left;(intro w';go_simp;with_reducible rfl);rotate_left;(simp only [Act.put, sA, sZ, sS, i64_w, i32_w];rfl)
                  refine pure_ (i := 23) (N := some 84) (v := ?_) (a' := ?_) #[T', T', F', F', F', T', T', F', F', F', F', T', T', F', F', F', F', T', T', F', F', F', F', T', F', F', F', F', F', F'] rfl rfl (any_of HT_.out (by kernel_rfl)) (fun _ _ _ h => h) (Or.inl ⟨by rfl, ?_⟩) ?_ ?_;rotate_left;(intro w';go_simp;with_reducible rfl);rotate_left;(simp only [Act.put, sA, sZ, sS, i64_w, i32_w];rfl)
                  refine pure_ (i := 24) (N := some 85) (v := ?_) (a' := ?_) #[T', T', F', F', F', T', T', F', F', F', F', T', T', F', F', F', F', T', T', F', F', F', F', T', T', F', F', F', F', F'] rfl rfl (any_of HT_.out (by kernel_rfl)) (fun _ _ _ h => h) (Or.inl ⟨by rfl, ?_⟩) ?_ ?_;rotate_left;(intro w';go_simp;with_reducible rfl);rotate_left;(simp only [Act.put, sA, sZ, sS, i64_w, i32_w];rfl)
                  refine take_ (i := 2) (N := some 63) (v := ?_) (a' := ?_) #[T', T', T', F', F', T', T', F', F', F', F', T', T', F', F', F', F', T', T', F', F', F', F', T', T', F', F', F', F', F'] rfl rfl (take_ofW HT_.out HW_.out (by kernel_rfl)) (fun _ _ _ h => h) (Or.inl ⟨by rfl, ?_⟩) hHeld ?_ ?_;rotate_left;(rintro w' ⟨s0, s1, s2, s3, s4⟩;go_simp;with_reducible rfl);rotate_left;(simp only [Act.put, sA, sZ, sS, i64_w, i32_w];rfl)
                  refine pure_ (i := 3) (N := some 64) (v := ?_) (a' := ?_) #[T', T', T', T', F', T', T', F', F', F', F', T', T', F', F', F', F', T', T', F', F', F', F', T', T', F', F', F', F', F'] rfl rfl (any_of HT_.out (by kernel_rfl)) (fun _ _ _ h => h) (Or.inl ⟨by rfl, ?_⟩) ?_ ?_;rotate_left;(intro w';go_simp;with_reducible rfl);rotate_left;(simp only [Act.put, sA, sZ, sS, i64_w, i32_w];rfl)
                  refine pure_ (i := 4) (N := some 65) (v := ?_) (a' := ?_) #[T', T', T', T', T', T', T', F', F', F', F', T', T', F', F', F', F', T', T', F', F', F', F', T', T', F', F', F', F', F'] rfl rfl (any_of HT_.out (by kernel_rfl)) (fun _ _ _ h => h) (Or.inl ⟨by rfl, ?_⟩) ?_ ?_;rotate_left;(intro w';go_simp;with_reducible rfl);rotate_left;(simp only [Act.put, sA, sZ, sS, i64_w, i32_w];rfl)
                  refine take_ (i := 7) (N := some 68) (v := ?_) (a' := ?_) #[T', T', T', T', T', T', T', T', F', F', F', T', T', F', F', F', F', T', T', F', F', F', F', T', T', F', F', F', F', F'] rfl rfl (take_ofW HT_.out HW_.out (by kernel_rfl)) (fun _ _ _ h => h) (Or.inl ⟨by rfl, ?_⟩) hHeld ?_ ?_;rotate_left;(rintro w' ⟨s0, s1, s2, s3, s4⟩;go_simp;with_reducible rfl);rotate_left;(simp only [Act.put, sA, sZ, sS, i64_w, i32_w];rfl)
                  refine pure_ (i := 8) (N := some 69) (v := ?_) (a' := ?_) #[T', T', T', T', T', T', T', T', T', F', F', T', T', F', F', F', F', T', T', F', F', F', F', T', T', F', F', F', F', F'] rfl rfl (any_of HT_.out (by kernel_rfl)) (fun _ _ _ h => h) (Or.inl ⟨by rfl, ?_⟩) ?_ ?_;rotate_left;(intro w';go_simp;with_reducible rfl);rotate_left;(simp only [Act.put, sA, sZ, sS, i64_w, i32_w];rfl)
                  refine pure_ (i := 9) (N := some 70) (v := ?_) (a' := ?_) #[T', T', T', T', T', T', T', T', T', T', F', T', T', F', F', F', F', T', T', F', F', F', F', T', T', F', F', F', F', F'] rfl rfl (any_of HT_.out (by kernel_rfl)) (fun _ _ _ h => h) (Or.inl ⟨by rfl, ?_⟩) ?_ ?_;rotate_left;(intro w';go_simp;with_reducible rfl);rotate_left;(simp only [Act.put, sA, sZ, sS, i64_w, i32_w];rfl)
                  refine pure_ (i := 10) (N := some 71) (v := ?_) (a' := ?_) #[T', T', T', T', T', T', T', T', T', T', T', T', T', F', F', F', F', T', T', F', F', F', F', T', T', F', F', F', F', F'] rfl rfl (any_of HT_.out (by kernel_rfl)) (fun _ _ _ h => h) (Or.inl ⟨by rfl, ?_⟩) ?_ ?_;rotate_left;(intro w';go_simp;with_reducible rfl);rotate_left;(simp only [Act.put, sA, sZ, sS, i64_w, i32_w];rfl)
                  refine take_ (i := 13) (N := some 74) (v := ?_) (a' := ?_) #[T', T', T', T', T', T', T', T', T', T', T', T', T', T', F', F', F', T', T', F', F', F', F', T', T', F', F', F', F', F'] rfl rfl (take_ofW HT_.out HW_.out (by kernel_rfl)) (fun _ _ _ h => h) (Or.inl ⟨by rfl, ?_⟩) hHeld ?_ ?_;rotate_left;(rintro w' ⟨s0, s1, s2, s3, s4⟩;go_simp;with_reducible rfl);rotate_left;(simp only [Act.put, sA, sZ, sS, i64_w, i32_w];rfl)
                  refine pure_ (i := 14) (N := some 75) (v := ?_) (a' := ?_) #[T', T', T', T', T', T', T', T', T', T', T', T', T', T', T', F', F', T', T', F', F', F', F', T', T', F', F', F', F', F'] rfl rfl (any_of HT_.out (by kernel_rfl)) (fun _ _ _ h => h) (Or.inl ⟨by rfl, ?_⟩) ?_ ?_;rotate_left;(intro w';go_simp;with_reducible rfl);rotate_left;(simp only [Act.put, sA, sZ, sS, i64_w, i32_w];rfl)
                  refine pure_ (i := 15) (N := some 76) (v := ?_) (a' := ?_) #[T', T', T', T', T', T', T', T', T', T', T', T', T', T', T', T', F', T', T', F', F', F', F', T', T', F', F', F', F', F'] rfl rfl (any_of HT_.out (by kernel_rfl)) (fun _ _ _ h => h) (Or.inl ⟨by rfl, ?_⟩) ?_ ?_;rotate_left;(intro w';go_simp;with_reducible rfl);rotate_left;(simp only [Act.put, sA, sZ, sS, i64_w, i32_w];rfl)
                  refine pure_ (i := 16) (N := some 77) (v := ?_) (a' := ?_) #[T', T', T', T', T', T', T', T', T', T', T', T', T', T', T', T', T', T', T', F', F', F', F', T', T', F', F', F', F', F'] rfl rfl (any_of HT_.out (by kernel_rfl)) (fun _ _ _ h => h) (Or.inl ⟨by rfl, ?_⟩) ?_ ?_;rotate_left;(intro w';go_simp;with_reducible rfl);rotate_left;(simp only [Act.put, sA, sZ, sS, i64_w, i32_w];rfl)
                  refine take_ (i := 19) (N := some 80) (v := ?_) (a' := ?_) #[T', T', T', T', T', T', T', T', T', T', T', T', T', T', T', T', T', T', T', T', F', F', F', T', T', F', F', F', F', F'] rfl rfl (take_ofW HT_.out HW_.out (by kernel_rfl)) (fun _ _ _ h => h) (Or.inl ⟨by rfl, ?_⟩) hHeld ?_ ?_;rotate_left;(rintro w' ⟨s0, s1, s2, s3, s4⟩;go_simp;with_reducible rfl);rotate_left;(simp only [Act.put, sA, sZ, sS, i64_w, i32_w];rfl)
                  refine pure_ (i := 20) (N := some 81) (v := ?_) (a' := ?_) #[T', T', T', T', T', T', T', T', T', T', T', T', T', T', T', T', T', T', T', T', T', F', F', T', T', F', F', F', F', F'] rfl rfl (any_of HT_.out (by kernel_rfl)) (fun _ _ _ h => h) (Or.inl ⟨by rfl, ?_⟩) ?_ ?_;rotate_left;(intro w';go_simp;with_reducible rfl);rotate_left;(simp only [Act.put, sA, sZ, sS, i64_w, i32_w];rfl)
                  refine pure_ (i := 21) (N := some 82) (v := ?_) (a' := ?_) #[T', T', T', T', T', T', T', T', T', T', T', T', T', T', T', T', T', T', T', T', T', T', F', T', T', F', F', F', F', F'] rfl rfl (any_of HT_.out (by kernel_rfl)) (fun _ _ _ h => h) (Or.inl ⟨by rfl, ?_⟩) ?_ ?_;rotate_left;(intro w';go_simp;with_reducible rfl);rotate_left;(simp only [Act.put, sA, sZ, sS, i64_w, i32_w];rfl)
                  refine pure_ (i := 22) (N := some 83) (v := ?_) (a' := ?_) #[T', T', T', T', T', T', T', T', T', T', T', T', T', T', T', T', T', T', T', T', T', T', T', T', T', F', F', F', F', F'] rfl rfl (any_of HT_.out (by kernel_rfl)) (fun _ _ _ h => h) (Or.inl ⟨by rfl, ?_⟩) ?_ ?_;rotate_left;(intro w';go_simp;with_reducible rfl);rotate_left;(simp only [Act.put, sA, sZ, sS, i64_w, i32_w];rfl)
                  refine take_ (i := 25) (N := some 86) (v := ?_) (a' := ?_) #[T', T', T', T', T', T', T', T', T', T', T', T', T', T', T', T', T', T', T', T', T', T', T', T', T', T', F', F', F', F'] rfl rfl (take_ofW HT_.out HW_.out (by kernel_rfl)) (fun _ _ _ h => h) (Or.inl ⟨by rfl, ?_⟩) hHeld ?_ ?_;rotate_left;(rintro w' ⟨s0, s1, s2, s3, s4⟩;go_simp;with_reducible rfl);rotate_left;(simp only [Act.put, sA, sZ, sS, i64_w, i32_w];rfl)
                  refine pure_ (i := 26) (N := some 87) (v := ?_) (a' := ?_) #[T', T', T', T', T', T', T', T', T', T', T', T', T', T', T', T', T', T', T', T', T', T', T', T', T', T', T', F', F', F'] rfl rfl (any_of HT_.out (by kernel_rfl)) (fun _ _ _ h => h) (Or.inl ⟨by rfl, ?_⟩) ?_ ?_;rotate_left;(intro w';go_simp;with_reducible rfl);rotate_left;(simp only [Act.put, sA, sZ, sS, i64_w, i32_w];rfl)
                  refine pure_ (i := 27) (N := some 88) (v := ?_) (a' := ?_) #[T', T', T', T', T', T', T', T', T', T', T', T', T', T', T', T', T', T', T', T', T', T', T', T', T', T', T', T', F', F'] rfl rfl (any_of HT_.out (by kernel_rfl)) (fun _ _ _ h => h) (Or.inl ⟨by rfl, ?_⟩) ?_ ?_;rotate_left;(intro w';go_simp;with_reducible rfl);rotate_left;(simp only [Act.put, sA, sZ, sS, i64_w, i32_w];rfl)
                  refine pure_ (i := 28) (N := some 89) (v := ?_) (a' := ?_) #[T', T', T', T', T', T', T', T', T', T', T', T', T', T', T', T', T', T', T', T', T', T', T', T', T', T', T', T', T', F'] rfl rfl (any_of HT_.out (by kernel_rfl)) (fun _ _ _ h => h) (Or.inl ⟨by rfl, ?_⟩) ?_ ?_;rotate_left;(intro w';go_simp;with_reducible rfl);rotate_left;(simp only [Act.put, sA, sZ, sS, i64_w, i32_w];rfl)
                  refine pure_ (i := 29) (N := some 6) (v := ?_) (a' := ?_) #[T', T', T', T', T', T', T', T', T', T', T', T', T', T', T', T', T', T', T', T', T', T', T', T', T', T', T', T', T', T'] rfl rfl (any_of HT_.out (by kernel_rfl)) (fun _ _ _ h => h) (Or.inl ⟨by rfl, ?_⟩) ?_ ?_;rotate_left;(intro w';go_simp;with_reducible rfl);rotate_left;(simp only [Act.put, sA, sZ, sS, i64_w, i32_w];rfl)
                  refine done_ (done_of HT_.out (by kernel_rfl)) ?_
                  try go_wp2
                  have n0_ := Aside0.mk (yD BK328.out)
                  have n1_ := Aside0.mk (yD BK333.out)
                  have n2_ := Aside0.mk (zD HB.out)
                  clear BK328
                  clear BK333
                  clear HB
                  have BK328 := n0_
                  have BK333 := n1_
                  have HB := n2_
                  clear n0_ n1_ n2_
                  have p343 : 0 ≤ (10 : Int) := (by omega)
                  have q343 : 10 < (l0.length : Int) := of_decide_eq_true (by first | (with_reducible assumption) | assumption)
                  obtain ⟨ad343, e343, hx343_0⟩ := Kd.at_int HR0.out 10 p343 q343
                  have hw343_0 := hx343_0
                  (try rw [show ((10 : Int)).toNat = 10 from rfl] at hw343_0)
                  (try rw [show 10 * 1 = 10 from rfl] at hw343_0)
                  (try simp only [Nat.reduceMul, Nat.reduceEqDiff, Go.Addr.add, ↓reduceIte] at hw343_0)
                  obtain rfl : ad329 = ad343 := (by injection e343)
                  (try simp only [show (10 : Int).toNat = 10 from rfl, Nat.reduceMul, Nat.reduceEqDiff, Go.Addr.add, ↓reduceIte] at hx343_0)
                  have qi343 : (10 < l0.length) = True := eq_true (by omega)
                  (try rw [show ((10 : Int)).toNat = 10 from rfl] at hx343_0)
                  replace hx343_0 := (HB.out.cell (World.block_lt_of_cell? w _ hx343_0)).trans hx343_0
                  replace p343 := eq_true p343
                  replace q343 := eq_true q343
                  have p344 : 0 ≤ (11 : Int) := (by omega)
                  have q344 : 11 < (l0.length : Int) := of_decide_eq_true (by first | (with_reducible assumption) | assumption)
                  obtain ⟨ad344, e344, hx344_0⟩ := Kd.at_int HR0.out 11 p344 q344
                  have hw344_0 := hx344_0
                  (try rw [show ((11 : Int)).toNat = 11 from rfl] at hw344_0)
                  (try rw [show 11 * 1 = 11 from rfl] at hw344_0)
                  (try simp only [Nat.reduceMul, Nat.reduceEqDiff, Go.Addr.add, ↓reduceIte] at hw344_0)
                  obtain rfl : ad329 = ad344 := (by injection e344)
                  (try simp only [show (11 : Int).toNat = 11 from rfl, Nat.reduceMul, Nat.reduceEqDiff, Go.Addr.add, ↓reduceIte] at hx344_0)
                  have qi344 : (11 < l0.length) = True := eq_true (by omega)
                  (try rw [show ((11 : Int)).toNat = 11 from rfl] at hx344_0)
                  replace hx344_0 := (HB.out.cell (World.block_lt_of_cell? w _ hx344_0)).trans hx344_0
                  replace p344 := eq_true p344
                  replace q344 := eq_true q344
                  refine start_ (n := 16) (S := fun w' => w'.cell? ⟨ad329.block, ad329.off + 10, none⟩ = some (.int .u8 (rd l0 10)) ∧ w'.cell? ⟨ad329.block, ad329.off + 11, none⟩ = some (.int .u8 (rd l0 11))) (ds := []) #[false, false, false, false, false, false, false, false, false, false, false, false, false, false, false, false] (by kernel_rfl) rfl rfl ⟨((HB.out.cell (World.block_lt_of_cell? w _ hw343_0)).trans hw343_0), ((HB.out.cell (World.block_lt_of_cell? w _ hw344_0)).trans hw344_0)⟩ (fun hHeld => ?_); refine with_tabW cutroomref17_Take.tab11 cutroomref17_Take.bits11 (fun HT_ HW_ => ?_)
                  generalize w33.drew = w34 at BK328 BK333 HB hx343_0 hx344_0 hHeld ⊢
                  refine pure_ (i := 0) (N := some 90) (v := ?_) (a' := ?_) #[T', F', F', F', F', F', F', F', F', F', F', F', F', F', F', F'] rfl rfl (any_of HT_.out (by kernel_rfl)) (fun _ _ _ h => h) (Or.inl ⟨by rfl, ?_⟩) ?_ ?_;rotate_left;(intro w';go_simp;with_reducible rfl);rotate_left;(simp only [Act.put, sA, sZ, sS, i64_w, i32_w];rfl)
                  refine pure_ (i := 1) (N := some 91) (v := ?_) (a' := ?_) #[T', T', F', F', F', F', F', F', F', F', F', F', F', F', F', F'] rfl rfl (any_of HT_.out (by kernel_rfl)) (fun _ _ _ h => h) (Or.inl ⟨by rfl, ?_⟩) ?_ ?_;rotate_left;(intro w';go_simp;with_reducible rfl);rotate_left;(simp only [Act.put, sA, sZ, sS, i64_w, i32_w];rfl)
                  refine pure_ (i := 2) (N := some 92) (v := ?_) (a' := ?_) #[T', T', T', F', F', F', F', F', F', F', F', F', F', F', F', F'] rfl rfl (any_of HT_.out (by kernel_rfl)) (fun _ _ _ h => h) (Or.inl ⟨by rfl, ?_⟩) ?_ ?_;rotate_left;(intro w';go_simp;with_reducible rfl);rotate_left;(simp only [Act.put, sA, sZ, sS, i64_w, i32_w];rfl)
                  refine pure_ (i := 3) (N := some 93) (v := ?_) (a' := ?_) #[T', T', T', T', F', F', F', F', F', F', F', F', F', F', F', F'] rfl rfl (any_of HT_.out (by kernel_rfl)) (fun _ _ _ h => h) (Or.inl ⟨by rfl, ?_⟩) ?_ ?_;rotate_left;(intro w';go_simp;with_reducible rfl);rotate_left;(simp only [Act.put, sA, sZ, sS, i64_w, i32_w];rfl)
                  refine pure_ (i := 9) (N := some 99) (v := ?_) (a' := ?_) #[T', T', T', T', F', F', F', F', F', T', F', F', F', F', F', F'] rfl rfl (any_of HT_.out (by kernel_rfl)) (fun _ _ _ h => h) (Or.inl ⟨by rfl, ?_⟩) ?_ ?_;rotate_left;(intro w';go_simp;with_reducible rfl);rotate_left;(simp only [Act.put, sA, sZ, sS, i64_w, i32_w];rfl)
                  refine pure_ (i := 10) (N := some 100) (v := ?_) (a' := ?_) #[T', T', T', T', F', F', F', F', F', T', T', F', F', F', F', F'] rfl rfl (any_of HT_.out (by kernel_rfl)) (fun _ _ _ h => h) (Or.inl ⟨by rfl, ?_⟩) ?_ ?_;rotate_left;(intro w';go_simp;with_reducible rfl);rotate_left;(simp only [Act.put, sA, sZ, sS, i64_w, i32_w];rfl)
                  refine take_ (i := 4) (N := some 94) (v := ?_) (a' := ?_) #[T', T', T', T', T', F', F', F', F', T', T', F', F', F', F', F'] rfl rfl (take_ofW HT_.out HW_.out (by kernel_rfl)) (fun _ _ _ h => h) (Or.inl ⟨by rfl, ?_⟩) hHeld ?_ ?_;rotate_left;(rintro w' ⟨s0, s1⟩;go_simp;with_reducible rfl);rotate_left;(simp only [Act.put, sA, sZ, sS, i64_w, i32_w];rfl)
                  refine pure_ (i := 5) (N := some 95) (v := ?_) (a' := ?_) #[T', T', T', T', T', T', F', F', F', T', T', F', F', F', F', F'] rfl rfl (any_of HT_.out (by kernel_rfl)) (fun _ _ _ h => h) (Or.inl ⟨by rfl, ?_⟩) ?_ ?_;rotate_left;(intro w';go_simp;with_reducible rfl);rotate_left;(simp only [Act.put, sA, sZ, sS, i64_w, i32_w];rfl)
                  refine pure_ (i := 6) (N := some 96) (v := ?_) (a' := ?_) #[T', T', T', T', T', T', T', F', F', T', T', F', F', F', F', F'] rfl rfl (any_of HT_.out (by kernel_rfl)) (fun _ _ _ h => h) (Or.inl ⟨by rfl, ?_⟩) ?_ ?_;rotate_left;(intro w';go_simp;with_reducible rfl);rotate_left;(simp only [Act.put, sA, sZ, sS, i64_w, i32_w];rfl)
                  refine pure_ (i := 7) (N := some 97) (v := ?_) (a' := ?_) #[T', T', T', T', T', T', T', T', F', T', T', F', F', F', F', F'] rfl rfl (any_of HT_.out (by kernel_rfl)) (fun _ _ _ h => h) (Or.inl ⟨by rfl, ?_⟩) ?_ ?_;rotate_left;(intro w';go_simp;with_reducible rfl);rotate_left;(simp only [Act.put, sA, sZ, sS, i64_w, i32_w];rfl)
                  refine pure_ (i := 8) (N := some 98) (v := ?_) (a' := ?_) #[T', T', T', T', T', T', T', T', T', T', T', F', F', F', F', F'] rfl rfl (any_of HT_.out (by kernel_rfl)) (fun _ _ _ h => h) (Or.inl ⟨by rfl, ?_⟩) ?_ ?_;rotate_left;(intro w';go_simp;with_reducible rfl);rotate_left;(simp only [Act.put, sA, sZ, sS, i64_w, i32_w];rfl)
                  refine take_ (i := 11) (N := some 101) (v := ?_) (a' := ?_) #[T', T', T', T', T', T', T', T', T', T', T', T', F', F', F', F'] rfl rfl (take_ofW HT_.out HW_.out (by kernel_rfl)) (fun _ _ _ h => h) (Or.inl ⟨by rfl, ?_⟩) hHeld ?_ ?_;rotate_left;(rintro w' ⟨s0, s1⟩;go_simp;with_reducible rfl);rotate_left;(simp only [Act.put, sA, sZ, sS, i64_w, i32_w];rfl)
                  refine pure_ (i := 12) (N := some 102) (v := ?_) (a' := ?_) #[T', T', T', T', T', T', T', T', T', T', T', T', T', F', F', F'] rfl rfl (any_of HT_.out (by kernel_rfl)) (fun _ _ _ h => h) (Or.inl ⟨by rfl, ?_⟩) ?_ ?_;rotate_left;(intro w';go_simp;with_reducible rfl);rotate_left;(simp only [Act.put, sA, sZ, sS, i64_w, i32_w];rfl)
                  refine pure_ (i := 13) (N := some 103) (v := ?_) (a' := ?_) #[T', T', T', T', T', T', T', T', T', T', T', T', T', T', F', F'] rfl rfl (any_of HT_.out (by kernel_rfl)) (fun _ _ _ h => h) (Or.inl ⟨by rfl, ?_⟩) ?_ ?_;rotate_left;(intro w';go_simp;with_reducible rfl);rotate_left;(simp only [Act.put, sA, sZ, sS, i64_w, i32_w];rfl)
                  refine pure_ (i := 14) (N := some 104) (v := ?_) (a' := ?_) #[T', T', T', T', T', T', T', T', T', T', T', T', T', T', T', F'] rfl rfl (any_of HT_.out (by kernel_rfl)) (fun _ _ _ h => h) (Or.inl ⟨by rfl, ?_⟩) ?_ ?_;rotate_left;(intro w';go_simp;with_reducible rfl);rotate_left;(simp only [Act.put, sA, sZ, sS, i64_w, i32_w];rfl)
                  refine one_ (i := 15) (N := none) #[T', T', T', T', T', T', T', T', T', T', T', T', T', T', T', T'] rfl rfl (one_of HT_.out (by kernel_rfl)) (by decide) (fun K hK => ?_)
                  have hs35 : w34.cell? ⟨gb333, 3, none⟩ = some (.int .i64 (-1)) := (blk_cell BK333.out 3).trans rfl
                  have hfs35 := blk_frozen BK333.out 3
                  have hns35_0 := NB328_333.out
                  have hms35_0 := NB333_328.out
                  refine skip_ (w1 := ?_) (by rfl) rfl ?_ ?_
                  rotate_left
                  ·go_simp
                   rfl
                  refine hK.out _ _ ⟨((xF (p := ⟨gb333, _, none⟩) (by first | exact nE19 hw343_0 GW333.out | exact nF19 hw343_0 GW333.out | (rw [xB]; exact nE19 hw343_0 GW333.out) | (rw [xB]; exact nF19 hw343_0 GW333.out)) _).trans (hHeld.1)), ((xF (p := ⟨gb333, _, none⟩) (by first | exact nE19 hw344_0 GW333.out | exact nF19 hw344_0 GW333.out | (rw [xB]; exact nE19 hw344_0 GW333.out) | (rw [xB]; exact nF19 hw344_0 GW333.out)) _).trans (hHeld.2))⟩ (fun hHeld => ?_)
                  clear hK K
                  refine done_ (done_of HT_.out (by kernel_rfl)) ?_
                  try go_wp2
                  go_meet
                  case rel => exact ⟨_, (ji22), (wrap64 ((wrap64 ((wrap64 ((Go.bits .or .i64 (Go.bits .or .i64 (Go.bits .or .i64 (Go.bits .or .i64 (wrap64 ((wrap64 (rd l0 6)) * 33554432)) (wrap64 ((wrap64 (rd l0 7)) * 131072))) (wrap64 ((wrap64 (rd l0 8)) * 512))) (wrap64 ((wrap64 (rd l0 9)) * 2))) (wrap64 ((rd l0 10) / 128))) * 300)) + (wrap64 ((wrap64 (Go.bits .and .u8 (rd l0 10) 1)) * 256)))) + (wrap64 (rd l0 11)))), (by first | rfl | (simp; done) | (simp only [← hji22] <;> (first | rfl | simp)) | (simp [*]; done)), H', ⟨by first | omega | exact Nat.le_refl _⟩, ⟨by (with_reducible repeat (first | refine yN ?_ _ | refine yD ?_ | refine yA ?_ _)); refine blk_far ?_ NB328_333.out _; (with_reducible repeat (first | refine yN ?_ _ | refine yD ?_ | refine yA ?_ _)); exact BK328.out⟩, ⟨by (with_reducible repeat (first | refine yN ?_ _ | refine yD ?_ | refine yA ?_ _)); refine blk_put (cs := #[.int .i64 (Go.bits .or .i64 (wrap64 ((wrap64 (Go.bits .and .u8 (rd l0 1) 31)) * 256)) (wrap64 (rd l0 2))), .int .i64 (wrap64 (Go.bits .and .u8 (rd l0 3) 15)), .bool ((Go.bits .and .u8 (rd l0 1) 64) != 0), .int .i64 (-1), .slice none 0 0]) ?_ 3 _ rfl; (with_reducible repeat (first | refine yN ?_ _ | refine yD ?_ | refine yA ?_ _)); exact BK333.out⟩, ⟨by repeat (first | (with_reducible first | exact HB.out | apply zA | apply zN | apply zD | refine zP ?_ GE328.out | refine zP ?_ GE333.out) | exact HB.out)⟩⟩
                 ·rw [if_neg c31] at H
                  exact absurd H (by simp)
                ·rw [if_neg c30] at H
                 exact absurd H (by simp)
               ·rw [if_neg c29] at H
                exact absurd H (by simp)
              ·rw [if_neg c28] at H
               exact absurd H (by simp)
             ·rw [if_neg c27] at H
              exact absurd H (by simp)
            ·rw [if_neg c26] at H
             exact absurd H (by simp)
          ·rw [if_neg c24] at H
           exact absurd H (by simp)
         ·rw [if_neg c23] at H
          have c23b0 : decide (6 < (rd l0 4)) = false := decide_eq_false c23
          clear c23
          have H' := Aside0.mk H
          clear H
          have p335 : 0 ≤ (4 : Int) := (by omega)
          have q335 : 4 < (l0.length : Int) := of_decide_eq_true (by first | (with_reducible assumption) | assumption)
          obtain ⟨ad335, e335, hx335_0⟩ := Kd.at_int HR0.out 4 p335 q335
          obtain rfl : ad329 = ad335 := (by injection e335)
          (try simp only [show (4 : Int).toNat = 4 from rfl, Nat.reduceMul, Nat.reduceEqDiff, Go.Addr.add, ↓reduceIte] at hx335_0)
          have qi335 : (4 < l0.length) = True := eq_true (by omega)
          (try rw [show ((4 : Int)).toNat = 4 from rfl] at hx335_0)
          have hn335_0 : ad329.block ≠ gb333 := Nat.ne_of_lt (Nat.lt_of_lt_of_le (by have := World.block_lt_of_cell? _ _ hx335_0; first | rwa [xB] at this | exact this) GW333.out)
          have hn335_1 : ad329.block ≠ gb333 := Nat.ne_of_lt (Nat.lt_of_lt_of_le (by have := World.block_lt_of_cell? _ _ hx335_0; first | rwa [xB] at this | exact this) GW333.out)
          have hn335_2 : ad329.block ≠ gb333 := Nat.ne_of_lt (Nat.lt_of_lt_of_le (by have := World.block_lt_of_cell? _ _ hx335_0; first | rwa [xB] at this | exact this) GW333.out)
          have hn335_3 : ad329.block ≠ gb333 := Nat.ne_of_lt (Nat.lt_of_lt_of_le (by have := World.block_lt_of_cell? _ _ hx335_0; first | rwa [xB] at this | exact this) GW333.out)
          have hn335_4 : ad329.block ≠ gb333 := Nat.ne_of_lt (Nat.lt_of_lt_of_le (by have := World.block_lt_of_cell? _ _ hx335_0; first | rwa [xB] at this | exact this) GW333.out)
          replace hx335_0 := (HB.out.cell (World.block_lt_of_cell? w _ hx335_0)).trans hx335_0
          clear hn335_0
          clear hn335_1
          clear hn335_2
          clear hn335_3
          clear hn335_4
          replace p335 := eq_true p335
          replace q335 := eq_true q335
          have p336 : 0 ≤ (4 : Int) := (by omega)
          have q336 : 4 < (l0.length : Int) := of_decide_eq_true (by first | (with_reducible assumption) | assumption)
          obtain ⟨ad336, e336, hx336_0⟩ := Kd.at_int HR0.out 4 p336 q336
          obtain rfl : ad329 = ad336 := (by injection e336)
          (try simp only [show (4 : Int).toNat = 4 from rfl, Nat.reduceMul, Nat.reduceEqDiff, Go.Addr.add, ↓reduceIte] at hx336_0)
          have qi336 : (4 < l0.length) = True := eq_true (by omega)
          (try rw [show ((4 : Int)).toNat = 4 from rfl] at hx336_0)
          have hn336_0 : ad329.block ≠ gb333 := Nat.ne_of_lt (Nat.lt_of_lt_of_le (by have := World.block_lt_of_cell? _ _ hx336_0; first | rwa [xB] at this | exact this) GW333.out)
          have hn336_1 : ad329.block ≠ gb333 := Nat.ne_of_lt (Nat.lt_of_lt_of_le (by have := World.block_lt_of_cell? _ _ hx336_0; first | rwa [xB] at this | exact this) GW333.out)
          have hn336_2 : ad329.block ≠ gb333 := Nat.ne_of_lt (Nat.lt_of_lt_of_le (by have := World.block_lt_of_cell? _ _ hx336_0; first | rwa [xB] at this | exact this) GW333.out)
          have hn336_3 : ad329.block ≠ gb333 := Nat.ne_of_lt (Nat.lt_of_lt_of_le (by have := World.block_lt_of_cell? _ _ hx336_0; first | rwa [xB] at this | exact this) GW333.out)
          have hn336_4 : ad329.block ≠ gb333 := Nat.ne_of_lt (Nat.lt_of_lt_of_le (by have := World.block_lt_of_cell? _ _ hx336_0; first | rwa [xB] at this | exact this) GW333.out)
          replace hx336_0 := (HB.out.cell (World.block_lt_of_cell? w _ hx336_0)).trans hx336_0
          clear hn336_0
          clear hn336_1
          clear hn336_2
          clear hn336_3
          clear hn336_4
          replace p336 := eq_true p336
          replace q336 := eq_true q336
          go_wp2
          go_meet
          case rel => exact ⟨_, (ji22), ((-1)), (by first | rfl | (simp; done) | (simp only [← hji22] <;> (first | rfl | simp)) | (simp [*]; done)), H', ⟨by first | omega | exact Nat.le_refl _⟩, ⟨by (with_reducible repeat (first | refine yN ?_ _ | refine yD ?_ | refine yA ?_ _)); exact BK328.out⟩, ⟨by (with_reducible repeat (first | refine yN ?_ _ | refine yD ?_ | refine yA ?_ _)); exact BK333.out⟩, ⟨by repeat (first | (with_reducible first | exact HB.out | apply zA | apply zN | apply zD | refine zP ?_ GE328.out | refine zP ?_ GE333.out) | exact HB.out)⟩⟩
        ·rw [if_neg c21] at H
         exact absurd H (by simp)
      case rest =>
       clear HC11
       (try clear c2);(try clear p2);(try clear c3);(try clear p3);(try clear q3);(try clear hx3);(try clear qi3);(try clear p6);(try clear c21);(try clear c23);(try clear c23b0);(try clear c24);(try clear c26);(try clear c27);(try clear c28);(try clear c29);(try clear c30);(try clear c31);(try clear p33);(try clear q33);(try clear hx33);(try clear qi33);(try clear p34);(try clear q34);(try clear hx34);(try clear qi34);(try clear hx335_0);(try clear hx336_0);(try clear hx337_0);(try clear hx338_0);(try clear hx339_0);(try clear hx340_0);(try clear hx341_0);(try clear hx342_0);(try clear hx343_0);(try clear hx344_0);(try clear p335);(try clear p336);(try clear p337);(try clear p338);(try clear p339);(try clear p340);(try clear p341);(try clear p342);(try clear p343);(try clear p344);(try clear q335);(try clear q336);(try clear q337);(try clear q338);(try clear q339);(try clear q340)
       (try clear q341);(try clear q342);(try clear q343);(try clear q344)
       obtain ⟨kq, x5_10, x334003_10, rfl, HA, HJ10, BK328, BK333, HB⟩ := hcut
       cases kq with
       | zero => exact absurd HA.out (by simp [cutroomref17_Take.j0])
       | succ kj10 =>
        have H := HA.out
        clear HA
        simp only [cutroomref17_Take.j0] at H
        obtain ⟨y345, hy345⟩ : ∃ y_ : List Int, y_ = (([] : List Int)) := ⟨_, rfl⟩
        replace H : (if 0 ≤ x5_10 then (if x5_10 ≤ (l0.length : Int) then (if y345.length + (l0.drop (x5_10 : Int).toNat).length < 140737488355328 then ((some (y345 ++ (l0.drop (x5_10 : Int).toNat) : List Int)).bind fun y349 => ((cutroomref17_Put.f kj10 (Go.bits .or .i64 (wrap64 ((wrap64 (Go.bits .and .u8 (rd l0 1) 31)) * 256)) (wrap64 (rd l0 2))) (wrap64 (Go.bits .and .u8 (rd l0 3) 15)) ((Go.bits .and .u8 (rd l0 1) 64) != 0) x334003_10 y349).bind fun bt352 => (if bt352.2 = 0 then ((cutroomref02_SameBytes.f l0 bt352.1).bind fun t356 => (if t356 = true then (some ((Go.bits .or .i64 (wrap64 ((wrap64 (Go.bits .and .u8 (rd l0 1) 31)) * 256)) (wrap64 (rd l0 2))), (wrap64 (Go.bits .and .u8 (rd l0 3) 15)), ((Go.bits .and .u8 (rd l0 1) 64) != 0), x334003_10, y349, 0)) else (some (0, 0, false, 0, ([] : List Int), 3)))) else (some (0, 0, false, 0, ([] : List Int), 3))))) else (none)) else (none)) else (none)) = some (r1, r2, r3, r4, r5, r6) := by first | (rw [hy345]; with_reducible exact H) | (have H2_ := (Option.bind_some _ _).symm.trans H; rw [hy345]; with_reducible exact H2_) | (have H2_ := (Option.bind_some _ _).symm.trans H; with_reducible exact H2_) | with_reducible exact H | (rw [hy345]; exact H) | exact H
        have Ny345 := Aside0.mk hy345
        clear hy345
        by_cases c36 : 0 ≤ x5_10
        ·rw [if_pos c36] at H
         have c36b0 := eq_true c36
         have c36b1 : decide (0 ≤ x5_10) = true := decide_eq_true c36
         clear c36
         by_cases c37 : x5_10 ≤ (l0.length : Int)
         ·rw [if_pos c37] at H
          have c37b0 := eq_true c37
          have c37b1 : decide (x5_10 ≤ (l0.length : Int)) = true := decide_eq_true c37
          clear c37
          by_cases c38 : y345.length + (l0.drop (x5_10 : Int).toNat).length < 140737488355328
          ·rw [if_pos c38] at H
           have LMc38 := Aside0.mk c38
           clear c38
           obtain ⟨y349, hy349⟩ : ∃ y_ : List Int, y_ = (y345 ++ (l0.drop (x5_10 : Int).toNat)) := ⟨_, rfl⟩
           replace H : ((cutroomref17_Put.f kj10 (Go.bits .or .i64 (wrap64 ((wrap64 (Go.bits .and .u8 (rd l0 1) 31)) * 256)) (wrap64 (rd l0 2))) (wrap64 (Go.bits .and .u8 (rd l0 3) 15)) ((Go.bits .and .u8 (rd l0 1) 64) != 0) x334003_10 y349).bind fun bt352 => (if bt352.2 = 0 then ((cutroomref02_SameBytes.f l0 bt352.1).bind fun t356 => (if t356 = true then (some ((Go.bits .or .i64 (wrap64 ((wrap64 (Go.bits .and .u8 (rd l0 1) 31)) * 256)) (wrap64 (rd l0 2))), (wrap64 (Go.bits .and .u8 (rd l0 3) 15)), ((Go.bits .and .u8 (rd l0 1) 64) != 0), x334003_10, y349, 0)) else (some (0, 0, false, 0, ([] : List Int), 3)))) else (some (0, 0, false, 0, ([] : List Int), 3)))) = some (r1, r2, r3, r4, r5, r6) := by first | (rw [hy349]; with_reducible exact H) | (have H2_ := (Option.bind_some _ _).symm.trans H; rw [hy349]; with_reducible exact H2_) | (have H2_ := (Option.bind_some _ _).symm.trans H; with_reducible exact H2_) | with_reducible exact H | (rw [hy349]; exact H) | exact H
           have Ny349 := Aside0.mk hy349
           clear hy349
           replace H := Option.bind_eq_some_iff.mp H
           obtain ⟨⟨t352, t355⟩, A390, H⟩ := H
           replace H : (if t355 = 0 then ((cutroomref02_SameBytes.f l0 t352).bind fun t356 => (if t356 = true then (some ((Go.bits .or .i64 (wrap64 ((wrap64 (Go.bits .and .u8 (rd l0 1) 31)) * 256)) (wrap64 (rd l0 2))), (wrap64 (Go.bits .and .u8 (rd l0 3) 15)), ((Go.bits .and .u8 (rd l0 1) 64) != 0), x334003_10, y349, 0)) else (some (0, 0, false, 0, ([] : List Int), 3)))) else (some (0, 0, false, 0, ([] : List Int), 3))) = some (r1, r2, r3, r4, r5, r6) := H
           have A39 := Aside0.mk A390
           clear A390
           by_cases c40 : t355 = 0
           ·rw [if_pos c40] at H
            have c40b0 : (t355 == 0) = true := beq_iff_eq.mpr c40
            have c40b1 : (t355 != 0) = false := bne_eq_false_iff_eq.mpr c40
            clear c40
            replace H := Option.bind_eq_some_iff.mp H
            obtain ⟨t356, A410, H⟩ := H
            replace H : (if t356 = true then (some ((Go.bits .or .i64 (wrap64 ((wrap64 (Go.bits .and .u8 (rd l0 1) 31)) * 256)) (wrap64 (rd l0 2))), (wrap64 (Go.bits .and .u8 (rd l0 3) 15)), ((Go.bits .and .u8 (rd l0 1) 64) != 0), x334003_10, y349, 0)) else (some (0, 0, false, 0, ([] : List Int), 3))) = some (r1, r2, r3, r4, r5, r6) := H
            have A41 := Aside0.mk A410
            clear A410
            by_cases c42 : t356 = true
            ·subst c42
             have H1 : (some ((Go.bits .or .i64 (wrap64 ((wrap64 (Go.bits .and .u8 (rd l0 1) 31)) * 256)) (wrap64 (rd l0 2))), (wrap64 (Go.bits .and .u8 (rd l0 3) 15)), ((Go.bits .and .u8 (rd l0 1) 64) != 0), x334003_10, y349, 0)) = some (r1, r2, r3, r4, r5, r6) := by rw [if_pos rfl] at H; exact H
             clear H
             have H := H1
             clear H1
             simp only [Option.some.injEq, Prod.mk.injEq] at H
             obtain ⟨rfl, rfl, rfl, rfl, rfl, rfl⟩ := H
             go_wp2_with (first | ((with_reducible refine xD (N := 105) rfl ?_); refine Kd.R_lit (Kd.int .u8) _ 5 ?hg (N := 105) ?hd (xs := ([] : List Int)) (inner := []) (ok := fun _ => True) (okp := fun _ => True) ?hr ?hp (fun _ hk => hk) trivial (Below.refl _ _) (Nat.le_refl _) (by simp) ?_; (case hd => rfl); (case hg => rfl); (case hr => first | (go_simp; done) | (go_simp; rfl)); (case hp => exact (Reps.none _ _)); intro v346 w43 ho44 hb hg_ hnew_; clear hg_ hnew_; (first | rw [← Ny345.out] at ho44 | (simp only [Int.reduceToNat] at ho44; rw [← Ny345.out] at ho44)); have n0_ := Aside0.mk (Kd.R_lower ho44 (zS (by repeat (first | (with_reducible first | exact HB.out | apply zA | apply zN | apply zD | refine zP ?_ GE328.out | refine zP ?_ GE333.out) | exact HB.out)))); have n1_ := Aside0.mk (yB (g := gb328) (o := .cells #[.int .i64 0, .int .i64 0, .bool false, .int .i64 0, .slice none 0 0] 24 (0, 0)) (by (with_reducible repeat (first | refine yN ?_ _ | refine yD ?_ | refine yA ?_ _)); exact BK328.out) hb); have n2_ := Aside0.mk (yB (g := gb333) (o := .cells #[.int .i64 (Go.bits .or .i64 (wrap64 ((wrap64 (Go.bits .and .u8 (rd l0 1) 31)) * 256)) (wrap64 (rd l0 2))), .int .i64 (wrap64 (Go.bits .and .u8 (rd l0 3) 15)), .bool ((Go.bits .and .u8 (rd l0 1) 64) != 0), .int .i64 x334003_10, .slice none 0 0] 24 (0, 0)) (by (with_reducible repeat (first | refine yN ?_ _ | refine yD ?_ | refine yA ?_ _)); exact BK333.out) hb); have n3_ := Aside0.mk (zT (by repeat (first | (with_reducible first | exact HB.out | apply zA | apply zN | apply zD | refine zP ?_ GE328.out | refine zP ?_ GE333.out) | exact HB.out)) hb); clear BK328; clear BK333; clear HB; have HO347 := n0_; have BK328 := n1_; have BK333 := n2_; have HB := n3_; clear n0_ n1_ n2_ n3_; clear hb ho44; obtain ⟨i045, hi045, _, hsz45, _⟩ := info_parts info5; obtain ⟨A45, hcut45, hA45, hC45⟩ := print_drop_of (P := Try.prog) (Value.int .u8) 0 22 5 .i64 Try.underlying22 hi045 hsz45 (some ad329) c0 l0 x5_10 (of_decide_eq_true (by first | (with_reducible assumption) | assumption)) (of_decide_eq_true (by first | (with_reducible assumption) | assumption)) HC0.out; have HR348 := Aside0.mk (Kd.C_of_reads (h1 := fun _ => rfl) (hA45 _ (Kd.reads_of_C HR0.out))); have HC348 := Aside0.mk hC45; clear hA45 hC45 hi045 hsz45) | ((with_reducible refine gate_builtin (b := .append) (xs := #[.tmp 105, .tmp 108]) rfl ?_); at_builtin; refine Kd.R_append_rows (Kd.int .u8) (w0 := w) w.heap.size rfl (.tmp 105) (.tmp 108) 22 5 (.int .u8 0) 1 rfl Try.underlying22 info5 rfl (by decide) (by omega) v346 y345 (l0.drop (x5_10 : Int).toNat) _ _ _ (fun _ => True) (fun _ => False) rfl rfl ?aO ?aR (fun _ _ h => h) (fun _ h => h.elim) ?aF ?aB ?aS ?aL ?_; (case aR => first | (rw [← show (l0.drop (x5_10 : Int).toNat).length = (l0.length - x5_10.toNat) from List.length_drop]; repeat (first | exact (Kd.C_below HR348.out HB.out) | (with_reducible refine Kd.C_alloc ?_ _) | (with_reducible refine Kd.C_drewN ?_ _) | (with_reducible refine Kd.C_drew ?_))) | (repeat (first | exact (Kd.C_below HR348.out HB.out) | (with_reducible refine Kd.C_alloc ?_ _) | (with_reducible refine Kd.C_drewN ?_ _) | (with_reducible refine Kd.C_drew ?_)))); (case aB => exact (by repeat (first | (with_reducible first | exact HB.out | apply zA | apply zN | apply zD | refine zP ?_ GE328.out | refine zP ?_ GE333.out) | exact HB.out))); (case aF => exact (fun _ _ => trivial)); (case aO => exact (by (with_reducible repeat (first | apply Kd.R_alloc | apply Kd.R_drewN | apply Kd.R_drew)); exact HO347.out)); (case aS => exact (zS (by repeat (first | (with_reducible first | exact HB.out | apply zA | apply zN | apply zD | refine zP ?_ GE328.out | refine zP ?_ GE333.out) | exact HB.out)))); (case aL => have := LMc38.out; have hlx_ := (show (l0.drop (x5_10 : Int).toNat).length = (l0.length - x5_10.toNat) from List.length_drop); omega); intro v350 w46 ho hb hg hat; rw [← Ny349.out] at ho; have n0_ := Aside0.mk (blk_grown (g := gb328) (o := .cells #[.int .i64 0, .int .i64 0, .bool false, .int .i64 0, .slice none 0 0] 24 (0, 0)) (by (with_reducible repeat (first | refine yN ?_ _ | refine yD ?_ | refine yA ?_ _)); exact BK328.out) hg (Kd.R_ne HO347.out BK328.out (by decide))); have n1_ := Aside0.mk (blk_grown (g := gb333) (o := .cells #[.int .i64 (Go.bits .or .i64 (wrap64 ((wrap64 (Go.bits .and .u8 (rd l0 1) 31)) * 256)) (wrap64 (rd l0 2))), .int .i64 (wrap64 (Go.bits .and .u8 (rd l0 3) 15)), .bool ((Go.bits .and .u8 (rd l0 1) 64) != 0), .int .i64 x334003_10, .slice none 0 0] 24 (0, 0)) (by (with_reducible repeat (first | refine yN ?_ _ | refine yD ?_ | refine yA ?_ _)); exact BK333.out) hg (Kd.R_ne HO347.out BK333.out (by decide))); have n2_ := Aside0.mk (hb); have n3_ := Aside0.mk (ho); clear BK328; clear BK333; clear HB; clear HO347; have BK328 := n0_; have BK333 := n1_; have HB := n2_; have HO351 := n3_; clear n0_ n1_ n2_ n3_; clear ho hb hg hat; obtain ⟨Ao47, co47, eo47⟩ := Kd.R_slice HO351.out; subst eo47; have hnb48 := NB333_328.out; have hnc48 := NB328_333.out; have hcz49_0 : w46.cell? ⟨gb333, 0, none⟩ = some (.int .i64 (Go.bits .or .i64 (wrap64 ((wrap64 (Go.bits .and .u8 (rd l0 1) 31)) * 256)) (wrap64 (rd l0 2)))) := (blk_cell BK333.out 0).trans rfl; have hcz49_1 : w46.cell? ⟨gb333, 1, none⟩ = some (.int .i64 (wrap64 (Go.bits .and .u8 (rd l0 3) 15))) := (blk_cell BK333.out 1).trans rfl; have hcz49_2 : w46.cell? ⟨gb333, 2, none⟩ = some (.bool ((Go.bits .and .u8 (rd l0 1) 64) != 0)) := (blk_cell BK333.out 2).trans rfl; have hcz49_3 : w46.cell? ⟨gb333, 3, none⟩ = some (.int .i64 x334003_10) := (blk_cell BK333.out 3).trans rfl; have hcz49_4 : w46.cell? ⟨gb333, 4, none⟩ = some (.slice none 0 0) := (blk_cell BK333.out 4).trans rfl; have hfz49_0 := blk_frozen BK333.out 0; have hfz49_1 := blk_frozen BK333.out 1; have hfz49_2 := blk_frozen BK333.out 2; have hfz49_3 := blk_frozen BK333.out 3; have hfz49_4 := blk_frozen BK333.out 4) | ((with_reducible refine xC (f := 13) rfl ?_); refine goesL_ (some 113) rfl rfl Try.func13 (by kernel_rfl) rfl #[.agg #[.int .i64 (Go.bits .or .i64 (wrap64 ((wrap64 (Go.bits .and .u8 (rd l0 1) 31)) * 256)) (wrap64 (rd l0 2))), .int .i64 (wrap64 (Go.bits .and .u8 (rd l0 3) 15)), .bool ((Go.bits .and .u8 (rd l0 1) 64) != 0), .int .i64 x334003_10, .slice Ao47 y349.length co47]] rfl (by (try simp only [List.map_toArray, List.map_cons, List.map_nil]); first | done | rfl | (simp only [List.length_drop, List.length_take]; rfl)) ?_; (with_reducible refine (cutroomref17_Put.calls kj10 (Go.bits .or .i64 (wrap64 ((wrap64 (Go.bits .and .u8 (rd l0 1) 31)) * 256)) (wrap64 (rd l0 2))) (wrap64 (Go.bits .and .u8 (rd l0 3) 15)) ((Go.bits .and .u8 (rd l0 1) 64) != 0) x334003_10 _ _ y349 t352 t355 _ ?side1 ?side2 A39.out).mono ?_); (case side1 => refine (Kd.R_reads' (e := 5) (base := w.heap.size) (ok := fun k_ => True) (n := y349.length) (c := co47) ?_).2.2; exact (by (with_reducible repeat (first | apply Kd.R_alloc | apply Kd.R_drewN | apply Kd.R_drew)); exact (Kd.R_mono (Kd.R_far (p := ⟨gb333, 4, none⟩) (Kd.R_types HO351.out BK333.out (by decide)) (fun _ hk => hk.2) (.slice Ao47 y349.length co47)) (fun _ h_ => h_.1)))); (case side2 => exact (Kd.R_reads' HO351.out).2.1); rintro e w50 ⟨v353, rfl, ho0, hb⟩; refine ⟨_, rfl, ?_⟩; have n0_ := Aside0.mk (Kd.R_elder' (by (with_reducible repeat (first | apply Kd.R_alloc | apply Kd.R_drewN | apply Kd.R_drew)); exact (Kd.R_mono (Kd.R_far (p := ⟨gb333, 4, none⟩) (Kd.R_types HO351.out BK333.out (by decide)) (fun _ hk => hk.2) (.slice Ao47 y349.length co47)) (fun _ h_ => h_.1))) (Kd.R_base ho0) hb); have n1_ := Aside0.mk (Kd.R_lower (Kd.R_new' ho0 (Kd.R_lt (by (with_reducible repeat (first | apply Kd.R_alloc | apply Kd.R_drewN | apply Kd.R_drew)); exact (Kd.R_mono (Kd.R_far (p := ⟨gb333, 4, none⟩) (Kd.R_types HO351.out BK333.out (by decide)) (fun _ hk => hk.2) (.slice Ao47 y349.length co47)) (fun _ h_ => h_.1))))) (zS (by repeat (first | (with_reducible first | exact HB.out | apply zA | apply zN | apply zD | refine zP ?_ GE328.out | refine zP ?_ GE333.out) | exact HB.out)))); have n2_ := Aside0.mk (yB (g := gb328) (o := .cells #[.int .i64 0, .int .i64 0, .bool false, .int .i64 0, .slice none 0 0] 24 (0, 0)) (by (with_reducible repeat (first | refine yN ?_ _ | refine yD ?_ | refine yA ?_ _)); refine blk_far ?_ NB328_333.out _; (with_reducible repeat (first | refine yN ?_ _ | refine yD ?_ | refine yA ?_ _)); exact BK328.out) hb); have n3_ := Aside0.mk (yB (g := gb333) (o := .cells #[.int .i64 (Go.bits .or .i64 (wrap64 ((wrap64 (Go.bits .and .u8 (rd l0 1) 31)) * 256)) (wrap64 (rd l0 2))), .int .i64 (wrap64 (Go.bits .and .u8 (rd l0 3) 15)), .bool ((Go.bits .and .u8 (rd l0 1) 64) != 0), .int .i64 x334003_10, .slice Ao47 y349.length co47] 24 (0, 0)) (by (with_reducible repeat (first | refine yN ?_ _ | refine yD ?_ | refine yA ?_ _)); refine blk_put (cs := #[.int .i64 (Go.bits .or .i64 (wrap64 ((wrap64 (Go.bits .and .u8 (rd l0 1) 31)) * 256)) (wrap64 (rd l0 2))), .int .i64 (wrap64 (Go.bits .and .u8 (rd l0 3) 15)), .bool ((Go.bits .and .u8 (rd l0 1) 64) != 0), .int .i64 x334003_10, .slice none 0 0]) ?_ 4 _ rfl; (with_reducible repeat (first | refine yN ?_ _ | refine yD ?_ | refine yA ?_ _)); exact BK333.out) hb); have n4_ := Aside0.mk (zT (by repeat (first | (with_reducible first | exact HB.out | apply zA | apply zN | apply zD | refine zP ?_ GE328.out | refine zP ?_ GE333.out) | exact HB.out)) hb); clear HO351; clear BK328; clear BK333; clear HB; have HO351 := n0_; have HO354 := n1_; have BK328 := n2_; have BK333 := n3_; have HB := n4_; clear n0_ n1_ n2_ n3_ n4_; (try clear hb); (try clear hb2); (try clear hk); (try clear hi); (try clear ho0); obtain ⟨Ao51, co51, eo51⟩ := Kd.R_slice HO354.out; subst eo51) | (go_at_call 14; (with_reducible refine (cutroomref02_SameBytes.calls _ _ l0 _ _ t352 true _ ?side1 ?side2 ?side3 ?side4 A41.out).mono ?_); (case side1 => repeat (first | exact (Kd.C_below HR0.out HB.out) | (with_reducible refine Kd.C_alloc ?_ _) | (with_reducible refine Kd.C_drewN ?_ _) | (with_reducible refine Kd.C_drew ?_))); (case side2 => exact HC0.out); (case side3 => repeat (first | exact (Kd.R_reads' HO354.out).2.2 | (with_reducible refine Kd.C_alloc ?_ _) | (with_reducible refine Kd.C_drewN ?_ _) | (with_reducible refine Kd.C_drew ?_))); (case side4 => exact (Kd.R_reads' HO354.out).2.1); rintro e w' ⟨rfl, ⟨nd, rfl⟩⟩; (try (rw [drewN_self w50]; generalize hq_ : World.drewN w50 _ = w50; have n0_ : Aside0 (Kd.R (Kd.int .u8) 5 w50 w.heap.size (fun k_ => some k_ ≠ (.slice Ao51 t352.length co51 : Value).ownBlock) (.slice Ao47 y349.length co47) y349) := ⟨by rw [← hq_]; exact (by (with_reducible repeat (first | apply Kd.R_alloc | apply Kd.R_drewN | apply Kd.R_drew)); exact Kd.R_mono HO351.out (fun _ hk => hk.2))⟩; have n1_ : Aside0 (Kd.R (Kd.int .u8) 5 w50 w.heap.size (fun k_ => some k_ ≠ (.slice Ao47 y349.length co47 : Value).ownBlock) (.slice Ao51 t352.length co51) t352) := ⟨by rw [← hq_]; exact (by (with_reducible repeat (first | apply Kd.R_alloc | apply Kd.R_drewN | apply Kd.R_drew)); exact Kd.R_mono HO354.out (fun _ hk => hk.2))⟩; have n2_ : Aside0 (w50.heap[gb328]? = some (.cells #[.int .i64 0, .int .i64 0, .bool false, .int .i64 0, .slice none 0 0] 24 (0, 0))) := ⟨by rw [← hq_]; exact (by (with_reducible repeat (first | refine yN ?_ _ | refine yD ?_ | refine yA ?_ _)); exact BK328.out)⟩; have n3_ : Aside0 (w50.heap[gb333]? = some (.cells #[.int .i64 (Go.bits .or .i64 (wrap64 ((wrap64 (Go.bits .and .u8 (rd l0 1) 31)) * 256)) (wrap64 (rd l0 2))), .int .i64 (wrap64 (Go.bits .and .u8 (rd l0 3) 15)), .bool ((Go.bits .and .u8 (rd l0 1) 64) != 0), .int .i64 x334003_10, .slice Ao47 y349.length co47] 24 (0, 0))) := ⟨by rw [← hq_]; exact (by (with_reducible repeat (first | refine yN ?_ _ | refine yD ?_ | refine yA ?_ _)); exact BK333.out)⟩; have n4_ : Aside0 (Below w.heap.size w w50) := ⟨by rw [← hq_]; exact (by repeat (first | (with_reducible first | exact HB.out | apply zA | apply zN | apply zD | refine zP ?_ GE328.out | refine zP ?_ GE333.out) | exact HB.out))⟩; clear HO351 HO354 BK328 BK333 HB hq_; have HO351 := n0_; have HO354 := n1_; have BK328 := n2_; have BK333 := n3_; have HB := n4_; clear n0_ n1_ n2_ n3_ n4_)); have hcz52_0 : w50.cell? ⟨gb333, 0, none⟩ = some (.int .i64 (Go.bits .or .i64 (wrap64 ((wrap64 (Go.bits .and .u8 (rd l0 1) 31)) * 256)) (wrap64 (rd l0 2)))) := (blk_cell BK333.out 0).trans rfl; have hcz52_1 : w50.cell? ⟨gb333, 1, none⟩ = some (.int .i64 (wrap64 (Go.bits .and .u8 (rd l0 3) 15))) := (blk_cell BK333.out 1).trans rfl; have hcz52_2 : w50.cell? ⟨gb333, 2, none⟩ = some (.bool ((Go.bits .and .u8 (rd l0 1) 64) != 0)) := (blk_cell BK333.out 2).trans rfl; have hcz52_3 : w50.cell? ⟨gb333, 3, none⟩ = some (.int .i64 x334003_10) := (blk_cell BK333.out 3).trans rfl; have hcz52_4 : w50.cell? ⟨gb333, 4, none⟩ = some (.slice Ao47 y349.length co47) := (blk_cell BK333.out 4).trans rfl; have hfz52_0 := blk_frozen BK333.out 0; have hfz52_1 := blk_frozen BK333.out 1; have hfz52_2 := blk_frozen BK333.out 2; have hfz52_3 := blk_frozen BK333.out 3; have hfz52_4 := blk_frozen BK333.out 4; have hcz53_0 : w50.cell? ⟨gb328, 0, none⟩ = some (.int .i64 0) := (blk_cell BK328.out 0).trans rfl; have hcz53_1 : w50.cell? ⟨gb328, 1, none⟩ = some (.int .i64 0) := (blk_cell BK328.out 1).trans rfl; have hcz53_2 : w50.cell? ⟨gb328, 2, none⟩ = some (.bool false) := (blk_cell BK328.out 2).trans rfl; have hcz53_3 : w50.cell? ⟨gb328, 3, none⟩ = some (.int .i64 0) := (blk_cell BK328.out 3).trans rfl; have hcz53_4 : w50.cell? ⟨gb328, 4, none⟩ = some (.slice none 0 0) := (blk_cell BK328.out 4).trans rfl; have hfz53_0 := blk_frozen BK328.out 0; have hfz53_1 := blk_frozen BK328.out 1; have hfz53_2 := blk_frozen BK328.out 2; have hfz53_3 := blk_frozen BK328.out 3; have hfz53_4 := blk_frozen BK328.out 4))
             refine bodyPost_ret (results_ct rfl _ _ gb328 24 #[.int .i64 (Go.bits .or .i64 (wrap64 ((wrap64 (Go.bits .and .u8 (rd l0 1) 31)) * 256)) (wrap64 (rd l0 2))), .int .i64 (wrap64 (Go.bits .and .u8 (rd l0 3) 15)), .bool ((Go.bits .and .u8 (rd l0 1) 64) != 0), .int .i64 x334003_10, .slice Ao47 y349.length co47] (0, 0) _ rfl (by (with_reducible repeat (first | refine yN ?_ _ | refine yD ?_ | refine yA ?_ _)); refine blk_put (cs := #[.int .i64 (Go.bits .or .i64 (wrap64 ((wrap64 (Go.bits .and .u8 (rd l0 1) 31)) * 256)) (wrap64 (rd l0 2))), .int .i64 (wrap64 (Go.bits .and .u8 (rd l0 3) 15)), .bool ((Go.bits .and .u8 (rd l0 1) 64) != 0), .int .i64 x334003_10, .slice none 0 0]) ?_ 4 _ rfl; (with_reducible repeat (first | refine yN ?_ _ | refine yD ?_ | refine yA ?_ _)); refine blk_put (cs := #[.int .i64 (Go.bits .or .i64 (wrap64 ((wrap64 (Go.bits .and .u8 (rd l0 1) 31)) * 256)) (wrap64 (rd l0 2))), .int .i64 (wrap64 (Go.bits .and .u8 (rd l0 3) 15)), .bool ((Go.bits .and .u8 (rd l0 1) 64) != 0), .int .i64 0, .slice none 0 0]) ?_ 3 _ rfl; (with_reducible repeat (first | refine yN ?_ _ | refine yD ?_ | refine yA ?_ _)); refine blk_put (cs := #[.int .i64 (Go.bits .or .i64 (wrap64 ((wrap64 (Go.bits .and .u8 (rd l0 1) 31)) * 256)) (wrap64 (rd l0 2))), .int .i64 (wrap64 (Go.bits .and .u8 (rd l0 3) 15)), .bool false, .int .i64 0, .slice none 0 0]) ?_ 2 _ rfl; (with_reducible repeat (first | refine yN ?_ _ | refine yD ?_ | refine yA ?_ _)); refine blk_put (cs := #[.int .i64 (Go.bits .or .i64 (wrap64 ((wrap64 (Go.bits .and .u8 (rd l0 1) 31)) * 256)) (wrap64 (rd l0 2))), .int .i64 0, .bool false, .int .i64 0, .slice none 0 0]) ?_ 1 _ rfl; (with_reducible repeat (first | refine yN ?_ _ | refine yD ?_ | refine yA ?_ _)); refine blk_put (cs := #[.int .i64 0, .int .i64 0, .bool false, .int .i64 0, .slice none 0 0]) ?_ 0 _ rfl; (with_reducible repeat (first | refine yN ?_ _ | refine yD ?_ | refine yA ?_ _)); exact BK328.out) Try.underlying24 rfl (by kernel_rfl)) rfl ?_
             exact ⟨_, by first | rfl | (simp [errW_none, errW_some] <;> rfl) | (simp [*, errW_none, errW_some] <;> rfl), by (with_reducible repeat (first | apply Kd.R_alloc | apply Kd.R_drewN | apply Kd.R_drew)); exact Kd.R_mono (Kd.R_far (p := ⟨gb328, 4, none⟩) (Kd.R_far (p := ⟨gb328, 3, none⟩) (Kd.R_far (p := ⟨gb328, 2, none⟩) (Kd.R_far (p := ⟨gb328, 1, none⟩) (Kd.R_far (p := ⟨gb328, 0, none⟩) (Kd.R_types HO351.out BK328.out (by decide)) (fun _ hk => hk.2) (.int .i64 (Go.bits .or .i64 (wrap64 ((wrap64 (Go.bits .and .u8 (rd l0 1) 31)) * 256)) (wrap64 (rd l0 2))))) (fun _ hk => hk.2) (.int .i64 (wrap64 (Go.bits .and .u8 (rd l0 3) 15)))) (fun _ hk => hk.2) (.bool ((Go.bits .and .u8 (rd l0 1) 64) != 0))) (fun _ hk => hk.2) (.int .i64 x334003_10)) (fun _ hk => hk.2) (.slice Ao47 y349.length co47)) (fun _ hk => trivial), by repeat (first | (with_reducible first | exact HB.out | apply zA | apply zN | apply zD | refine zP ?_ GE328.out | refine zP ?_ GE333.out) | exact HB.out)⟩
            ·replace c42 := Bool.eq_false_iff.mpr c42
             subst c42
             have H1 : (some (0, 0, false, 0, ([] : List Int), 3)) = some (r1, r2, r3, r4, r5, r6) := by rw [if_neg (show ¬ (false = true) by decide)] at H; exact H
             clear H
             have H := H1
             clear H1
             simp only [Option.some.injEq, Prod.mk.injEq] at H
             obtain ⟨rfl, rfl, rfl, rfl, rfl, rfl⟩ := H
             go_wp2_with (first | ((with_reducible refine xD (N := 105) rfl ?_); refine Kd.R_lit (Kd.int .u8) _ 5 ?hg (N := 105) ?hd (xs := ([] : List Int)) (inner := []) (ok := fun _ => True) (okp := fun _ => True) ?hr ?hp (fun _ hk => hk) trivial (Below.refl _ _) (Nat.le_refl _) (by simp) ?_; (case hd => rfl); (case hg => rfl); (case hr => first | (go_simp; done) | (go_simp; rfl)); (case hp => exact (Reps.none _ _)); intro v346 w54 ho55 hb hg_ hnew_; clear hg_ hnew_; (first | rw [← Ny345.out] at ho55 | (simp only [Int.reduceToNat] at ho55; rw [← Ny345.out] at ho55)); have n0_ := Aside0.mk (Kd.R_lower ho55 (zS (by repeat (first | (with_reducible first | exact HB.out | apply zA | apply zN | apply zD | refine zP ?_ GE328.out | refine zP ?_ GE333.out) | exact HB.out)))); have n1_ := Aside0.mk (yB (g := gb328) (o := .cells #[.int .i64 0, .int .i64 0, .bool false, .int .i64 0, .slice none 0 0] 24 (0, 0)) (by (with_reducible repeat (first | refine yN ?_ _ | refine yD ?_ | refine yA ?_ _)); exact BK328.out) hb); have n2_ := Aside0.mk (yB (g := gb333) (o := .cells #[.int .i64 (Go.bits .or .i64 (wrap64 ((wrap64 (Go.bits .and .u8 (rd l0 1) 31)) * 256)) (wrap64 (rd l0 2))), .int .i64 (wrap64 (Go.bits .and .u8 (rd l0 3) 15)), .bool ((Go.bits .and .u8 (rd l0 1) 64) != 0), .int .i64 x334003_10, .slice none 0 0] 24 (0, 0)) (by (with_reducible repeat (first | refine yN ?_ _ | refine yD ?_ | refine yA ?_ _)); exact BK333.out) hb); have n3_ := Aside0.mk (zT (by repeat (first | (with_reducible first | exact HB.out | apply zA | apply zN | apply zD | refine zP ?_ GE328.out | refine zP ?_ GE333.out) | exact HB.out)) hb); clear BK328; clear BK333; clear HB; have HO347 := n0_; have BK328 := n1_; have BK333 := n2_; have HB := n3_; clear n0_ n1_ n2_ n3_; clear hb ho55; obtain ⟨i056, hi056, _, hsz56, _⟩ := info_parts info5; obtain ⟨A56, hcut56, hA56, hC56⟩ := print_drop_of (P := Try.prog) (Value.int .u8) 0 22 5 .i64 Try.underlying22 hi056 hsz56 (some ad329) c0 l0 x5_10 (of_decide_eq_true (by first | (with_reducible assumption) | assumption)) (of_decide_eq_true (by first | (with_reducible assumption) | assumption)) HC0.out; have HR348 := Aside0.mk (Kd.C_of_reads (h1 := fun _ => rfl) (hA56 _ (Kd.reads_of_C HR0.out))); have HC348 := Aside0.mk hC56; clear hA56 hC56 hi056 hsz56) | ((with_reducible refine gate_builtin (b := .append) (xs := #[.tmp 105, .tmp 108]) rfl ?_); at_builtin; refine Kd.R_append_rows (Kd.int .u8) (w0 := w) w.heap.size rfl (.tmp 105) (.tmp 108) 22 5 (.int .u8 0) 1 rfl Try.underlying22 info5 rfl (by decide) (by omega) v346 y345 (l0.drop (x5_10 : Int).toNat) _ _ _ (fun _ => True) (fun _ => False) rfl rfl ?aO ?aR (fun _ _ h => h) (fun _ h => h.elim) ?aF ?aB ?aS ?aL ?_; (case aR => first | (rw [← show (l0.drop (x5_10 : Int).toNat).length = (l0.length - x5_10.toNat) from List.length_drop]; repeat (first | exact (Kd.C_below HR348.out HB.out) | (with_reducible refine Kd.C_alloc ?_ _) | (with_reducible refine Kd.C_drewN ?_ _) | (with_reducible refine Kd.C_drew ?_))) | (repeat (first | exact (Kd.C_below HR348.out HB.out) | (with_reducible refine Kd.C_alloc ?_ _) | (with_reducible refine Kd.C_drewN ?_ _) | (with_reducible refine Kd.C_drew ?_)))); (case aB => exact (by repeat (first | (with_reducible first | exact HB.out | apply zA | apply zN | apply zD | refine zP ?_ GE328.out | refine zP ?_ GE333.out) | exact HB.out))); (case aF => exact (fun _ _ => trivial)); (case aO => exact (by (with_reducible repeat (first | apply Kd.R_alloc | apply Kd.R_drewN | apply Kd.R_drew)); exact HO347.out)); (case aS => exact (zS (by repeat (first | (with_reducible first | exact HB.out | apply zA | apply zN | apply zD | refine zP ?_ GE328.out | refine zP ?_ GE333.out) | exact HB.out)))); (case aL => have := LMc38.out; have hlx_ := (show (l0.drop (x5_10 : Int).toNat).length = (l0.length - x5_10.toNat) from List.length_drop); omega); intro v350 w57 ho hb hg hat; rw [← Ny349.out] at ho; have n0_ := Aside0.mk (blk_grown (g := gb328) (o := .cells #[.int .i64 0, .int .i64 0, .bool false, .int .i64 0, .slice none 0 0] 24 (0, 0)) (by (with_reducible repeat (first | refine yN ?_ _ | refine yD ?_ | refine yA ?_ _)); exact BK328.out) hg (Kd.R_ne HO347.out BK328.out (by decide))); have n1_ := Aside0.mk (blk_grown (g := gb333) (o := .cells #[.int .i64 (Go.bits .or .i64 (wrap64 ((wrap64 (Go.bits .and .u8 (rd l0 1) 31)) * 256)) (wrap64 (rd l0 2))), .int .i64 (wrap64 (Go.bits .and .u8 (rd l0 3) 15)), .bool ((Go.bits .and .u8 (rd l0 1) 64) != 0), .int .i64 x334003_10, .slice none 0 0] 24 (0, 0)) (by (with_reducible repeat (first | refine yN ?_ _ | refine yD ?_ | refine yA ?_ _)); exact BK333.out) hg (Kd.R_ne HO347.out BK333.out (by decide))); have n2_ := Aside0.mk (hb); have n3_ := Aside0.mk (ho); clear BK328; clear BK333; clear HB; clear HO347; have BK328 := n0_; have BK333 := n1_; have HB := n2_; have HO351 := n3_; clear n0_ n1_ n2_ n3_; clear ho hb hg hat; obtain ⟨Ao58, co58, eo58⟩ := Kd.R_slice HO351.out; subst eo58; have hnb59 := NB333_328.out; have hnc59 := NB328_333.out; have hcz60_0 : w57.cell? ⟨gb333, 0, none⟩ = some (.int .i64 (Go.bits .or .i64 (wrap64 ((wrap64 (Go.bits .and .u8 (rd l0 1) 31)) * 256)) (wrap64 (rd l0 2)))) := (blk_cell BK333.out 0).trans rfl; have hcz60_1 : w57.cell? ⟨gb333, 1, none⟩ = some (.int .i64 (wrap64 (Go.bits .and .u8 (rd l0 3) 15))) := (blk_cell BK333.out 1).trans rfl; have hcz60_2 : w57.cell? ⟨gb333, 2, none⟩ = some (.bool ((Go.bits .and .u8 (rd l0 1) 64) != 0)) := (blk_cell BK333.out 2).trans rfl; have hcz60_3 : w57.cell? ⟨gb333, 3, none⟩ = some (.int .i64 x334003_10) := (blk_cell BK333.out 3).trans rfl; have hcz60_4 : w57.cell? ⟨gb333, 4, none⟩ = some (.slice none 0 0) := (blk_cell BK333.out 4).trans rfl; have hfz60_0 := blk_frozen BK333.out 0; have hfz60_1 := blk_frozen BK333.out 1; have hfz60_2 := blk_frozen BK333.out 2; have hfz60_3 := blk_frozen BK333.out 3; have hfz60_4 := blk_frozen BK333.out 4) | ((with_reducible refine xC (f := 13) rfl ?_); refine goesL_ (some 113) rfl rfl Try.func13 (by kernel_rfl) rfl #[.agg #[.int .i64 (Go.bits .or .i64 (wrap64 ((wrap64 (Go.bits .and .u8 (rd l0 1) 31)) * 256)) (wrap64 (rd l0 2))), .int .i64 (wrap64 (Go.bits .and .u8 (rd l0 3) 15)), .bool ((Go.bits .and .u8 (rd l0 1) 64) != 0), .int .i64 x334003_10, .slice Ao58 y349.length co58]] rfl (by (try simp only [List.map_toArray, List.map_cons, List.map_nil]); first | done | rfl | (simp only [List.length_drop, List.length_take]; rfl)) ?_; (with_reducible refine (cutroomref17_Put.calls kj10 (Go.bits .or .i64 (wrap64 ((wrap64 (Go.bits .and .u8 (rd l0 1) 31)) * 256)) (wrap64 (rd l0 2))) (wrap64 (Go.bits .and .u8 (rd l0 3) 15)) ((Go.bits .and .u8 (rd l0 1) 64) != 0) x334003_10 _ _ y349 t352 t355 _ ?side1 ?side2 A39.out).mono ?_); (case side1 => refine (Kd.R_reads' (e := 5) (base := w.heap.size) (ok := fun k_ => True) (n := y349.length) (c := co58) ?_).2.2; exact (by (with_reducible repeat (first | apply Kd.R_alloc | apply Kd.R_drewN | apply Kd.R_drew)); exact (Kd.R_mono (Kd.R_far (p := ⟨gb333, 4, none⟩) (Kd.R_types HO351.out BK333.out (by decide)) (fun _ hk => hk.2) (.slice Ao58 y349.length co58)) (fun _ h_ => h_.1)))); (case side2 => exact (Kd.R_reads' HO351.out).2.1); rintro e w61 ⟨v353, rfl, ho0, hb⟩; refine ⟨_, rfl, ?_⟩; have n0_ := Aside0.mk (Kd.R_elder' (by (with_reducible repeat (first | apply Kd.R_alloc | apply Kd.R_drewN | apply Kd.R_drew)); exact (Kd.R_mono (Kd.R_far (p := ⟨gb333, 4, none⟩) (Kd.R_types HO351.out BK333.out (by decide)) (fun _ hk => hk.2) (.slice Ao58 y349.length co58)) (fun _ h_ => h_.1))) (Kd.R_base ho0) hb); have n1_ := Aside0.mk (Kd.R_lower (Kd.R_new' ho0 (Kd.R_lt (by (with_reducible repeat (first | apply Kd.R_alloc | apply Kd.R_drewN | apply Kd.R_drew)); exact (Kd.R_mono (Kd.R_far (p := ⟨gb333, 4, none⟩) (Kd.R_types HO351.out BK333.out (by decide)) (fun _ hk => hk.2) (.slice Ao58 y349.length co58)) (fun _ h_ => h_.1))))) (zS (by repeat (first | (with_reducible first | exact HB.out | apply zA | apply zN | apply zD | refine zP ?_ GE328.out | refine zP ?_ GE333.out) | exact HB.out)))); have n2_ := Aside0.mk (yB (g := gb328) (o := .cells #[.int .i64 0, .int .i64 0, .bool false, .int .i64 0, .slice none 0 0] 24 (0, 0)) (by (with_reducible repeat (first | refine yN ?_ _ | refine yD ?_ | refine yA ?_ _)); refine blk_far ?_ NB328_333.out _; (with_reducible repeat (first | refine yN ?_ _ | refine yD ?_ | refine yA ?_ _)); exact BK328.out) hb); have n3_ := Aside0.mk (yB (g := gb333) (o := .cells #[.int .i64 (Go.bits .or .i64 (wrap64 ((wrap64 (Go.bits .and .u8 (rd l0 1) 31)) * 256)) (wrap64 (rd l0 2))), .int .i64 (wrap64 (Go.bits .and .u8 (rd l0 3) 15)), .bool ((Go.bits .and .u8 (rd l0 1) 64) != 0), .int .i64 x334003_10, .slice Ao58 y349.length co58] 24 (0, 0)) (by (with_reducible repeat (first | refine yN ?_ _ | refine yD ?_ | refine yA ?_ _)); refine blk_put (cs := #[.int .i64 (Go.bits .or .i64 (wrap64 ((wrap64 (Go.bits .and .u8 (rd l0 1) 31)) * 256)) (wrap64 (rd l0 2))), .int .i64 (wrap64 (Go.bits .and .u8 (rd l0 3) 15)), .bool ((Go.bits .and .u8 (rd l0 1) 64) != 0), .int .i64 x334003_10, .slice none 0 0]) ?_ 4 _ rfl; (with_reducible repeat (first | refine yN ?_ _ | refine yD ?_ | refine yA ?_ _)); exact BK333.out) hb); have n4_ := Aside0.mk (zT (by repeat (first | (with_reducible first | exact HB.out | apply zA | apply zN | apply zD | refine zP ?_ GE328.out | refine zP ?_ GE333.out) | exact HB.out)) hb); clear HO351; clear BK328; clear BK333; clear HB; have HO351 := n0_; have HO354 := n1_; have BK328 := n2_; have BK333 := n3_; have HB := n4_; clear n0_ n1_ n2_ n3_ n4_; (try clear hb); (try clear hb2); (try clear hk); (try clear hi); (try clear ho0); obtain ⟨Ao62, co62, eo62⟩ := Kd.R_slice HO354.out; subst eo62) | (go_at_call 14; (with_reducible refine (cutroomref02_SameBytes.calls _ _ l0 _ _ t352 false _ ?side1 ?side2 ?side3 ?side4 A41.out).mono ?_); (case side1 => repeat (first | exact (Kd.C_below HR0.out HB.out) | (with_reducible refine Kd.C_alloc ?_ _) | (with_reducible refine Kd.C_drewN ?_ _) | (with_reducible refine Kd.C_drew ?_))); (case side2 => exact HC0.out); (case side3 => repeat (first | exact (Kd.R_reads' HO354.out).2.2 | (with_reducible refine Kd.C_alloc ?_ _) | (with_reducible refine Kd.C_drewN ?_ _) | (with_reducible refine Kd.C_drew ?_))); (case side4 => exact (Kd.R_reads' HO354.out).2.1); rintro e w' ⟨rfl, ⟨nd, rfl⟩⟩; (try (rw [drewN_self w61]; generalize hq_ : World.drewN w61 _ = w61; have n0_ : Aside0 (Kd.R (Kd.int .u8) 5 w61 w.heap.size (fun k_ => some k_ ≠ (.slice Ao62 t352.length co62 : Value).ownBlock) (.slice Ao58 y349.length co58) y349) := ⟨by rw [← hq_]; exact (by (with_reducible repeat (first | apply Kd.R_alloc | apply Kd.R_drewN | apply Kd.R_drew)); exact Kd.R_mono HO351.out (fun _ hk => hk.2))⟩; have n1_ : Aside0 (Kd.R (Kd.int .u8) 5 w61 w.heap.size (fun k_ => some k_ ≠ (.slice Ao58 y349.length co58 : Value).ownBlock) (.slice Ao62 t352.length co62) t352) := ⟨by rw [← hq_]; exact (by (with_reducible repeat (first | apply Kd.R_alloc | apply Kd.R_drewN | apply Kd.R_drew)); exact Kd.R_mono HO354.out (fun _ hk => hk.2))⟩; have n2_ : Aside0 (w61.heap[gb328]? = some (.cells #[.int .i64 0, .int .i64 0, .bool false, .int .i64 0, .slice none 0 0] 24 (0, 0))) := ⟨by rw [← hq_]; exact (by (with_reducible repeat (first | refine yN ?_ _ | refine yD ?_ | refine yA ?_ _)); exact BK328.out)⟩; have n3_ : Aside0 (w61.heap[gb333]? = some (.cells #[.int .i64 (Go.bits .or .i64 (wrap64 ((wrap64 (Go.bits .and .u8 (rd l0 1) 31)) * 256)) (wrap64 (rd l0 2))), .int .i64 (wrap64 (Go.bits .and .u8 (rd l0 3) 15)), .bool ((Go.bits .and .u8 (rd l0 1) 64) != 0), .int .i64 x334003_10, .slice Ao58 y349.length co58] 24 (0, 0))) := ⟨by rw [← hq_]; exact (by (with_reducible repeat (first | refine yN ?_ _ | refine yD ?_ | refine yA ?_ _)); exact BK333.out)⟩; have n4_ : Aside0 (Below w.heap.size w w61) := ⟨by rw [← hq_]; exact (by repeat (first | (with_reducible first | exact HB.out | apply zA | apply zN | apply zD | refine zP ?_ GE328.out | refine zP ?_ GE333.out) | exact HB.out))⟩; clear HO351 HO354 BK328 BK333 HB hq_; have HO351 := n0_; have HO354 := n1_; have BK328 := n2_; have BK333 := n3_; have HB := n4_; clear n0_ n1_ n2_ n3_ n4_)); have hcz63_0 : w61.cell? ⟨gb328, 0, none⟩ = some (.int .i64 0) := (blk_cell BK328.out 0).trans rfl; have hcz63_1 : w61.cell? ⟨gb328, 1, none⟩ = some (.int .i64 0) := (blk_cell BK328.out 1).trans rfl; have hcz63_2 : w61.cell? ⟨gb328, 2, none⟩ = some (.bool false) := (blk_cell BK328.out 2).trans rfl; have hcz63_3 : w61.cell? ⟨gb328, 3, none⟩ = some (.int .i64 0) := (blk_cell BK328.out 3).trans rfl; have hcz63_4 : w61.cell? ⟨gb328, 4, none⟩ = some (.slice none 0 0) := (blk_cell BK328.out 4).trans rfl; have hfz63_0 := blk_frozen BK328.out 0; have hfz63_1 := blk_frozen BK328.out 1; have hfz63_2 := blk_frozen BK328.out 2; have hfz63_3 := blk_frozen BK328.out 3; have hfz63_4 := blk_frozen BK328.out 4))
             refine bodyPost_ret (results_ct rfl _ _ gb328 24 #[.int .i64 0, .int .i64 0, .bool false, .int .i64 0, .slice none 0 0] (0, 0) _ rfl (by (with_reducible repeat (first | refine yN ?_ _ | refine yD ?_ | refine yA ?_ _)); refine blk_put (cs := #[.int .i64 0, .int .i64 0, .bool false, .int .i64 0, .slice none 0 0]) ?_ 4 _ rfl; (with_reducible repeat (first | refine yN ?_ _ | refine yD ?_ | refine yA ?_ _)); refine blk_put (cs := #[.int .i64 0, .int .i64 0, .bool false, .int .i64 0, .slice none 0 0]) ?_ 3 _ rfl; (with_reducible repeat (first | refine yN ?_ _ | refine yD ?_ | refine yA ?_ _)); refine blk_put (cs := #[.int .i64 0, .int .i64 0, .bool false, .int .i64 0, .slice none 0 0]) ?_ 2 _ rfl; (with_reducible repeat (first | refine yN ?_ _ | refine yD ?_ | refine yA ?_ _)); refine blk_put (cs := #[.int .i64 0, .int .i64 0, .bool false, .int .i64 0, .slice none 0 0]) ?_ 1 _ rfl; (with_reducible repeat (first | refine yN ?_ _ | refine yD ?_ | refine yA ?_ _)); refine blk_put (cs := #[.int .i64 0, .int .i64 0, .bool false, .int .i64 0, .slice none 0 0]) ?_ 0 _ rfl; (with_reducible repeat (first | refine yN ?_ _ | refine yD ?_ | refine yA ?_ _)); exact BK328.out) Try.underlying24 rfl (by kernel_rfl)) rfl ?_
             exact ⟨_, by first | rfl | (simp [errW_none, errW_some] <;> rfl) | (simp [*, errW_none, errW_some] <;> rfl), by first | exact Kd.R_nil _ _ _ _ _ | exact Kd.N_nil _ _ _ _ _ | exact Kd.V_nil _ _ _ _ _ | exact Kd.Q_nil _ _ _ _ _ | exact Kd.S_nil _ _ _ _ _, by repeat (first | (with_reducible first | exact HB.out | apply zA | apply zN | apply zD | refine zP ?_ GE328.out | refine zP ?_ GE333.out) | exact HB.out)⟩
           ·rw [if_neg c40] at H
            have c40b0 : (t355 == 0) = false := beq_eq_false_iff_ne.mpr c40
            have c40b1 : (t355 != 0) = true := bne_iff_ne.mpr c40
            simp only [Option.some.injEq, Prod.mk.injEq] at H
            obtain ⟨rfl, rfl, rfl, rfl, rfl, rfl⟩ := H
            go_wp2_with (first | ((with_reducible refine xD (N := 105) rfl ?_); refine Kd.R_lit (Kd.int .u8) _ 5 ?hg (N := 105) ?hd (xs := ([] : List Int)) (inner := []) (ok := fun _ => True) (okp := fun _ => True) ?hr ?hp (fun _ hk => hk) trivial (Below.refl _ _) (Nat.le_refl _) (by simp) ?_; (case hd => rfl); (case hg => rfl); (case hr => first | (go_simp; done) | (go_simp; rfl)); (case hp => exact (Reps.none _ _)); intro v346 w64 ho65 hb hg_ hnew_; clear hg_ hnew_; (first | rw [← Ny345.out] at ho65 | (simp only [Int.reduceToNat] at ho65; rw [← Ny345.out] at ho65)); have n0_ := Aside0.mk (Kd.R_lower ho65 (zS (by repeat (first | (with_reducible first | exact HB.out | apply zA | apply zN | apply zD | refine zP ?_ GE328.out | refine zP ?_ GE333.out) | exact HB.out)))); have n1_ := Aside0.mk (yB (g := gb328) (o := .cells #[.int .i64 0, .int .i64 0, .bool false, .int .i64 0, .slice none 0 0] 24 (0, 0)) (by (with_reducible repeat (first | refine yN ?_ _ | refine yD ?_ | refine yA ?_ _)); exact BK328.out) hb); have n2_ := Aside0.mk (yB (g := gb333) (o := .cells #[.int .i64 (Go.bits .or .i64 (wrap64 ((wrap64 (Go.bits .and .u8 (rd l0 1) 31)) * 256)) (wrap64 (rd l0 2))), .int .i64 (wrap64 (Go.bits .and .u8 (rd l0 3) 15)), .bool ((Go.bits .and .u8 (rd l0 1) 64) != 0), .int .i64 x334003_10, .slice none 0 0] 24 (0, 0)) (by (with_reducible repeat (first | refine yN ?_ _ | refine yD ?_ | refine yA ?_ _)); exact BK333.out) hb); have n3_ := Aside0.mk (zT (by repeat (first | (with_reducible first | exact HB.out | apply zA | apply zN | apply zD | refine zP ?_ GE328.out | refine zP ?_ GE333.out) | exact HB.out)) hb); clear BK328; clear BK333; clear HB; have HO347 := n0_; have BK328 := n1_; have BK333 := n2_; have HB := n3_; clear n0_ n1_ n2_ n3_; clear hb ho65; obtain ⟨i066, hi066, _, hsz66, _⟩ := info_parts info5; obtain ⟨A66, hcut66, hA66, hC66⟩ := print_drop_of (P := Try.prog) (Value.int .u8) 0 22 5 .i64 Try.underlying22 hi066 hsz66 (some ad329) c0 l0 x5_10 (of_decide_eq_true (by first | (with_reducible assumption) | assumption)) (of_decide_eq_true (by first | (with_reducible assumption) | assumption)) HC0.out; have HR348 := Aside0.mk (Kd.C_of_reads (h1 := fun _ => rfl) (hA66 _ (Kd.reads_of_C HR0.out))); have HC348 := Aside0.mk hC66; clear hA66 hC66 hi066 hsz66) | ((with_reducible refine gate_builtin (b := .append) (xs := #[.tmp 105, .tmp 108]) rfl ?_); at_builtin; refine Kd.R_append_rows (Kd.int .u8) (w0 := w) w.heap.size rfl (.tmp 105) (.tmp 108) 22 5 (.int .u8 0) 1 rfl Try.underlying22 info5 rfl (by decide) (by omega) v346 y345 (l0.drop (x5_10 : Int).toNat) _ _ _ (fun _ => True) (fun _ => False) rfl rfl ?aO ?aR (fun _ _ h => h) (fun _ h => h.elim) ?aF ?aB ?aS ?aL ?_; (case aR => first | (rw [← show (l0.drop (x5_10 : Int).toNat).length = (l0.length - x5_10.toNat) from List.length_drop]; repeat (first | exact (Kd.C_below HR348.out HB.out) | (with_reducible refine Kd.C_alloc ?_ _) | (with_reducible refine Kd.C_drewN ?_ _) | (with_reducible refine Kd.C_drew ?_))) | (repeat (first | exact (Kd.C_below HR348.out HB.out) | (with_reducible refine Kd.C_alloc ?_ _) | (with_reducible refine Kd.C_drewN ?_ _) | (with_reducible refine Kd.C_drew ?_)))); (case aB => exact (by repeat (first | (with_reducible first | exact HB.out | apply zA | apply zN | apply zD | refine zP ?_ GE328.out | refine zP ?_ GE333.out) | exact HB.out))); (case aF => exact (fun _ _ => trivial)); (case aO => exact (by (with_reducible repeat (first | apply Kd.R_alloc | apply Kd.R_drewN | apply Kd.R_drew)); exact HO347.out)); (case aS => exact (zS (by repeat (first | (with_reducible first | exact HB.out | apply zA | apply zN | apply zD | refine zP ?_ GE328.out | refine zP ?_ GE333.out) | exact HB.out)))); (case aL => have := LMc38.out; have hlx_ := (show (l0.drop (x5_10 : Int).toNat).length = (l0.length - x5_10.toNat) from List.length_drop); omega); intro v350 w67 ho hb hg hat; rw [← Ny349.out] at ho; have n0_ := Aside0.mk (blk_grown (g := gb328) (o := .cells #[.int .i64 0, .int .i64 0, .bool false, .int .i64 0, .slice none 0 0] 24 (0, 0)) (by (with_reducible repeat (first | refine yN ?_ _ | refine yD ?_ | refine yA ?_ _)); exact BK328.out) hg (Kd.R_ne HO347.out BK328.out (by decide))); have n1_ := Aside0.mk (blk_grown (g := gb333) (o := .cells #[.int .i64 (Go.bits .or .i64 (wrap64 ((wrap64 (Go.bits .and .u8 (rd l0 1) 31)) * 256)) (wrap64 (rd l0 2))), .int .i64 (wrap64 (Go.bits .and .u8 (rd l0 3) 15)), .bool ((Go.bits .and .u8 (rd l0 1) 64) != 0), .int .i64 x334003_10, .slice none 0 0] 24 (0, 0)) (by (with_reducible repeat (first | refine yN ?_ _ | refine yD ?_ | refine yA ?_ _)); exact BK333.out) hg (Kd.R_ne HO347.out BK333.out (by decide))); have n2_ := Aside0.mk (hb); have n3_ := Aside0.mk (ho); clear BK328; clear BK333; clear HB; clear HO347; have BK328 := n0_; have BK333 := n1_; have HB := n2_; have HO351 := n3_; clear n0_ n1_ n2_ n3_; clear ho hb hg hat; obtain ⟨Ao68, co68, eo68⟩ := Kd.R_slice HO351.out; subst eo68; have hnb69 := NB333_328.out; have hnc69 := NB328_333.out; have hcz70_0 : w67.cell? ⟨gb333, 0, none⟩ = some (.int .i64 (Go.bits .or .i64 (wrap64 ((wrap64 (Go.bits .and .u8 (rd l0 1) 31)) * 256)) (wrap64 (rd l0 2)))) := (blk_cell BK333.out 0).trans rfl; have hcz70_1 : w67.cell? ⟨gb333, 1, none⟩ = some (.int .i64 (wrap64 (Go.bits .and .u8 (rd l0 3) 15))) := (blk_cell BK333.out 1).trans rfl; have hcz70_2 : w67.cell? ⟨gb333, 2, none⟩ = some (.bool ((Go.bits .and .u8 (rd l0 1) 64) != 0)) := (blk_cell BK333.out 2).trans rfl; have hcz70_3 : w67.cell? ⟨gb333, 3, none⟩ = some (.int .i64 x334003_10) := (blk_cell BK333.out 3).trans rfl; have hcz70_4 : w67.cell? ⟨gb333, 4, none⟩ = some (.slice none 0 0) := (blk_cell BK333.out 4).trans rfl; have hfz70_0 := blk_frozen BK333.out 0; have hfz70_1 := blk_frozen BK333.out 1; have hfz70_2 := blk_frozen BK333.out 2; have hfz70_3 := blk_frozen BK333.out 3; have hfz70_4 := blk_frozen BK333.out 4) | ((with_reducible refine xC (f := 13) rfl ?_); refine goesL_ (some 113) rfl rfl Try.func13 (by kernel_rfl) rfl #[.agg #[.int .i64 (Go.bits .or .i64 (wrap64 ((wrap64 (Go.bits .and .u8 (rd l0 1) 31)) * 256)) (wrap64 (rd l0 2))), .int .i64 (wrap64 (Go.bits .and .u8 (rd l0 3) 15)), .bool ((Go.bits .and .u8 (rd l0 1) 64) != 0), .int .i64 x334003_10, .slice Ao68 y349.length co68]] rfl (by (try simp only [List.map_toArray, List.map_cons, List.map_nil]); first | done | rfl | (simp only [List.length_drop, List.length_take]; rfl)) ?_; (with_reducible refine (cutroomref17_Put.calls kj10 (Go.bits .or .i64 (wrap64 ((wrap64 (Go.bits .and .u8 (rd l0 1) 31)) * 256)) (wrap64 (rd l0 2))) (wrap64 (Go.bits .and .u8 (rd l0 3) 15)) ((Go.bits .and .u8 (rd l0 1) 64) != 0) x334003_10 _ _ y349 t352 t355 _ ?side1 ?side2 A39.out).mono ?_); (case side1 => refine (Kd.R_reads' (e := 5) (base := w.heap.size) (ok := fun k_ => True) (n := y349.length) (c := co68) ?_).2.2; exact (by (with_reducible repeat (first | apply Kd.R_alloc | apply Kd.R_drewN | apply Kd.R_drew)); exact (Kd.R_mono (Kd.R_far (p := ⟨gb333, 4, none⟩) (Kd.R_types HO351.out BK333.out (by decide)) (fun _ hk => hk.2) (.slice Ao68 y349.length co68)) (fun _ h_ => h_.1)))); (case side2 => exact (Kd.R_reads' HO351.out).2.1); rintro e w71 ⟨v353, rfl, ho0, hb⟩; refine ⟨_, rfl, ?_⟩; have n0_ := Aside0.mk (Kd.R_elder' (by (with_reducible repeat (first | apply Kd.R_alloc | apply Kd.R_drewN | apply Kd.R_drew)); exact (Kd.R_mono (Kd.R_far (p := ⟨gb333, 4, none⟩) (Kd.R_types HO351.out BK333.out (by decide)) (fun _ hk => hk.2) (.slice Ao68 y349.length co68)) (fun _ h_ => h_.1))) (Kd.R_base ho0) hb); have n1_ := Aside0.mk (Kd.R_lower (Kd.R_new' ho0 (Kd.R_lt (by (with_reducible repeat (first | apply Kd.R_alloc | apply Kd.R_drewN | apply Kd.R_drew)); exact (Kd.R_mono (Kd.R_far (p := ⟨gb333, 4, none⟩) (Kd.R_types HO351.out BK333.out (by decide)) (fun _ hk => hk.2) (.slice Ao68 y349.length co68)) (fun _ h_ => h_.1))))) (zS (by repeat (first | (with_reducible first | exact HB.out | apply zA | apply zN | apply zD | refine zP ?_ GE328.out | refine zP ?_ GE333.out) | exact HB.out)))); have n2_ := Aside0.mk (yB (g := gb328) (o := .cells #[.int .i64 0, .int .i64 0, .bool false, .int .i64 0, .slice none 0 0] 24 (0, 0)) (by (with_reducible repeat (first | refine yN ?_ _ | refine yD ?_ | refine yA ?_ _)); refine blk_far ?_ NB328_333.out _; (with_reducible repeat (first | refine yN ?_ _ | refine yD ?_ | refine yA ?_ _)); exact BK328.out) hb); have n3_ := Aside0.mk (yB (g := gb333) (o := .cells #[.int .i64 (Go.bits .or .i64 (wrap64 ((wrap64 (Go.bits .and .u8 (rd l0 1) 31)) * 256)) (wrap64 (rd l0 2))), .int .i64 (wrap64 (Go.bits .and .u8 (rd l0 3) 15)), .bool ((Go.bits .and .u8 (rd l0 1) 64) != 0), .int .i64 x334003_10, .slice Ao68 y349.length co68] 24 (0, 0)) (by (with_reducible repeat (first | refine yN ?_ _ | refine yD ?_ | refine yA ?_ _)); refine blk_put (cs := #[.int .i64 (Go.bits .or .i64 (wrap64 ((wrap64 (Go.bits .and .u8 (rd l0 1) 31)) * 256)) (wrap64 (rd l0 2))), .int .i64 (wrap64 (Go.bits .and .u8 (rd l0 3) 15)), .bool ((Go.bits .and .u8 (rd l0 1) 64) != 0), .int .i64 x334003_10, .slice none 0 0]) ?_ 4 _ rfl; (with_reducible repeat (first | refine yN ?_ _ | refine yD ?_ | refine yA ?_ _)); exact BK333.out) hb); have n4_ := Aside0.mk (zT (by repeat (first | (with_reducible first | exact HB.out | apply zA | apply zN | apply zD | refine zP ?_ GE328.out | refine zP ?_ GE333.out) | exact HB.out)) hb); clear HO351; clear BK328; clear BK333; clear HB; have HO351 := n0_; have HO354 := n1_; have BK328 := n2_; have BK333 := n3_; have HB := n4_; clear n0_ n1_ n2_ n3_ n4_; (try clear hb); (try clear hb2); (try clear hk); (try clear hi); (try clear ho0); have hcz72_0 : w71.cell? ⟨gb328, 0, none⟩ = some (.int .i64 0) := (blk_cell BK328.out 0).trans rfl; have hcz72_1 : w71.cell? ⟨gb328, 1, none⟩ = some (.int .i64 0) := (blk_cell BK328.out 1).trans rfl; have hcz72_2 : w71.cell? ⟨gb328, 2, none⟩ = some (.bool false) := (blk_cell BK328.out 2).trans rfl; have hcz72_3 : w71.cell? ⟨gb328, 3, none⟩ = some (.int .i64 0) := (blk_cell BK328.out 3).trans rfl; have hcz72_4 : w71.cell? ⟨gb328, 4, none⟩ = some (.slice none 0 0) := (blk_cell BK328.out 4).trans rfl; have hfz72_0 := blk_frozen BK328.out 0; have hfz72_1 := blk_frozen BK328.out 1; have hfz72_2 := blk_frozen BK328.out 2; have hfz72_3 := blk_frozen BK328.out 3; have hfz72_4 := blk_frozen BK328.out 4))
            refine bodyPost_ret (results_ct rfl _ _ gb328 24 #[.int .i64 0, .int .i64 0, .bool false, .int .i64 0, .slice none 0 0] (0, 0) _ rfl (by (with_reducible repeat (first | refine yN ?_ _ | refine yD ?_ | refine yA ?_ _)); refine blk_put (cs := #[.int .i64 0, .int .i64 0, .bool false, .int .i64 0, .slice none 0 0]) ?_ 4 _ rfl; (with_reducible repeat (first | refine yN ?_ _ | refine yD ?_ | refine yA ?_ _)); refine blk_put (cs := #[.int .i64 0, .int .i64 0, .bool false, .int .i64 0, .slice none 0 0]) ?_ 3 _ rfl; (with_reducible repeat (first | refine yN ?_ _ | refine yD ?_ | refine yA ?_ _)); refine blk_put (cs := #[.int .i64 0, .int .i64 0, .bool false, .int .i64 0, .slice none 0 0]) ?_ 2 _ rfl; (with_reducible repeat (first | refine yN ?_ _ | refine yD ?_ | refine yA ?_ _)); refine blk_put (cs := #[.int .i64 0, .int .i64 0, .bool false, .int .i64 0, .slice none 0 0]) ?_ 1 _ rfl; (with_reducible repeat (first | refine yN ?_ _ | refine yD ?_ | refine yA ?_ _)); refine blk_put (cs := #[.int .i64 0, .int .i64 0, .bool false, .int .i64 0, .slice none 0 0]) ?_ 0 _ rfl; (with_reducible repeat (first | refine yN ?_ _ | refine yD ?_ | refine yA ?_ _)); exact BK328.out) Try.underlying24 rfl (by kernel_rfl)) rfl ?_
            exact ⟨_, by first | rfl | (simp [errW_none, errW_some] <;> rfl) | (simp [*, errW_none, errW_some] <;> rfl), by first | exact Kd.R_nil _ _ _ _ _ | exact Kd.N_nil _ _ _ _ _ | exact Kd.V_nil _ _ _ _ _ | exact Kd.Q_nil _ _ _ _ _ | exact Kd.S_nil _ _ _ _ _, by repeat (first | (with_reducible first | exact HB.out | apply zA | apply zN | apply zD | refine zP ?_ GE328.out | refine zP ?_ GE333.out) | exact HB.out)⟩
          ·rw [if_neg c38] at H
           exact absurd H (by simp)
         ·rw [if_neg c37] at H
          exact absurd H (by simp)
        ·rw [if_neg c36] at H
         exact absurd H (by simp)
     ·rw [if_neg c10] at H
      exact absurd H (by simp)
    ·rw [if_neg c9] at H
     exact absurd H (by simp)
   ·rw [if_neg c8] at H
    exact absurd H (by simp)

end Go.Proofs.Ytdndhbfagoghfaa.P
