-- Written by this session's own program (wip/tools/myprint.py), which runs the kit's print with turns of its own: not a text of the kit's print.sh.
import Derived.Test.YtdndhbfagoghfaaPx0
import Derived.Test.YtdndhbfagoghfaaPx36
import Derived.Test.YtdndhbfagoghfaaPx37
namespace Go.Proofs.Ytdndhbfagoghfaa.P
open Go.RowKit Go.Proofs.YtdndhbfagoghfaaW.PrintWords Go.Proofs.YtdndhbfagoghfaaW.PrintLast Go.Proofs.YtdndhbfagoghfaaW.PrintMore
open List renaming setIfInBounds_toArray → sA, set_cons_zero → sZ, set_cons_succ → sS
open Bool renaming true → T', false → F'
open Go.Proofs.YtdndhbfagoghfaaW.PrintWords renaming below_alloc → zA, pw_below_drewN → zN, below_drew1 → zD, blk_drewN → yN, blk_drew → yD, blk_alloc → yA, below_size → zS, below_step → zT, blk_below → yB, below_set → zP, cell_far → xF, add_block → xB, gate_callee → xC, gate_dst → xD
attribute [local go_sem] max2_int min2_int max_two min_two max_three min_three max_four min_four   -- for this text's walks alone
set_option linter.unusedVariables false
set_option linter.unusedSimpArgs false

/-! ### cutroomref17_Put: function 13 -/
mutual
def cutroomref17_Put.j0 : Nat → List Int → Int → Int → Bool → Int → List Int → Option (List Int × Int)
 | 0, _, _, _, _, _, _ => none
 | k + 1, x4, x208000, x208001, x208002, x208003, x208004 => if (x208004.length : Int) = 184 then (if 3 < (x4.length : Int) then (cutroomref17_Put.j1 k (x4.set (3 : Int).toNat (((rd x4 3) + 16) % 256)) (x208004.length : Int) x208000 x208001 x208002 x208003 x208004) else (none)) else (if (x208004.length : Int) = 0 then (if 3 < (x4.length : Int) then (cutroomref17_Put.j1 k (x4.set (3 : Int).toNat (((rd x4 3) + 32) % 256)) (x208004.length : Int) x208000 x208001 x208002 x208003 x208004) else (none)) else (if 3 < (x4.length : Int) then (cutroomref17_Put.j1 k (x4.set (3 : Int).toNat (((rd x4 3) + 48) % 256)) (x208004.length : Int) x208000 x208001 x208002 x208003 x208004) else (none)))
def cutroomref17_Put.j1 : Nat → List Int → Int → Int → Int → Bool → Int → List Int → Option (List Int × Int)
 | 0, _, _, _, _, _, _, _ => none
 | k + 1, x4, x5, x208000, x208001, x208002, x208003, x208004 => if x5 < 184 then (if x4.length < 140737488355328 then (cutroomref17_Put.j2 k (x4 ++ [(wrap64 (183 - x5)) % 256]) x5 x208000 x208001 x208002 x208003 x208004) else (none)) else (cutroomref17_Put.j2 k x4 x5 x208000 x208001 x208002 x208003 x208004)
def cutroomref17_Put.j2 : Nat → List Int → Int → Int → Int → Bool → Int → List Int → Option (List Int × Int)
 | 0, _, _, _, _, _, _, _ => none
 | k + 1, x4, x5, x208000, x208001, x208002, x208003, x208004 => if x5 < 183 then ((cutroomref17_adaptation.f k x208003).bind fun t223 => (if x4.length + t223.length < 140737488355328 then (cutroomref17_Put.l0 k (x4 ++ t223) x5 x208000 x208001 x208002 x208003 x208004) else (none))) else (if x4.length + x208004.length < 140737488355328 then (some ((x4 ++ x208004), 0)) else (none))
def cutroomref17_Put.l0 : Nat → List Int → Int → Int → Int → Bool → Int → List Int → Option (List Int × Int)
 | 0, _, _, _, _, _, _, _ => none
 | k + 1, x4, x5, x208000, x208001, x208002, x208003, x208004 => if (x4.length : Int) < (wrap64 (188 - x5)) then (if x4.length < 140737488355328 then (cutroomref17_Put.l0 k (x4 ++ [255]) x5 x208000 x208001 x208002 x208003 x208004) else (none)) else (if x4.length + x208004.length < 140737488355328 then (some ((x4 ++ x208004), 0)) else (none))
end
def cutroomref17_Put.f (k : Nat) (a0_0 : Int) (a0_1 : Int) (a0_2 : Bool) (a0_3 : Int) (l0_4 : List Int) : Option (List Int × Int) := (cutroomref17_Valid.f a0_0 a0_1 a0_2 a0_3 l0_4).bind fun t208 => (if t208 = true then ((some (([71, (a0_0 / 256) % 256, (a0_0) % 256, (a0_1) % 256] : List Int) : List Int)).bind fun y209 => (if a0_2 = true then (if 1 < (y209.length : Int) then (cutroomref17_Put.j0 k (y209.set (1 : Int).toNat (((rd y209 1) + 64) % 256)) a0_0 a0_1 a0_2 a0_3 l0_4) else (none)) else (cutroomref17_Put.j0 k y209 a0_0 a0_1 a0_2 a0_3 l0_4))) else (some (([] : List Int), 1)))
theorem cutroomref17_Put.mono_l : ∀ k, (∀ y0 y1 y2 y3 y4 y5, LeO (cutroomref17_Put.j0 k y0 y1 y2 y3 y4 y5) (cutroomref17_Put.j0 (k + 1) y0 y1 y2 y3 y4 y5)) ∧ (∀ y0 y1 y2 y3 y4 y5 y6, LeO (cutroomref17_Put.j1 k y0 y1 y2 y3 y4 y5 y6) (cutroomref17_Put.j1 (k + 1) y0 y1 y2 y3 y4 y5 y6)) ∧ (∀ y0 y1 y2 y3 y4 y5 y6, LeO (cutroomref17_Put.j2 k y0 y1 y2 y3 y4 y5 y6) (cutroomref17_Put.j2 (k + 1) y0 y1 y2 y3 y4 y5 y6)) ∧ (∀ y0 y1 y2 y3 y4 y5 y6, LeO (cutroomref17_Put.l0 k y0 y1 y2 y3 y4 y5 y6) (cutroomref17_Put.l0 (k + 1) y0 y1 y2 y3 y4 y5 y6))
 | 0 => ⟨fun _ _ _ _ _ _ r h => by simp [cutroomref17_Put.j0] at h, fun _ _ _ _ _ _ _ r h => by simp [cutroomref17_Put.j1] at h, fun _ _ _ _ _ _ _ r h => by simp [cutroomref17_Put.j2] at h, fun _ _ _ _ _ _ _ r h => by simp [cutroomref17_Put.l0] at h⟩
 | k + 1 => by
  obtain ⟨ih0, ih1, ih2, ih3⟩ := cutroomref17_Put.mono_l k
  refine ⟨?_, ?_, ?_, ?_⟩
  ·intro y0 y1 y2 y3 y4 y5
   unfold cutroomref17_Put.j0
   repeat' first
   | (with_reducible exact ih0 _ _ _ _ _ _)
   | (with_reducible exact ih1 _ _ _ _ _ _ _)
   | (with_reducible exact ih2 _ _ _ _ _ _ _)
   | (with_reducible exact ih3 _ _ _ _ _ _ _)
   | (with_reducible exact cutroomref17_adaptation.mono _ _)
   | (with_reducible exact LeO.refl _)
   | (with_reducible exact LeO.none _)
   | (with_reducible refine LeO.ite ?_ ?_)
   | (with_reducible refine LeO.bind ?_ (fun _ => ?_))
   | exact ih0 _ _ _ _ _ _
   | exact ih1 _ _ _ _ _ _ _
   | exact ih2 _ _ _ _ _ _ _
   | exact ih3 _ _ _ _ _ _ _
   | exact cutroomref17_adaptation.mono _ _
   | exact LeO.none _
   | refine LeO.ite ?_ ?_
   | refine LeO.bind ?_ (fun _ => ?_)
  ·intro y0 y1 y2 y3 y4 y5 y6
   unfold cutroomref17_Put.j1
   repeat' first
   | (with_reducible exact ih0 _ _ _ _ _ _)
   | (with_reducible exact ih1 _ _ _ _ _ _ _)
   | (with_reducible exact ih2 _ _ _ _ _ _ _)
   | (with_reducible exact ih3 _ _ _ _ _ _ _)
   | (with_reducible exact cutroomref17_adaptation.mono _ _)
   | (with_reducible exact LeO.refl _)
   | (with_reducible exact LeO.none _)
   | (with_reducible refine LeO.ite ?_ ?_)
   | (with_reducible refine LeO.bind ?_ (fun _ => ?_))
   | exact ih0 _ _ _ _ _ _
   | exact ih1 _ _ _ _ _ _ _
   | exact ih2 _ _ _ _ _ _ _
   | exact ih3 _ _ _ _ _ _ _
   | exact cutroomref17_adaptation.mono _ _
   | exact LeO.none _
   | refine LeO.ite ?_ ?_
   | refine LeO.bind ?_ (fun _ => ?_)
  ·intro y0 y1 y2 y3 y4 y5 y6
   unfold cutroomref17_Put.j2
   repeat' first
   | (with_reducible exact ih0 _ _ _ _ _ _)
   | (with_reducible exact ih1 _ _ _ _ _ _ _)
   | (with_reducible exact ih2 _ _ _ _ _ _ _)
   | (with_reducible exact ih3 _ _ _ _ _ _ _)
   | (with_reducible exact cutroomref17_adaptation.mono _ _)
   | (with_reducible exact LeO.refl _)
   | (with_reducible exact LeO.none _)
   | (with_reducible refine LeO.ite ?_ ?_)
   | (with_reducible refine LeO.bind ?_ (fun _ => ?_))
   | exact ih0 _ _ _ _ _ _
   | exact ih1 _ _ _ _ _ _ _
   | exact ih2 _ _ _ _ _ _ _
   | exact ih3 _ _ _ _ _ _ _
   | exact cutroomref17_adaptation.mono _ _
   | exact LeO.none _
   | refine LeO.ite ?_ ?_
   | refine LeO.bind ?_ (fun _ => ?_)
  ·intro y0 y1 y2 y3 y4 y5 y6
   unfold cutroomref17_Put.l0
   repeat' first
   | (with_reducible exact ih0 _ _ _ _ _ _)
   | (with_reducible exact ih1 _ _ _ _ _ _ _)
   | (with_reducible exact ih2 _ _ _ _ _ _ _)
   | (with_reducible exact ih3 _ _ _ _ _ _ _)
   | (with_reducible exact cutroomref17_adaptation.mono _ _)
   | (with_reducible exact LeO.refl _)
   | (with_reducible exact LeO.none _)
   | (with_reducible refine LeO.ite ?_ ?_)
   | (with_reducible refine LeO.bind ?_ (fun _ => ?_))
   | exact ih0 _ _ _ _ _ _
   | exact ih1 _ _ _ _ _ _ _
   | exact ih2 _ _ _ _ _ _ _
   | exact ih3 _ _ _ _ _ _ _
   | exact cutroomref17_adaptation.mono _ _
   | exact LeO.none _
   | refine LeO.ite ?_ ?_
   | refine LeO.bind ?_ (fun _ => ?_)
theorem cutroomref17_Put.mono : ∀ a0 a1 a2 a3 a4 k, LeO (cutroomref17_Put.f k a0 a1 a2 a3 a4) (cutroomref17_Put.f (k + 1) a0 a1 a2 a3 a4) := by
 intro a0 a1 a2 a3 a4 k
 obtain ⟨ih0, ih1, ih2, ih3⟩ := cutroomref17_Put.mono_l k
 unfold cutroomref17_Put.f
 repeat' first
   | (with_reducible exact ih0 _ _ _ _ _ _)
   | (with_reducible exact ih1 _ _ _ _ _ _ _)
   | (with_reducible exact ih2 _ _ _ _ _ _ _)
   | (with_reducible exact ih3 _ _ _ _ _ _ _)
   | (with_reducible exact cutroomref17_adaptation.mono _ _)
   | (with_reducible exact LeO.refl _)
   | (with_reducible exact LeO.none _)
   | (with_reducible refine LeO.ite ?_ ?_)
   | (with_reducible refine LeO.bind ?_ (fun _ => ?_))
   | exact ih0 _ _ _ _ _ _
   | exact ih1 _ _ _ _ _ _ _
   | exact ih2 _ _ _ _ _ _ _
   | exact ih3 _ _ _ _ _ _ _
   | exact cutroomref17_adaptation.mono _ _
   | exact LeO.none _
   | refine LeO.ite ?_ ?_
   | refine LeO.bind ?_ (fun _ => ?_)
set_option maxHeartbeats 8000000 in
set_option maxRecDepth 100000 in
theorem cutroomref17_Put.calls (k : Nat) (a0_0 : Int) (a0_1 : Int) (a0_2 : Bool) (a0_3 : Int) (A0_4 : Option Addr) (c0_4 : Nat) (l0_4 : List Int) (r1 : List Int) (r2 : Int) (w : World) (hr0_4 : Kd.C (Kd.int .u8) w A0_4 l0_4.length l0_4) (hc0_4 : l0_4.length ≤ c0_4) (h : cutroomref17_Put.f k a0_0 a0_1 a0_2 a0_3 l0_4 = some (r1, r2)) :
  Calls Try.prog 13 #[.agg #[.int .i64 a0_0, .int .i64 a0_1, .bool a0_2, .int .i64 a0_3, .slice A0_4 l0_4.length c0_4]] w fun e w' => ∃ v0_ : Value, e = .returned (.tuple #[v0_, .int .i64 r2]) ∧ Kd.R (Kd.int .u8) 5 w' w.heap.size (fun _ => True) v0_ r1 ∧ Below w.heap.size w w' := by
 have hu24 := Try.underlying24
 have HR0_4 := Aside0.mk hr0_4
 have HC0_4 := Aside0.mk hc0_4
 clear hr0_4 hc0_4
 have HB := Aside0.mk (Below.refl w.heap.size w)
 have H : ((cutroomref17_Valid.f a0_0 a0_1 a0_2 a0_3 l0_4).bind fun t208 => (if t208 = true then ((some (([71, (a0_0 / 256) % 256, (a0_0) % 256, (a0_1) % 256] : List Int) : List Int)).bind fun y209 => (if a0_2 = true then (if 1 < (y209.length : Int) then (cutroomref17_Put.j0 k (y209.set (1 : Int).toNat (((rd y209 1) + 64) % 256)) a0_0 a0_1 a0_2 a0_3 l0_4) else (none)) else (cutroomref17_Put.j0 k y209 a0_0 a0_1 a0_2 a0_3 l0_4))) else (some (([] : List Int), 1)))) = some (r1, r2) := h
 clear h
 replace H := Option.bind_eq_some_iff.mp H
 obtain ⟨t208, A20, H⟩ := H
 replace H : (if t208 = true then ((some (([71, (a0_0 / 256) % 256, (a0_0) % 256, (a0_1) % 256] : List Int) : List Int)).bind fun y209 => (if a0_2 = true then (if 1 < (y209.length : Int) then (cutroomref17_Put.j0 k (y209.set (1 : Int).toNat (((rd y209 1) + 64) % 256)) a0_0 a0_1 a0_2 a0_3 l0_4) else (none)) else (cutroomref17_Put.j0 k y209 a0_0 a0_1 a0_2 a0_3 l0_4))) else (some (([] : List Int), 1))) = some (r1, r2) := H
 have A2 := Aside0.mk A20
 clear A20
 by_cases c3 : t208 = true
 ·subst c3
  have H1 : ((some (([71, (a0_0 / 256) % 256, (a0_0) % 256, (a0_1) % 256] : List Int) : List Int)).bind fun y209 => (if a0_2 = true then (if 1 < (y209.length : Int) then (cutroomref17_Put.j0 k (y209.set (1 : Int).toNat (((rd y209 1) + 64) % 256)) a0_0 a0_1 a0_2 a0_3 l0_4) else (none)) else (cutroomref17_Put.j0 k y209 a0_0 a0_1 a0_2 a0_3 l0_4))) = some (r1, r2) := by rw [if_pos rfl] at H; exact H
  clear H
  have H := H1
  clear H1
  obtain ⟨y209, hy209⟩ : ∃ y_ : List Int, y_ = (([71, (a0_0 / 256) % 256, (a0_0) % 256, (a0_1) % 256] : List Int)) := ⟨_, rfl⟩
  replace H : (if a0_2 = true then (if 1 < (y209.length : Int) then (cutroomref17_Put.j0 k (y209.set (1 : Int).toNat (((rd y209 1) + 64) % 256)) a0_0 a0_1 a0_2 a0_3 l0_4) else (none)) else (cutroomref17_Put.j0 k y209 a0_0 a0_1 a0_2 a0_3 l0_4)) = some (r1, r2) := by first | (rw [hy209]; with_reducible exact H) | (have H2_ := (Option.bind_some _ _).symm.trans H; rw [hy209]; with_reducible exact H2_) | (have H2_ := (Option.bind_some _ _).symm.trans H; with_reducible exact H2_) | with_reducible exact H | (rw [hy209]; exact H) | exact H
  have Ny209 := Aside0.mk hy209
  clear hy209
  have HC4 := Aside0.mk H
  clear H
  go_enter Try.func13, Try.ntmps13
  go_upto_if 21 with (first | ((with_reducible refine xD (N := 1) rfl ?_); refine box_event ?hg (N := 1) ?hd (cs := #[.int .i64 a0_0, .int .i64 a0_1, .bool a0_2, .int .i64 a0_3, .slice A0_4 l0_4.length c0_4]) (t := 24) ?hr ?_; (case hd => rfl); (case hg => rfl); (case hr => first | (go_simp; done) | (go_simp; rfl)); intro gb207 hg w5 hbox hb; have n0_ := Aside0.mk (zT (by repeat (first | (with_reducible first | exact HB.out | apply zA | apply zN | apply zD) | exact HB.out)) hb); have n1_ := Aside0.mk (hbox); have n2_ := Aside0.mk ((by rw [hg]; exact (zS (by repeat (first | (with_reducible first | exact HB.out | apply zA | apply zN | apply zD) | exact HB.out))) : w.heap.size ≤ gb207)); have n3_ := n2_; clear HB; have HB := n0_; have BK207 := n1_; have GW207 := n2_; have GE207 := n3_; clear n0_ n1_ n2_ n3_; clear hb hbox hg; have hcz6_0 : w5.cell? ⟨gb207, 0, none⟩ = some (.int .i64 a0_0) := (blk_cell BK207.out 0).trans rfl; have hcz6_1 : w5.cell? ⟨gb207, 1, none⟩ = some (.int .i64 a0_1) := (blk_cell BK207.out 1).trans rfl; have hcz6_2 : w5.cell? ⟨gb207, 2, none⟩ = some (.bool a0_2) := (blk_cell BK207.out 2).trans rfl; have hcz6_3 : w5.cell? ⟨gb207, 3, none⟩ = some (.int .i64 a0_3) := (blk_cell BK207.out 3).trans rfl; have hcz6_4 : w5.cell? ⟨gb207, 4, none⟩ = some (.slice A0_4 l0_4.length c0_4) := (blk_cell BK207.out 4).trans rfl; have hfz6_0 := blk_frozen BK207.out 0; have hfz6_1 := blk_frozen BK207.out 1; have hfz6_2 := blk_frozen BK207.out 2; have hfz6_3 := blk_frozen BK207.out 3; have hfz6_4 := blk_frozen BK207.out 4) | ((with_reducible refine xC (f := 35) rfl ?_); refine goesL_ (some 7) rfl rfl Try.func35 (by kernel_rfl) rfl #[.agg #[.int .i64 a0_0, .int .i64 a0_1, .bool a0_2, .int .i64 a0_3, .slice A0_4 l0_4.length c0_4]] rfl (by (try simp only [List.map_toArray, List.map_cons, List.map_nil]); first | done | rfl | (simp only [List.length_drop, List.length_take]; rfl)) ?_; (with_reducible refine (cutroomref17_Valid.calls a0_0 a0_1 a0_2 a0_3 _ _ l0_4 true _ ?side1 ?side2 A2.out).mono ?_); (case side1 => repeat (first | exact (Kd.C_below HR0_4.out HB.out) | (with_reducible refine Kd.C_alloc ?_ _) | (with_reducible refine Kd.C_drewN ?_ _) | (with_reducible refine Kd.C_drew ?_))); (case side2 => exact HC0_4.out); rintro e w7 ⟨rfl, hb⟩; refine ⟨_, rfl, ?_⟩; have n0_ := Aside0.mk (yB (g := gb207) (o := .cells #[.int .i64 a0_0, .int .i64 a0_1, .bool a0_2, .int .i64 a0_3, .slice A0_4 l0_4.length c0_4] 24 (0, 0)) (by (with_reducible repeat (first | refine yN ?_ _ | refine yD ?_ | refine yA ?_ _)); exact BK207.out) hb); have n1_ := Aside0.mk (zT (by repeat (first | (with_reducible first | exact HB.out | apply zA | apply zN | apply zD | refine zP ?_ GE207.out) | exact HB.out)) hb); clear BK207; clear HB; have BK207 := n0_; have HB := n1_; clear n0_ n1_; (try clear hb); (try clear hb2); (try clear hk); (try clear hi); have hcz8_0 : w7.cell? ⟨gb207, 0, none⟩ = some (.int .i64 a0_0) := (blk_cell BK207.out 0).trans rfl; have hcz8_1 : w7.cell? ⟨gb207, 1, none⟩ = some (.int .i64 a0_1) := (blk_cell BK207.out 1).trans rfl; have hcz8_2 : w7.cell? ⟨gb207, 2, none⟩ = some (.bool a0_2) := (blk_cell BK207.out 2).trans rfl; have hcz8_3 : w7.cell? ⟨gb207, 3, none⟩ = some (.int .i64 a0_3) := (blk_cell BK207.out 3).trans rfl; have hcz8_4 : w7.cell? ⟨gb207, 4, none⟩ = some (.slice A0_4 l0_4.length c0_4) := (blk_cell BK207.out 4).trans rfl; have hfz8_0 := blk_frozen BK207.out 0; have hfz8_1 := blk_frozen BK207.out 1; have hfz8_2 := blk_frozen BK207.out 2; have hfz8_3 := blk_frozen BK207.out 3; have hfz8_4 := blk_frozen BK207.out 4) | ((with_reducible refine xD (N := 19) rfl ?_); refine Kd.R_lit (Kd.int .u8) _ 5 ?hg (N := 19) ?hd (xs := ([71, (a0_0 / 256) % 256, (a0_0) % 256, (a0_1) % 256] : List Int)) (inner := [.int .u8 71, .int .u8 ((a0_0 / 256) % 256), .int .u8 ((a0_0) % 256), .int .u8 ((a0_1) % 256)]) (ok := fun _ => True) (okp := fun _ => True) ?hr ?hp (fun _ hk => hk) trivial (Below.refl _ _) (Nat.le_refl _) (by simp) ?_; (case hd => rfl); (case hg => rfl); (case hr => first | (go_simp; done) | (go_simp; rfl)); (case hp => exact (Reps.one (show Kd.M (Kd.int .u8) _ _ _ 71 [.int .u8 71] from rfl) (Reps.one (show Kd.M (Kd.int .u8) _ _ _ ((a0_0 / 256) % 256) [.int .u8 ((a0_0 / 256) % 256)] from rfl) (Reps.one (show Kd.M (Kd.int .u8) _ _ _ ((a0_0) % 256) [.int .u8 ((a0_0) % 256)] from rfl) (Reps.one (show Kd.M (Kd.int .u8) _ _ _ ((a0_1) % 256) [.int .u8 ((a0_1) % 256)] from rfl) (Reps.none _ _)))))); intro v210 w9 ho10 hb hg_ hnew_; clear hg_ hnew_; (first | rw [← Ny209.out] at ho10 | (simp only [Int.reduceToNat] at ho10; rw [← Ny209.out] at ho10)); have n0_ := Aside0.mk (Kd.R_lower ho10 (zS (by repeat (first | (with_reducible first | exact HB.out | apply zA | apply zN | apply zD | refine zP ?_ GE207.out) | exact HB.out)))); have n1_ := Aside0.mk (yB (g := gb207) (o := .cells #[.int .i64 a0_0, .int .i64 a0_1, .bool a0_2, .int .i64 a0_3, .slice A0_4 l0_4.length c0_4] 24 (0, 0)) (by (with_reducible repeat (first | refine yN ?_ _ | refine yD ?_ | refine yA ?_ _)); exact BK207.out) hb); have n2_ := Aside0.mk (zT (by repeat (first | (with_reducible first | exact HB.out | apply zA | apply zN | apply zD | refine zP ?_ GE207.out) | exact HB.out)) hb); clear BK207; clear HB; have HO211 := n0_; have BK207 := n1_; have HB := n2_; clear n0_ n1_ n2_; clear hb ho10; have hcz11_0 : w9.cell? ⟨gb207, 0, none⟩ = some (.int .i64 a0_0) := (blk_cell BK207.out 0).trans rfl; have hcz11_1 : w9.cell? ⟨gb207, 1, none⟩ = some (.int .i64 a0_1) := (blk_cell BK207.out 1).trans rfl; have hcz11_2 : w9.cell? ⟨gb207, 2, none⟩ = some (.bool a0_2) := (blk_cell BK207.out 2).trans rfl; have hcz11_3 : w9.cell? ⟨gb207, 3, none⟩ = some (.int .i64 a0_3) := (blk_cell BK207.out 3).trans rfl; have hcz11_4 : w9.cell? ⟨gb207, 4, none⟩ = some (.slice A0_4 l0_4.length c0_4) := (blk_cell BK207.out 4).trans rfl; have hfz11_0 := blk_frozen BK207.out 0; have hfz11_1 := blk_frozen BK207.out 1; have hfz11_2 := blk_frozen BK207.out 2; have hfz11_3 := blk_frozen BK207.out 3; have hfz11_4 := blk_frozen BK207.out 4))
  (try simp only [Act.put, sA, sZ, sS])
  go_cut [] (fun wc => ∃ (kq : Nat) (x4_3 : List Int), Aside0 (cutroomref17_Put.j0 kq x4_3 a0_0 a0_1 a0_2 a0_3 l0_4 = some (r1, r2)) ∧ Aside0 (kq ≤ k) ∧ Aside0 (Kd.R (Kd.int .u8) 5 wc w.heap.size (fun _ => True) v210 x4_3) ∧ Aside0 (wc.heap[gb207]? = some (.cells #[.int .i64 a0_0, .int .i64 a0_1, .bool a0_2, .int .i64 a0_3, (.slice A0_4 l0_4.length c0_4)] 24 (0, 0))) ∧ Aside0 (Below w.heap.size w wc))
  case first =>
   have H := HC4.out
   clear HC4
   by_cases c12 : a0_2 = true
   ·subst c12
    have H1 : (if 1 < (y209.length : Int) then (cutroomref17_Put.j0 k (y209.set (1 : Int).toNat (((rd y209 1) + 64) % 256)) a0_0 a0_1 true a0_3 l0_4) else (none)) = some (r1, r2) := by rw [if_pos rfl] at H; exact H
    clear H
    have H := H1
    clear H1
    by_cases c13 : 1 < (y209.length : Int)
    ·rw [if_pos c13] at H
     have c13b0 : decide (1 < (y209.length : Int)) = true := decide_eq_true c13
     have c13b1 : decide (1 < y209.length) = true := decide_eq_true (by omega)
     clear c13
     (first | rw [c13b0] | (simp only [i64_w, i32_w]; rw [c13b0]) | skip)
     obtain ⟨y213, hy213⟩ : ∃ y_ : List Int, y_ = (y209.set (1 : Int).toNat (((rd y209 1) + 64) % 256)) := ⟨_, rfl⟩
     replace H : (cutroomref17_Put.j0 k y213 a0_0 a0_1 true a0_3 l0_4) = some (r1, r2) := by first | (rw [hy213]; with_reducible exact H) | (have H2_ := (Option.bind_some _ _).symm.trans H; rw [hy213]; with_reducible exact H2_) | (have H2_ := (Option.bind_some _ _).symm.trans H; with_reducible exact H2_) | with_reducible exact H | (rw [hy213]; exact H) | exact H
     have Ny213 := Aside0.mk hy213
     clear hy213
     have H' := Aside0.mk H
     clear H
     obtain ⟨Ao15, co15, eo15⟩ := Kd.R_slice HO211.out
     subst eo15
     have p212 : 0 ≤ (1 : Int) := (by omega)
     have q212 : 1 < (y209.length : Int) := of_decide_eq_true (by first | (with_reducible assumption) | assumption)
     obtain ⟨ad212, e212, hx212_0⟩ := Kd.at_int (Kd.R_reads' HO211.out).2.2 1 p212 q212
     cases e212
     (try simp only [show (1 : Int).toNat = 1 from rfl, Nat.reduceMul, Nat.reduceEqDiff, Go.Addr.add, ↓reduceIte] at hx212_0)
     have qi212 : (1 < y209.length) = True := eq_true (by omega)
     (try rw [show ((1 : Int)).toNat = 1 from rfl] at hx212_0)
     replace p212 := eq_true p212
     replace q212 := eq_true q212
     have p14 : 0 ≤ (1 : Int) := (by omega)
     have q14 : (1 : Int) < ((y209.length : Int) : Int) := of_decide_eq_true (by first | (with_reducible assumption) | assumption)
     have qi14 : (1 < y209.length) = True := eq_true (by omega)
     obtain ⟨go14, co14, eo14, gb14, gl14, cl14, HG14⟩ := Kd.R_form HO211.out (by omega)
     (first | cases eo14 | (injection eo14 with ea_ en_ ec_; (first | subst ea_ | (injection ea_ with ea_; subst ea_)); subst ec_; clear en_))
     have GB14 := Aside0.mk gb14
     have GG14 := Aside0.mk HG14
     clear gb14 gl14 HG14
     (first | simp only [add_plain] at hx212_0 | skip)
     obtain ⟨hx14_0, hf14_0⟩ := Kd.R_celln 0 HO211.out (1 : Int) p14 q14
     (try rw [show ((1 : Int)).toNat = 1 from rfl] at hx14_0)
     (try simp only [Nat.reduceMul, Nat.zero_mul, Nat.zero_add, Nat.reduceAdd] at hx14_0)
     (try rw [show ((1 : Int)).toNat = 1 from rfl] at hf14_0)
     (try simp only [Nat.reduceMul, Nat.zero_mul, Nat.zero_add, Nat.reduceAdd] at hf14_0)
     replace p14 := eq_true p14
     replace q14 := eq_true q14
     have HP16 := Kd.R_putg HO211.out (1 : Int) (((rd y209 1) + 64) % 256)
     go_wp2_with (first | ((with_reducible refine gate_store (t := 5) (p := 26) rfl ?_); refine store_event (t := 5) (p := 26) (v := ?vo_w17) (w1 := (w9.setCell ⟨go14, (1 : Int).toNat, none⟩ (.int .u8 (((rd y209 1) + 64) % 256)))) ?hg ?ho ?hn ?hr ?_; (case ho => rfl); (case hg => rfl); (case hn => rfl); (case hr => first | (go_simp; done) | (go_simp; rfl)); intro w17 hw; have hg : w9.grownBy w17 (some go14) := (by rw [hw]; exact HP16.2); have hp_ : Kd.R (Kd.int .u8) 5 w17 w.heap.size (fun _ => True) (.slice (some ⟨go14, 0, none⟩) y209.length co15) y213 := (by rw [hw, Ny213.out]; exact HP16.1); clear HP16; have n0_ := Aside0.mk (blk_grown (g := gb207) (o := .cells #[.int .i64 a0_0, .int .i64 a0_1, .bool true, .int .i64 a0_3, .slice A0_4 l0_4.length c0_4] 24 (0, 0)) (by (with_reducible repeat (first | refine yN ?_ _ | refine yD ?_ | refine yA ?_ _)); exact BK207.out) hg (Kd.R_ne HO211.out BK207.out (by decide))); have n1_ := Aside0.mk (hp_); have n2_ := Aside0.mk ((by rw [hw]; exact zP (HB.out) GB14.out : Below w.heap.size w w17)); clear BK207; clear HO211; clear HB; have BK207 := n0_; have HO211 := n1_; have HB := n2_; clear n0_ n1_ n2_; clear hg hw hp_))
     go_meet
     case rel => exact ⟨_, (y213), H', ⟨by first | omega | exact Nat.le_refl _⟩, ⟨by (with_reducible repeat (first | apply Kd.R_alloc | apply Kd.R_drewN | apply Kd.R_drew)); exact HO211.out⟩, ⟨by (with_reducible repeat (first | refine yN ?_ _ | refine yD ?_ | refine yA ?_ _)); exact BK207.out⟩, ⟨by repeat (first | (with_reducible first | exact HB.out | apply zA | apply zN | apply zD | refine zP ?_ GE207.out) | exact HB.out)⟩⟩
    ·rw [if_neg c13] at H
     exact absurd H (by simp)
   ·replace c12 := Bool.eq_false_iff.mpr c12
    subst c12
    have H1 : (cutroomref17_Put.j0 k y209 a0_0 a0_1 false a0_3 l0_4) = some (r1, r2) := by rw [if_neg (show ¬ (false = true) by decide)] at H; exact H
    clear H
    have H := H1
    clear H1
    have H' := Aside0.mk H
    clear H
    go_wp2
    go_meet
    case rel => exact ⟨_, (y209), H', ⟨by first | omega | exact Nat.le_refl _⟩, ⟨by (with_reducible repeat (first | apply Kd.R_alloc | apply Kd.R_drewN | apply Kd.R_drew)); exact HO211.out⟩, ⟨by (with_reducible repeat (first | refine yN ?_ _ | refine yD ?_ | refine yA ?_ _)); exact BK207.out⟩, ⟨by repeat (first | (with_reducible first | exact HB.out | apply zA | apply zN | apply zD | refine zP ?_ GE207.out) | exact HB.out)⟩⟩
  case rest =>
   clear HC4
   (try clear c1);(try clear p1);(try clear q1);(try clear hx1);(try clear qi1);(try clear hf1);(try clear p2);(try clear q2);(try clear hx2);(try clear qi2);(try clear c3);(try clear c12);(try clear c13);(try clear c13b0);(try clear c13b1);(try clear p14);(try clear q14);(try clear hx14);(try clear qi14);(try clear hf14);(try clear hcz11_0);(try clear hcz11_1);(try clear hcz11_2);(try clear hcz11_3);(try clear hcz11_4);(try clear hcz6_0);(try clear hcz6_1);(try clear hcz6_2);(try clear hcz6_3);(try clear hcz6_4);(try clear hcz8_0);(try clear hcz8_1);(try clear hcz8_2);(try clear hcz8_3);(try clear hcz8_4);(try clear hfz11_0);(try clear hfz11_1);(try clear hfz11_2);(try clear hfz11_3);(try clear hfz11_4);(try clear hfz6_0);(try clear hfz6_1);(try clear hfz6_2);(try clear hfz6_3);(try clear hfz6_4);(try clear hfz8_0);(try clear hfz8_1);(try clear hfz8_2);(try clear hfz8_3);(try clear hfz8_4)
   (try clear hx14_0);(try clear hx212_0);(try clear p14);(try clear p212);(try clear q14);(try clear q212)
   obtain ⟨kq, x4_3, HA, HJ3, HO_4, BK207, HB⟩ := hcut
   cases kq with
   | zero => exact absurd HA.out (by simp [cutroomref17_Put.j0])
   | succ kj3 =>
    have H := HA.out
    clear HA
    simp only [cutroomref17_Put.j0] at H
    have HC18 := Aside0.mk H
    clear H
    have hcz19_0 : wc.cell? ⟨gb207, 0, none⟩ = some (.int .i64 a0_0) := (blk_cell BK207.out 0).trans rfl
    have hcz19_1 : wc.cell? ⟨gb207, 1, none⟩ = some (.int .i64 a0_1) := (blk_cell BK207.out 1).trans rfl
    have hcz19_2 : wc.cell? ⟨gb207, 2, none⟩ = some (.bool a0_2) := (blk_cell BK207.out 2).trans rfl
    have hcz19_3 : wc.cell? ⟨gb207, 3, none⟩ = some (.int .i64 a0_3) := (blk_cell BK207.out 3).trans rfl
    have hcz19_4 : wc.cell? ⟨gb207, 4, none⟩ = some (.slice A0_4 l0_4.length c0_4) := (blk_cell BK207.out 4).trans rfl
    have hfz19_0 := blk_frozen BK207.out 0
    have hfz19_1 := blk_frozen BK207.out 1
    have hfz19_2 := blk_frozen BK207.out 2
    have hfz19_3 := blk_frozen BK207.out 3
    have hfz19_4 := blk_frozen BK207.out 4
    go_upto_block 0 with (fail)
    go_cut [] (fun wc => ∃ (kq : Nat) (x4_17 : List Int), Aside0 (cutroomref17_Put.j1 kq x4_17 (l0_4.length : Int) a0_0 a0_1 a0_2 a0_3 l0_4 = some (r1, r2)) ∧ Aside0 (kq ≤ kj3) ∧ Aside0 (Kd.R (Kd.int .u8) 5 wc w.heap.size (fun _ => True) v210 x4_17) ∧ Aside0 (wc.heap[gb207]? = some (.cells #[.int .i64 a0_0, .int .i64 a0_1, .bool a0_2, .int .i64 a0_3, (.slice A0_4 l0_4.length c0_4)] 24 (0, 0))) ∧ Aside0 (Below w.heap.size w wc))
    case first =>
     have H := HC18.out
     clear HC18
     by_cases c20 : (l0_4.length : Int) = 184
     ·rw [if_pos c20] at H
      have c20b0 : ((l0_4.length : Int) == 184) = true := beq_iff_eq.mpr c20
      have c20b1 : ((l0_4.length : Int) != 184) = false := bne_eq_false_iff_eq.mpr c20
      clear c20
      (first | rw [c20b0] | (simp only [i64_w, i32_w]; rw [c20b0]) | skip)
      by_cases c21 : 3 < (x4_3.length : Int)
      ·rw [if_pos c21] at H
       have c21b0 : decide (3 < (x4_3.length : Int)) = true := decide_eq_true c21
       have c21b1 : decide (3 < x4_3.length) = true := decide_eq_true (by omega)
       clear c21
       obtain ⟨y215, hy215⟩ : ∃ y_ : List Int, y_ = (x4_3.set (3 : Int).toNat (((rd x4_3 3) + 16) % 256)) := ⟨_, rfl⟩
       replace H : (cutroomref17_Put.j1 kj3 y215 (l0_4.length : Int) a0_0 a0_1 a0_2 a0_3 l0_4) = some (r1, r2) := by first | (rw [hy215]; with_reducible exact H) | (have H2_ := (Option.bind_some _ _).symm.trans H; rw [hy215]; with_reducible exact H2_) | (have H2_ := (Option.bind_some _ _).symm.trans H; with_reducible exact H2_) | with_reducible exact H | (rw [hy215]; exact H) | exact H
       have Ny215 := Aside0.mk hy215
       clear hy215
       have H' := Aside0.mk H
       clear H
       obtain ⟨Ao23, co23, eo23⟩ := Kd.R_slice HO_4.out
       subst eo23
       have p214 : 0 ≤ (3 : Int) := (by omega)
       have q214 : 3 < (x4_3.length : Int) := of_decide_eq_true (by first | (with_reducible assumption) | assumption)
       obtain ⟨ad214, e214, hx214_0⟩ := Kd.at_int (Kd.R_reads' HO_4.out).2.2 3 p214 q214
       cases e214
       (try simp only [show (3 : Int).toNat = 3 from rfl, Nat.reduceMul, Nat.reduceEqDiff, Go.Addr.add, ↓reduceIte] at hx214_0)
       have qi214 : (3 < x4_3.length) = True := eq_true (by omega)
       (try rw [show ((3 : Int)).toNat = 3 from rfl] at hx214_0)
       replace p214 := eq_true p214
       replace q214 := eq_true q214
       have p22 : 0 ≤ (3 : Int) := (by omega)
       have q22 : (3 : Int) < ((x4_3.length : Int) : Int) := of_decide_eq_true (by first | (with_reducible assumption) | assumption)
       have qi22 : (3 < x4_3.length) = True := eq_true (by omega)
       obtain ⟨go22, co22, eo22, gb22, gl22, cl22, HG22⟩ := Kd.R_form HO_4.out (by omega)
       (first | cases eo22 | (injection eo22 with ea_ en_ ec_; (first | subst ea_ | (injection ea_ with ea_; subst ea_)); subst ec_; clear en_))
       have GB22 := Aside0.mk gb22
       have GG22 := Aside0.mk HG22
       clear gb22 gl22 HG22
       (first | simp only [add_plain] at hx214_0 | skip)
       obtain ⟨hx22_0, hf22_0⟩ := Kd.R_celln 0 HO_4.out (3 : Int) p22 q22
       (try rw [show ((3 : Int)).toNat = 3 from rfl] at hx22_0)
       (try simp only [Nat.reduceMul, Nat.zero_mul, Nat.zero_add, Nat.reduceAdd] at hx22_0)
       (try rw [show ((3 : Int)).toNat = 3 from rfl] at hf22_0)
       (try simp only [Nat.reduceMul, Nat.zero_mul, Nat.zero_add, Nat.reduceAdd] at hf22_0)
       replace p22 := eq_true p22
       replace q22 := eq_true q22
       have HP24 := Kd.R_putg HO_4.out (3 : Int) (((rd x4_3 3) + 16) % 256)
       go_wp2_with (first | ((with_reducible refine gate_store (t := 5) (p := 42) rfl ?_); refine store_event (t := 5) (p := 42) (v := ?vo_w25) (w1 := (wc.setCell ⟨go22, (3 : Int).toNat, none⟩ (.int .u8 (((rd x4_3 3) + 16) % 256)))) ?hg ?ho ?hn ?hr ?_; (case ho => rfl); (case hg => rfl); (case hn => rfl); (case hr => first | (go_simp; done) | (go_simp; rfl)); intro w25 hw; have hg : wc.grownBy w25 (some go22) := (by rw [hw]; exact HP24.2); have hp_ : Kd.R (Kd.int .u8) 5 w25 w.heap.size (fun _ => True) (.slice (some ⟨go22, 0, none⟩) x4_3.length co23) y215 := (by rw [hw, Ny215.out]; exact HP24.1); clear HP24; have n0_ := Aside0.mk (hp_); have n1_ := Aside0.mk (blk_grown (g := gb207) (o := .cells #[.int .i64 a0_0, .int .i64 a0_1, .bool a0_2, .int .i64 a0_3, .slice A0_4 l0_4.length c0_4] 24 (0, 0)) (by (with_reducible repeat (first | refine yN ?_ _ | refine yD ?_ | refine yA ?_ _)); exact BK207.out) hg (Kd.R_ne HO_4.out BK207.out (by decide))); have n2_ := Aside0.mk ((by rw [hw]; exact zP (HB.out) GB22.out : Below w.heap.size w w25)); clear HO_4; clear BK207; clear HB; have HO_4 := n0_; have BK207 := n1_; have HB := n2_; clear n0_ n1_ n2_; clear hg hw hp_))
       go_meet
       case rel => exact ⟨_, (y215), H', ⟨by have := HJ3.out; first | omega | exact Nat.le_refl _⟩, ⟨by (with_reducible repeat (first | apply Kd.R_alloc | apply Kd.R_drewN | apply Kd.R_drew)); exact HO_4.out⟩, ⟨by (with_reducible repeat (first | refine yN ?_ _ | refine yD ?_ | refine yA ?_ _)); exact BK207.out⟩, ⟨by repeat (first | (with_reducible first | exact HB.out | apply zA | apply zN | apply zD | refine zP ?_ GE207.out) | exact HB.out)⟩⟩
      ·rw [if_neg c21] at H
       exact absurd H (by simp)
     ·rw [if_neg c20] at H
      have c20b0 : ((l0_4.length : Int) == 184) = false := beq_eq_false_iff_ne.mpr c20
      have c20b1 : ((l0_4.length : Int) != 184) = true := bne_iff_ne.mpr c20
      (first | rw [c20b0] | (simp only [i64_w, i32_w]; rw [c20b0]) | skip)
      by_cases c26 : (l0_4.length : Int) = 0
      ·rw [if_pos c26] at H
       have c26b0 : ((l0_4.length : Int) == 0) = true := beq_iff_eq.mpr c26
       have c26b1 : ((l0_4.length : Int) != 0) = false := bne_eq_false_iff_eq.mpr c26
       clear c26
       by_cases c27 : 3 < (x4_3.length : Int)
       ·rw [if_pos c27] at H
        have c27b0 : decide (3 < (x4_3.length : Int)) = true := decide_eq_true c27
        have c27b1 : decide (3 < x4_3.length) = true := decide_eq_true (by omega)
        clear c27
        obtain ⟨y217, hy217⟩ : ∃ y_ : List Int, y_ = (x4_3.set (3 : Int).toNat (((rd x4_3 3) + 32) % 256)) := ⟨_, rfl⟩
        replace H : (cutroomref17_Put.j1 kj3 y217 (l0_4.length : Int) a0_0 a0_1 a0_2 a0_3 l0_4) = some (r1, r2) := by first | (rw [hy217]; with_reducible exact H) | (have H2_ := (Option.bind_some _ _).symm.trans H; rw [hy217]; with_reducible exact H2_) | (have H2_ := (Option.bind_some _ _).symm.trans H; with_reducible exact H2_) | with_reducible exact H | (rw [hy217]; exact H) | exact H
        have Ny217 := Aside0.mk hy217
        clear hy217
        have H' := Aside0.mk H
        clear H
        obtain ⟨Ao29, co29, eo29⟩ := Kd.R_slice HO_4.out
        subst eo29
        have p216 : 0 ≤ (3 : Int) := (by omega)
        have q216 : 3 < (x4_3.length : Int) := of_decide_eq_true (by first | (with_reducible assumption) | assumption)
        obtain ⟨ad216, e216, hx216_0⟩ := Kd.at_int (Kd.R_reads' HO_4.out).2.2 3 p216 q216
        cases e216
        (try simp only [show (3 : Int).toNat = 3 from rfl, Nat.reduceMul, Nat.reduceEqDiff, Go.Addr.add, ↓reduceIte] at hx216_0)
        have qi216 : (3 < x4_3.length) = True := eq_true (by omega)
        (try rw [show ((3 : Int)).toNat = 3 from rfl] at hx216_0)
        replace p216 := eq_true p216
        replace q216 := eq_true q216
        have p28 : 0 ≤ (3 : Int) := (by omega)
        have q28 : (3 : Int) < ((x4_3.length : Int) : Int) := of_decide_eq_true (by first | (with_reducible assumption) | assumption)
        have qi28 : (3 < x4_3.length) = True := eq_true (by omega)
        obtain ⟨go28, co28, eo28, gb28, gl28, cl28, HG28⟩ := Kd.R_form HO_4.out (by omega)
        (first | cases eo28 | (injection eo28 with ea_ en_ ec_; (first | subst ea_ | (injection ea_ with ea_; subst ea_)); subst ec_; clear en_))
        have GB28 := Aside0.mk gb28
        have GG28 := Aside0.mk HG28
        clear gb28 gl28 HG28
        (first | simp only [add_plain] at hx216_0 | skip)
        obtain ⟨hx28_0, hf28_0⟩ := Kd.R_celln 0 HO_4.out (3 : Int) p28 q28
        (try rw [show ((3 : Int)).toNat = 3 from rfl] at hx28_0)
        (try simp only [Nat.reduceMul, Nat.zero_mul, Nat.zero_add, Nat.reduceAdd] at hx28_0)
        (try rw [show ((3 : Int)).toNat = 3 from rfl] at hf28_0)
        (try simp only [Nat.reduceMul, Nat.zero_mul, Nat.zero_add, Nat.reduceAdd] at hf28_0)
        replace p28 := eq_true p28
        replace q28 := eq_true q28
        have HP30 := Kd.R_putg HO_4.out (3 : Int) (((rd x4_3 3) + 32) % 256)
        go_wp2_with (first | ((with_reducible refine gate_store (t := 5) (p := 49) rfl ?_); refine store_event (t := 5) (p := 49) (v := ?vo_w31) (w1 := (wc.setCell ⟨go28, (3 : Int).toNat, none⟩ (.int .u8 (((rd x4_3 3) + 32) % 256)))) ?hg ?ho ?hn ?hr ?_; (case ho => rfl); (case hg => rfl); (case hn => rfl); (case hr => first | (go_simp; done) | (go_simp; rfl)); intro w31 hw; have hg : wc.grownBy w31 (some go28) := (by rw [hw]; exact HP30.2); have hp_ : Kd.R (Kd.int .u8) 5 w31 w.heap.size (fun _ => True) (.slice (some ⟨go28, 0, none⟩) x4_3.length co29) y217 := (by rw [hw, Ny217.out]; exact HP30.1); clear HP30; have n0_ := Aside0.mk (hp_); have n1_ := Aside0.mk (blk_grown (g := gb207) (o := .cells #[.int .i64 a0_0, .int .i64 a0_1, .bool a0_2, .int .i64 a0_3, .slice A0_4 l0_4.length c0_4] 24 (0, 0)) (by (with_reducible repeat (first | refine yN ?_ _ | refine yD ?_ | refine yA ?_ _)); exact BK207.out) hg (Kd.R_ne HO_4.out BK207.out (by decide))); have n2_ := Aside0.mk ((by rw [hw]; exact zP (HB.out) GB28.out : Below w.heap.size w w31)); clear HO_4; clear BK207; clear HB; have HO_4 := n0_; have BK207 := n1_; have HB := n2_; clear n0_ n1_ n2_; clear hg hw hp_))
        go_meet
        case rel => exact ⟨_, (y217), H', ⟨by have := HJ3.out; first | omega | exact Nat.le_refl _⟩, ⟨by (with_reducible repeat (first | apply Kd.R_alloc | apply Kd.R_drewN | apply Kd.R_drew)); exact HO_4.out⟩, ⟨by (with_reducible repeat (first | refine yN ?_ _ | refine yD ?_ | refine yA ?_ _)); exact BK207.out⟩, ⟨by repeat (first | (with_reducible first | exact HB.out | apply zA | apply zN | apply zD | refine zP ?_ GE207.out) | exact HB.out)⟩⟩
       ·rw [if_neg c27] at H
        exact absurd H (by simp)
      ·rw [if_neg c26] at H
       have c26b0 : ((l0_4.length : Int) == 0) = false := beq_eq_false_iff_ne.mpr c26
       have c26b1 : ((l0_4.length : Int) != 0) = true := bne_iff_ne.mpr c26
       have c26b2 : ¬ (l0_4 = []) := fun h_ => c26 (by rw [h_]; rfl)
       by_cases c32 : 3 < (x4_3.length : Int)
       ·rw [if_pos c32] at H
        have c32b0 : decide (3 < (x4_3.length : Int)) = true := decide_eq_true c32
        have c32b1 : decide (3 < x4_3.length) = true := decide_eq_true (by omega)
        clear c32
        obtain ⟨y219, hy219⟩ : ∃ y_ : List Int, y_ = (x4_3.set (3 : Int).toNat (((rd x4_3 3) + 48) % 256)) := ⟨_, rfl⟩
        replace H : (cutroomref17_Put.j1 kj3 y219 (l0_4.length : Int) a0_0 a0_1 a0_2 a0_3 l0_4) = some (r1, r2) := by first | (rw [hy219]; with_reducible exact H) | (have H2_ := (Option.bind_some _ _).symm.trans H; rw [hy219]; with_reducible exact H2_) | (have H2_ := (Option.bind_some _ _).symm.trans H; with_reducible exact H2_) | with_reducible exact H | (rw [hy219]; exact H) | exact H
        have Ny219 := Aside0.mk hy219
        clear hy219
        have H' := Aside0.mk H
        clear H
        obtain ⟨Ao34, co34, eo34⟩ := Kd.R_slice HO_4.out
        subst eo34
        have p218 : 0 ≤ (3 : Int) := (by omega)
        have q218 : 3 < (x4_3.length : Int) := of_decide_eq_true (by first | (with_reducible assumption) | assumption)
        obtain ⟨ad218, e218, hx218_0⟩ := Kd.at_int (Kd.R_reads' HO_4.out).2.2 3 p218 q218
        cases e218
        (try simp only [show (3 : Int).toNat = 3 from rfl, Nat.reduceMul, Nat.reduceEqDiff, Go.Addr.add, ↓reduceIte] at hx218_0)
        have qi218 : (3 < x4_3.length) = True := eq_true (by omega)
        (try rw [show ((3 : Int)).toNat = 3 from rfl] at hx218_0)
        replace p218 := eq_true p218
        replace q218 := eq_true q218
        have p33 : 0 ≤ (3 : Int) := (by omega)
        have q33 : (3 : Int) < ((x4_3.length : Int) : Int) := of_decide_eq_true (by first | (with_reducible assumption) | assumption)
        have qi33 : (3 < x4_3.length) = True := eq_true (by omega)
        obtain ⟨go33, co33, eo33, gb33, gl33, cl33, HG33⟩ := Kd.R_form HO_4.out (by omega)
        (first | cases eo33 | (injection eo33 with ea_ en_ ec_; (first | subst ea_ | (injection ea_ with ea_; subst ea_)); subst ec_; clear en_))
        have GB33 := Aside0.mk gb33
        have GG33 := Aside0.mk HG33
        clear gb33 gl33 HG33
        (first | simp only [add_plain] at hx218_0 | skip)
        obtain ⟨hx33_0, hf33_0⟩ := Kd.R_celln 0 HO_4.out (3 : Int) p33 q33
        (try rw [show ((3 : Int)).toNat = 3 from rfl] at hx33_0)
        (try simp only [Nat.reduceMul, Nat.zero_mul, Nat.zero_add, Nat.reduceAdd] at hx33_0)
        (try rw [show ((3 : Int)).toNat = 3 from rfl] at hf33_0)
        (try simp only [Nat.reduceMul, Nat.zero_mul, Nat.zero_add, Nat.reduceAdd] at hf33_0)
        replace p33 := eq_true p33
        replace q33 := eq_true q33
        have HP35 := Kd.R_putg HO_4.out (3 : Int) (((rd x4_3 3) + 48) % 256)
        go_wp2_with (first | ((with_reducible refine gate_store (t := 5) (p := 35) rfl ?_); refine store_event (t := 5) (p := 35) (v := ?vo_w36) (w1 := (wc.setCell ⟨go33, (3 : Int).toNat, none⟩ (.int .u8 (((rd x4_3 3) + 48) % 256)))) ?hg ?ho ?hn ?hr ?_; (case ho => rfl); (case hg => rfl); (case hn => rfl); (case hr => first | (go_simp; done) | (go_simp; rfl)); intro w36 hw; have hg : wc.grownBy w36 (some go33) := (by rw [hw]; exact HP35.2); have hp_ : Kd.R (Kd.int .u8) 5 w36 w.heap.size (fun _ => True) (.slice (some ⟨go33, 0, none⟩) x4_3.length co34) y219 := (by rw [hw, Ny219.out]; exact HP35.1); clear HP35; have n0_ := Aside0.mk (hp_); have n1_ := Aside0.mk (blk_grown (g := gb207) (o := .cells #[.int .i64 a0_0, .int .i64 a0_1, .bool a0_2, .int .i64 a0_3, .slice A0_4 l0_4.length c0_4] 24 (0, 0)) (by (with_reducible repeat (first | refine yN ?_ _ | refine yD ?_ | refine yA ?_ _)); exact BK207.out) hg (Kd.R_ne HO_4.out BK207.out (by decide))); have n2_ := Aside0.mk ((by rw [hw]; exact zP (HB.out) GB33.out : Below w.heap.size w w36)); clear HO_4; clear BK207; clear HB; have HO_4 := n0_; have BK207 := n1_; have HB := n2_; clear n0_ n1_ n2_; clear hg hw hp_))
        go_meet
        case rel => exact ⟨_, (y219), H', ⟨by have := HJ3.out; first | omega | exact Nat.le_refl _⟩, ⟨by (with_reducible repeat (first | apply Kd.R_alloc | apply Kd.R_drewN | apply Kd.R_drew)); exact HO_4.out⟩, ⟨by (with_reducible repeat (first | refine yN ?_ _ | refine yD ?_ | refine yA ?_ _)); exact BK207.out⟩, ⟨by repeat (first | (with_reducible first | exact HB.out | apply zA | apply zN | apply zD | refine zP ?_ GE207.out) | exact HB.out)⟩⟩
       ·rw [if_neg c32] at H
        exact absurd H (by simp)
    case rest =>
     clear HC18
     (try clear c1);(try clear p1);(try clear q1);(try clear hx1);(try clear qi1);(try clear hf1);(try clear c2);(try clear p2);(try clear q2);(try clear hx2);(try clear qi2);(try clear hf2);(try clear c3);(try clear p3);(try clear q3);(try clear hx3);(try clear qi3);(try clear hf3);(try clear c12);(try clear c13);(try clear c13b0);(try clear c13b1);(try clear p14);(try clear q14);(try clear hx14);(try clear qi14);(try clear hf14);(try clear c20);(try clear c20b0);(try clear c20b1);(try clear c21);(try clear c21b0);(try clear c21b1);(try clear p21);(try clear q21);(try clear hx21);(try clear qi21);(try clear p22);(try clear q22);(try clear hx22);(try clear qi22);(try clear hf22);(try clear c26);(try clear c26b0);(try clear c26b1);(try clear c26b2);(try clear c27);(try clear c27b0);(try clear c27b1);(try clear p28);(try clear q28);(try clear hx28);(try clear qi28);(try clear hf28);(try clear c32)
     (try clear c32b0);(try clear c32b1);(try clear p33);(try clear q33);(try clear hx33);(try clear qi33);(try clear hf33);(try clear c35);(try clear hcz11_0);(try clear hcz11_1);(try clear hcz11_2);(try clear hcz11_3);(try clear hcz11_4);(try clear hcz19_0);(try clear hcz19_1);(try clear hcz19_2);(try clear hcz19_3);(try clear hcz19_4);(try clear hcz6_0);(try clear hcz6_1);(try clear hcz6_2);(try clear hcz6_3);(try clear hcz6_4);(try clear hcz8_0);(try clear hcz8_1);(try clear hcz8_2);(try clear hcz8_3);(try clear hcz8_4);(try clear hfz11_0);(try clear hfz11_1);(try clear hfz11_2);(try clear hfz11_3);(try clear hfz11_4);(try clear hfz19_0);(try clear hfz19_1);(try clear hfz19_2);(try clear hfz19_3);(try clear hfz19_4);(try clear hfz6_0);(try clear hfz6_1);(try clear hfz6_2);(try clear hfz6_3);(try clear hfz6_4);(try clear hfz8_0);(try clear hfz8_1);(try clear hfz8_2);(try clear hfz8_3)
     (try clear hfz8_4);(try clear hx14_0);(try clear hx212_0);(try clear hx214_0);(try clear hx216_0);(try clear hx218_0);(try clear hx22_0);(try clear hx28_0);(try clear hx33_0);(try clear p1);(try clear p14);(try clear p2);(try clear p212);(try clear p214);(try clear p216);(try clear p218);(try clear p22);(try clear p28);(try clear p33);(try clear q1);(try clear q14);(try clear q2);(try clear q212);(try clear q214);(try clear q216);(try clear q218);(try clear q22);(try clear q28);(try clear q33)
     obtain ⟨kq, x4_17, HA, HJ17, HO_4, BK207, HB⟩ := hcut
     cases kq with
     | zero => exact absurd HA.out (by simp [cutroomref17_Put.j1])
     | succ kj17 =>
      have H := HA.out
      clear HA
      simp only [cutroomref17_Put.j1] at H
      have HC37 := Aside0.mk H
      clear H
      go_upto_if 51 with (fail)
      go_cut [4] (fun v4 wc => ∃ (kq : Nat) (x4_36 : List Int), Aside0 (cutroomref17_Put.j2 kq x4_36 (l0_4.length : Int) a0_0 a0_1 a0_2 a0_3 l0_4 = some (r1, r2)) ∧ Aside0 (kq ≤ kj17) ∧ Aside0 (Kd.R (Kd.int .u8) 5 wc w.heap.size (fun _ => True) v4 x4_36) ∧ Aside0 (wc.heap[gb207]? = some (.cells #[.int .i64 a0_0, .int .i64 a0_1, .bool a0_2, .int .i64 a0_3, (.slice A0_4 l0_4.length c0_4)] 24 (0, 0))) ∧ Aside0 (Below w.heap.size w wc))
      case first =>
       have H := HC37.out
       clear HC37
       by_cases c38 : (l0_4.length : Int) < 184
       ·rw [if_pos c38] at H
        have c38b0 : decide ((l0_4.length : Int) < 184) = true := decide_eq_true c38
        have c38b1 : decide (l0_4.length < 184) = true := decide_eq_true (by omega)
        clear c38
        (first | rw [c38b0] | (simp only [i64_w, i32_w]; rw [c38b0]) | skip)
        by_cases c39 : x4_17.length < 140737488355328
        ·rw [if_pos c39] at H
         have LMc39 := Aside0.mk c39
         clear c39
         obtain ⟨y220, hy220⟩ : ∃ y_ : List Int, y_ = (x4_17 ++ [(wrap64 (183 - (l0_4.length : Int))) % 256]) := ⟨_, rfl⟩
         replace H : (cutroomref17_Put.j2 kj17 y220 (l0_4.length : Int) a0_0 a0_1 a0_2 a0_3 l0_4) = some (r1, r2) := by first | (rw [hy220]; with_reducible exact H) | (have H2_ := (Option.bind_some _ _).symm.trans H; rw [hy220]; with_reducible exact H2_) | (have H2_ := (Option.bind_some _ _).symm.trans H; with_reducible exact H2_) | with_reducible exact H | (rw [hy220]; exact H) | exact H
         have Ny220 := Aside0.mk hy220
         clear hy220
         have H' := Aside0.mk H
         clear H
         go_wp2_with (first | ((with_reducible refine gate_builtin (b := .append) (xs := #[.tmp 52, .tmp 56]) rfl ?_); at_builtin; refine Kd.R_append (Kd.int .u8) (w0 := w) w.heap.size rfl (.tmp 52) (.tmp 56) 22 5 (.int .u8 0) 1 rfl Try.underlying22 info5 rfl (by decide) (by omega) v210 x4_17 ((wrap64 (183 - (l0_4.length : Int))) % 256) [.int .u8 ((wrap64 (183 - (l0_4.length : Int))) % 256)] (fun _ => True) (fun _ => False) rfl rfl ?aP (fun _ hk => hk.elim) ?aF ?aO ?aB ?aS ?aL ?_; (case aP => exact rfl); (case aB => exact (by repeat (first | (with_reducible first | exact HB.out | apply zA | apply zN | apply zD | refine zP ?_ GE207.out) | exact HB.out))); (case aF => exact (fun _ _ => trivial)); (case aO => exact (by (with_reducible repeat (first | apply Kd.R_alloc | apply Kd.R_drewN | apply Kd.R_drew)); exact HO_4.out)); (case aS => exact (zS (by repeat (first | (with_reducible first | exact HB.out | apply zA | apply zN | apply zD | refine zP ?_ GE207.out) | exact HB.out)))); (case aL => have := LMc39.out; omega); intro v221 w40 ho hb hg hat; rw [← Ny220.out] at ho; have n0_ := Aside0.mk (blk_grown (g := gb207) (o := .cells #[.int .i64 a0_0, .int .i64 a0_1, .bool a0_2, .int .i64 a0_3, .slice A0_4 l0_4.length c0_4] 24 (0, 0)) (by (with_reducible repeat (first | refine yN ?_ _ | refine yD ?_ | refine yA ?_ _)); exact BK207.out) hg (Kd.R_ne HO_4.out BK207.out (by decide))); have n1_ := Aside0.mk (hb); have n2_ := Aside0.mk (ho); clear BK207; clear HB; clear HO_4; have BK207 := n0_; have HB := n1_; have HO222 := n2_; clear n0_ n1_ n2_; clear ho hb hg hat))
         go_meet
         case rel => exact ⟨_, (y220), H', ⟨by have := HJ3.out; have := HJ17.out; first | omega | exact Nat.le_refl _⟩, ⟨by (with_reducible repeat (first | apply Kd.R_alloc | apply Kd.R_drewN | apply Kd.R_drew)); exact HO222.out⟩, ⟨by (with_reducible repeat (first | refine yN ?_ _ | refine yD ?_ | refine yA ?_ _)); exact BK207.out⟩, ⟨by repeat (first | (with_reducible first | exact HB.out | apply zA | apply zN | apply zD | refine zP ?_ GE207.out) | exact HB.out)⟩⟩
        ·rw [if_neg c39] at H
         exact absurd H (by simp)
       ·rw [if_neg c38] at H
        have c38b0 : decide ((l0_4.length : Int) < 184) = false := decide_eq_false c38
        have c38b1 : decide (l0_4.length < 184) = false := decide_eq_false (by omega)
        clear c38
        (first | rw [c38b0] | (simp only [i64_w, i32_w]; rw [c38b0]) | skip)
        have H' := Aside0.mk H
        clear H
        go_wp2
        go_meet
        case rel => exact ⟨_, (x4_17), H', ⟨by have := HJ3.out; have := HJ17.out; first | omega | exact Nat.le_refl _⟩, ⟨by (with_reducible repeat (first | apply Kd.R_alloc | apply Kd.R_drewN | apply Kd.R_drew)); exact HO_4.out⟩, ⟨by (with_reducible repeat (first | refine yN ?_ _ | refine yD ?_ | refine yA ?_ _)); exact BK207.out⟩, ⟨by repeat (first | (with_reducible first | exact HB.out | apply zA | apply zN | apply zD | refine zP ?_ GE207.out) | exact HB.out)⟩⟩
      case rest =>
       clear HC37
       (try clear c1);(try clear p1);(try clear q1);(try clear hx1);(try clear qi1);(try clear hf1);(try clear c2);(try clear p2);(try clear q2);(try clear hx2);(try clear qi2);(try clear hf2);(try clear c3);(try clear p3);(try clear q3);(try clear hx3);(try clear qi3);(try clear hf3);(try clear p6);(try clear c12);(try clear c13);(try clear c13b0);(try clear c13b1);(try clear p14);(try clear q14);(try clear hx14);(try clear qi14);(try clear hf14);(try clear c20);(try clear c20b0);(try clear c20b1);(try clear c21);(try clear c21b0);(try clear c21b1);(try clear p21);(try clear q21);(try clear hx21);(try clear qi21);(try clear p22);(try clear q22);(try clear hx22);(try clear qi22);(try clear hf22);(try clear c26);(try clear c26b0);(try clear c26b1);(try clear c26b2);(try clear c27);(try clear c27b0);(try clear c27b1);(try clear p28);(try clear q28);(try clear hx28);(try clear qi28);(try clear hf28)
       (try clear c32);(try clear c32b0);(try clear c32b1);(try clear p33);(try clear q33);(try clear hx33);(try clear qi33);(try clear hf33);(try clear c35);(try clear c38);(try clear c38b0);(try clear c38b1);(try clear c39);(try clear hcz11_0);(try clear hcz11_1);(try clear hcz11_2);(try clear hcz11_3);(try clear hcz11_4);(try clear hcz19_0);(try clear hcz19_1);(try clear hcz19_2);(try clear hcz19_3);(try clear hcz19_4);(try clear hcz6_0);(try clear hcz6_1);(try clear hcz6_2);(try clear hcz6_3);(try clear hcz6_4);(try clear hcz8_0);(try clear hcz8_1);(try clear hcz8_2);(try clear hcz8_3);(try clear hcz8_4);(try clear hfz11_0);(try clear hfz11_1);(try clear hfz11_2);(try clear hfz11_3);(try clear hfz11_4);(try clear hfz19_0);(try clear hfz19_1);(try clear hfz19_2);(try clear hfz19_3);(try clear hfz19_4);(try clear hfz6_0);(try clear hfz6_1);(try clear hfz6_2);(try clear hfz6_3);(try clear hfz6_4)
       (try clear hfz8_0);(try clear hfz8_1);(try clear hfz8_2);(try clear hfz8_3);(try clear hfz8_4);(try clear hx14_0);(try clear hx212_0);(try clear hx214_0);(try clear hx216_0);(try clear hx218_0);(try clear hx22_0);(try clear hx28_0);(try clear hx33_0);(try clear p1);(try clear p14);(try clear p2);(try clear p21);(try clear p212);(try clear p214);(try clear p216);(try clear p218);(try clear p22);(try clear p28);(try clear p3);(try clear p33);(try clear q1);(try clear q14);(try clear q2);(try clear q21);(try clear q212);(try clear q214);(try clear q216);(try clear q218);(try clear q22);(try clear q28);(try clear q3);(try clear q33)
       obtain ⟨kq, x4_36, HA, HJ36, HO_4, BK207, HB⟩ := hcut
       cases kq with
       | zero => exact absurd HA.out (by simp [cutroomref17_Put.j2])
       | succ kj36 =>
        have H := HA.out
        clear HA
        simp only [cutroomref17_Put.j2] at H
        by_cases c41 : (l0_4.length : Int) < 183
        ·rw [if_pos c41] at H
         have c41b0 : decide ((l0_4.length : Int) < 183) = true := decide_eq_true c41
         have c41b1 : decide (l0_4.length < 183) = true := decide_eq_true (by omega)
         clear c41
         replace H := Option.bind_eq_some_iff.mp H
         obtain ⟨t223, A420, H⟩ := H
         replace H : (if x4_36.length + t223.length < 140737488355328 then (cutroomref17_Put.l0 kj36 (x4_36 ++ t223) (l0_4.length : Int) a0_0 a0_1 a0_2 a0_3 l0_4) else (none)) = some (r1, r2) := H
         have A42 := Aside0.mk A420
         clear A420
         by_cases c43 : x4_36.length + t223.length < 140737488355328
         ·rw [if_pos c43] at H
          have LMc43 := Aside0.mk c43
          clear c43
          obtain ⟨y226, hy226⟩ : ∃ y_ : List Int, y_ = (x4_36 ++ t223) := ⟨_, rfl⟩
          replace H : (cutroomref17_Put.l0 kj36 y226 (l0_4.length : Int) a0_0 a0_1 a0_2 a0_3 l0_4) = some (r1, r2) := by first | (rw [hy226]; with_reducible exact H) | (have H2_ := (Option.bind_some _ _).symm.trans H; rw [hy226]; with_reducible exact H2_) | (have H2_ := (Option.bind_some _ _).symm.trans H; with_reducible exact H2_) | with_reducible exact H | (rw [hy226]; exact H) | exact H
          have Ny226 := Aside0.mk hy226
          clear hy226
          have H' := Aside0.mk H
          clear H
          have hcz44_0 : wc.cell? ⟨gb207, 0, none⟩ = some (.int .i64 a0_0) := (blk_cell BK207.out 0).trans rfl
          have hcz44_1 : wc.cell? ⟨gb207, 1, none⟩ = some (.int .i64 a0_1) := (blk_cell BK207.out 1).trans rfl
          have hcz44_2 : wc.cell? ⟨gb207, 2, none⟩ = some (.bool a0_2) := (blk_cell BK207.out 2).trans rfl
          have hcz44_3 : wc.cell? ⟨gb207, 3, none⟩ = some (.int .i64 a0_3) := (blk_cell BK207.out 3).trans rfl
          have hcz44_4 : wc.cell? ⟨gb207, 4, none⟩ = some (.slice A0_4 l0_4.length c0_4) := (blk_cell BK207.out 4).trans rfl
          have hfz44_0 := blk_frozen BK207.out 0
          have hfz44_1 := blk_frozen BK207.out 1
          have hfz44_2 := blk_frozen BK207.out 2
          have hfz44_3 := blk_frozen BK207.out 3
          have hfz44_4 := blk_frozen BK207.out 4
          go_wp2_with (first | ((with_reducible refine xC (f := 36) rfl ?_); refine goesL_ (some 63) rfl rfl Try.func36 (by kernel_rfl) rfl #[.int .i64 a0_3] rfl (by (try simp only [List.map_toArray, List.map_cons, List.map_nil]); first | done | rfl | (simp only [List.length_drop, List.length_take]; rfl)) ?_; (with_reducible refine (cutroomref17_adaptation.calls kj36 a0_3 t223 _ A42.out).mono ?_); rintro e w45 ⟨v224, rfl, ho0, hb⟩; refine ⟨_, rfl, ?_⟩; have n0_ := Aside0.mk (Kd.R_elder' (by (with_reducible repeat (first | apply Kd.R_alloc | apply Kd.R_drewN | apply Kd.R_drew)); exact HO_4.out) (Kd.R_base ho0) hb); have n1_ := Aside0.mk (Kd.R_lower (Kd.R_new' ho0 (Kd.R_lt (by (with_reducible repeat (first | apply Kd.R_alloc | apply Kd.R_drewN | apply Kd.R_drew)); exact HO_4.out))) (zS (by repeat (first | (with_reducible first | exact HB.out | apply zA | apply zN | apply zD | refine zP ?_ GE207.out) | exact HB.out)))); have n2_ := Aside0.mk (yB (g := gb207) (o := .cells #[.int .i64 a0_0, .int .i64 a0_1, .bool a0_2, .int .i64 a0_3, .slice A0_4 l0_4.length c0_4] 24 (0, 0)) (by (with_reducible repeat (first | refine yN ?_ _ | refine yD ?_ | refine yA ?_ _)); exact BK207.out) hb); have n3_ := Aside0.mk (zT (by repeat (first | (with_reducible first | exact HB.out | apply zA | apply zN | apply zD | refine zP ?_ GE207.out) | exact HB.out)) hb); clear HO_4; clear BK207; clear HB; have HO_4 := n0_; have HO225 := n1_; have BK207 := n2_; have HB := n3_; clear n0_ n1_ n2_ n3_; (try clear hb); (try clear hb2); (try clear hk); (try clear hi); (try clear ho0); obtain ⟨Ao47, co47, eo47⟩ := Kd.R_slice HO225.out; subst eo47) | ((with_reducible refine gate_builtin (b := .append) (xs := #[.tmp 60, .tmp 63]) rfl ?_); at_builtin; refine Kd.R_append_rows (Kd.int .u8) (w0 := w) w.heap.size rfl (.tmp 60) (.tmp 63) 22 5 (.int .u8 0) 1 rfl Try.underlying22 info5 rfl (by decide) (by omega) u4 x4_36 t223 _ _ _ (fun k_ => some k_ ≠ (.slice Ao47 t223.length co47 : Value).ownBlock) (fun _ => False) rfl rfl ?aO ?aR (fun _ _ h => h) (fun _ h => h.elim) ?aF ?aB ?aS ?aL ?_; (case aR => repeat (first | exact (Kd.R_reads' HO225.out).2.2 | (with_reducible refine Kd.C_alloc ?_ _) | (with_reducible refine Kd.C_drewN ?_ _) | (with_reducible refine Kd.C_drew ?_))); (case aB => exact (by repeat (first | (with_reducible first | exact HB.out | apply zA | apply zN | apply zD | refine zP ?_ GE207.out) | exact HB.out))); (case aF => exact (fun k_ hk => Kd.fresh' (Kd.R_lt (by (with_reducible repeat (first | apply Kd.R_alloc | apply Kd.R_drewN | apply Kd.R_drew)); exact HO225.out)) k_ hk)); (case aO => exact (by (with_reducible repeat (first | apply Kd.R_alloc | apply Kd.R_drewN | apply Kd.R_drew)); exact Kd.R_mono HO_4.out (fun _ hk => hk.2))); (case aS => exact (zS (by repeat (first | (with_reducible first | exact HB.out | apply zA | apply zN | apply zD | refine zP ?_ GE207.out) | exact HB.out)))); (case aL => have := LMc43.out; omega); intro v227 w46 ho hb hg hat; rw [← Ny226.out] at ho; have n0_ := Aside0.mk (blk_grown (g := gb207) (o := .cells #[.int .i64 a0_0, .int .i64 a0_1, .bool a0_2, .int .i64 a0_3, .slice A0_4 l0_4.length c0_4] 24 (0, 0)) (by (with_reducible repeat (first | refine yN ?_ _ | refine yD ?_ | refine yA ?_ _)); exact BK207.out) hg (Kd.R_ne HO_4.out BK207.out (by decide))); have n1_ := Aside0.mk (Kd.R_after (ok := (fun _ => True)) (by (with_reducible repeat (first | apply Kd.R_alloc | apply Kd.R_drewN | apply Kd.R_drew)); exact HO225.out) hg hat); have n2_ := Aside0.mk (hb); have n3_ := Aside0.mk (ho); clear BK207; clear HO225; clear HB; clear HO_4; have BK207 := n0_; have HO225 := n1_; have HB := n2_; have HO228 := n3_; clear n0_ n1_ n2_ n3_; clear ho hb hg hat))
          go_loopg [4] kj36 (fun kq v4 w' => ∃ (x4_4 : List Int), Aside0 (cutroomref17_Put.l0 kq x4_4 (l0_4.length : Int) a0_0 a0_1 a0_2 a0_3 l0_4 = some (r1, r2)) ∧ Aside0 (kq ≤ kj36) ∧ Aside0 (Kd.R (Kd.int .u8) 5 w' w.heap.size (fun _ => True) v4 x4_4) ∧ Aside0 (w'.heap[gb207]? = some (.cells #[.int .i64 a0_0, .int .i64 a0_1, .bool a0_2, .int .i64 a0_3, (.slice A0_4 l0_4.length c0_4)] 24 (0, 0))) ∧ Aside0 (Below w.heap.size w w'))
          case atStart => exact ⟨(y226), H', ⟨Nat.le_refl _⟩, ⟨by (with_reducible repeat (first | apply Kd.R_alloc | apply Kd.R_drewN | apply Kd.R_drew)); exact Kd.R_mono HO228.out (fun _ hk => trivial)⟩, ⟨by (with_reducible repeat (first | refine yN ?_ _ | refine yD ?_ | refine yA ?_ _)); exact BK207.out⟩, ⟨by repeat (first | (with_reducible first | exact HB.out | apply zA | apply zN | apply zD | refine zP ?_ GE207.out) | exact HB.out)⟩⟩
          case round =>
           clear H'
           (try clear c1);(try clear p1);(try clear q1);(try clear hx1);(try clear qi1);(try clear hf1);(try clear c2);(try clear p2);(try clear q2);(try clear hx2);(try clear qi2);(try clear hf2);(try clear c3);(try clear p3);(try clear q3);(try clear hx3);(try clear qi3);(try clear hf3);(try clear c4);(try clear p6);(try clear c12);(try clear c13);(try clear c13b0);(try clear c13b1);(try clear p14);(try clear q14);(try clear hx14);(try clear qi14);(try clear hf14);(try clear c20);(try clear c20b0);(try clear c20b1);(try clear c21);(try clear c21b0);(try clear c21b1);(try clear p21);(try clear q21);(try clear hx21);(try clear qi21);(try clear p22);(try clear q22);(try clear hx22);(try clear qi22);(try clear hf22);(try clear c26);(try clear c26b0);(try clear c26b1);(try clear c26b2);(try clear c27);(try clear c27b0);(try clear c27b1);(try clear p28);(try clear q28);(try clear hx28)
           (try clear qi28);(try clear hf28);(try clear c32);(try clear c32b0);(try clear c32b1);(try clear p33);(try clear q33);(try clear hx33);(try clear qi33);(try clear hf33);(try clear c35);(try clear c36);(try clear c38);(try clear c38b0);(try clear c38b1);(try clear c39);(try clear c41);(try clear c41b0);(try clear c41b1);(try clear c43);(try clear hcz11_0);(try clear hcz11_1);(try clear hcz11_2);(try clear hcz11_3);(try clear hcz11_4);(try clear hcz19_0);(try clear hcz19_1);(try clear hcz19_2);(try clear hcz19_3);(try clear hcz19_4);(try clear hcz44_0);(try clear hcz44_1);(try clear hcz44_2);(try clear hcz44_3);(try clear hcz44_4);(try clear hcz6_0);(try clear hcz6_1);(try clear hcz6_2);(try clear hcz6_3);(try clear hcz6_4);(try clear hcz8_0);(try clear hcz8_1);(try clear hcz8_2);(try clear hcz8_3);(try clear hcz8_4);(try clear hfz11_0);(try clear hfz11_1);(try clear hfz11_2)
           (try clear hfz11_3);(try clear hfz11_4);(try clear hfz19_0);(try clear hfz19_1);(try clear hfz19_2);(try clear hfz19_3);(try clear hfz19_4);(try clear hfz44_0);(try clear hfz44_1);(try clear hfz44_2);(try clear hfz44_3);(try clear hfz44_4);(try clear hfz6_0);(try clear hfz6_1);(try clear hfz6_2);(try clear hfz6_3);(try clear hfz6_4);(try clear hfz8_0);(try clear hfz8_1);(try clear hfz8_2);(try clear hfz8_3);(try clear hfz8_4);(try clear hx14_0);(try clear hx212_0);(try clear hx214_0);(try clear hx216_0);(try clear hx218_0);(try clear hx22_0);(try clear hx28_0);(try clear hx33_0);(try clear p1);(try clear p14);(try clear p2);(try clear p21);(try clear p212);(try clear p214);(try clear p216);(try clear p218);(try clear p22);(try clear p28);(try clear p3);(try clear p33);(try clear p6);(try clear q1);(try clear q14);(try clear q2);(try clear q21);(try clear q212);(try clear q214)
           (try clear q216);(try clear q218);(try clear q22);(try clear q28);(try clear q3);(try clear q33)
           obtain ⟨x4_4, HA, HK4, HO_4, BK207, HB⟩ := hrel
           cases gk with
           | zero => exact absurd HA.out (by simp [cutroomref17_Put.l0])
           | succ k4 =>
            have H := HA.out
            clear HA
            simp only [cutroomref17_Put.l0] at H
            by_cases c48 : (x4_4.length : Int) < (wrap64 (188 - (l0_4.length : Int)))
            ·rw [if_pos c48] at H
             have c48b0 : decide ((x4_4.length : Int) < (wrap64 (188 - (l0_4.length : Int)))) = true := decide_eq_true c48
             clear c48
             by_cases c49 : x4_4.length < 140737488355328
             ·rw [if_pos c49] at H
              have LMc49 := Aside0.mk c49
              clear c49
              obtain ⟨y229, hy229⟩ : ∃ y_ : List Int, y_ = (x4_4 ++ [255]) := ⟨_, rfl⟩
              replace H : (cutroomref17_Put.l0 k4 y229 (l0_4.length : Int) a0_0 a0_1 a0_2 a0_3 l0_4) = some (r1, r2) := by first | (rw [hy229]; with_reducible exact H) | (have H2_ := (Option.bind_some _ _).symm.trans H; rw [hy229]; with_reducible exact H2_) | (have H2_ := (Option.bind_some _ _).symm.trans H; with_reducible exact H2_) | with_reducible exact H | (rw [hy229]; exact H) | exact H
              have Ny229 := Aside0.mk hy229
              clear hy229
              have H' := Aside0.mk H
              clear H
              obtain ⟨Ao50, co50, eo50⟩ := Kd.R_slice HO_4.out
              subst eo50
              go_wp2_with (first | ((with_reducible refine gate_builtin (b := .append) (xs := #[.tmp 70, .tmp 71]) rfl ?_); at_builtin; refine Kd.R_append (Kd.int .u8) (w0 := w) w.heap.size rfl (.tmp 70) (.tmp 71) 22 5 (.int .u8 0) 1 rfl Try.underlying22 info5 rfl (by decide) (by omega) (.slice Ao50 x4_4.length co50) x4_4 255 [.int .u8 255] (fun _ => True) (fun _ => False) rfl rfl ?aP (fun _ hk => hk.elim) ?aF ?aO ?aB ?aS ?aL ?_; (case aP => exact rfl); (case aB => exact (by repeat (first | (with_reducible first | exact HB.out | apply zA | apply zN | apply zD | refine zP ?_ GE207.out) | exact HB.out))); (case aF => exact (fun _ _ => trivial)); (case aO => exact (by (with_reducible repeat (first | apply Kd.R_alloc | apply Kd.R_drewN | apply Kd.R_drew)); exact HO_4.out)); (case aS => exact (zS (by repeat (first | (with_reducible first | exact HB.out | apply zA | apply zN | apply zD | refine zP ?_ GE207.out) | exact HB.out)))); (case aL => have := LMc49.out; omega); intro v230 w51 ho hb hg hat; rw [← Ny229.out] at ho; have n0_ := Aside0.mk (blk_grown (g := gb207) (o := .cells #[.int .i64 a0_0, .int .i64 a0_1, .bool a0_2, .int .i64 a0_3, .slice A0_4 l0_4.length c0_4] 24 (0, 0)) (by (with_reducible repeat (first | refine yN ?_ _ | refine yD ?_ | refine yA ?_ _)); exact BK207.out) hg (Kd.R_ne HO_4.out BK207.out (by decide))); have n1_ := Aside0.mk (hb); have n2_ := Aside0.mk (ho); clear BK207; clear HB; clear HO_4; have BK207 := n0_; have HB := n1_; have HO231 := n2_; clear n0_ n1_ n2_; clear ho hb hg hat))
              go_roundg k4
              case measure => have := HJ3.out; have := HJ17.out; have := HJ36.out; have := HK4.out; omega
              case rel => exact ⟨(y229), H', ⟨by have := HJ3.out; have := HJ17.out; have := HJ36.out; have := HK4.out; omega⟩, ⟨by (with_reducible repeat (first | apply Kd.R_alloc | apply Kd.R_drewN | apply Kd.R_drew)); exact HO231.out⟩, ⟨by (with_reducible repeat (first | refine yN ?_ _ | refine yD ?_ | refine yA ?_ _)); exact BK207.out⟩, ⟨by repeat (first | (with_reducible first | exact HB.out | apply zA | apply zN | apply zD | refine zP ?_ GE207.out) | exact HB.out)⟩⟩
             ·rw [if_neg c49] at H
              exact absurd H (by simp)
            ·rw [if_neg c48] at H
             have c48b0 : decide ((x4_4.length : Int) < (wrap64 (188 - (l0_4.length : Int)))) = false := decide_eq_false c48
             clear c48
             by_cases c52 : x4_4.length + l0_4.length < 140737488355328
             ·rw [if_pos c52] at H
              have LMc52 := Aside0.mk c52
              clear c52
              obtain ⟨y232, hy232⟩ : ∃ y_ : List Int, y_ = (x4_4 ++ l0_4) := ⟨_, rfl⟩
              replace H : (some (y232, 0)) = some (r1, r2) := by first | (rw [hy232]; with_reducible exact H) | (have H2_ := (Option.bind_some _ _).symm.trans H; rw [hy232]; with_reducible exact H2_) | (have H2_ := (Option.bind_some _ _).symm.trans H; with_reducible exact H2_) | with_reducible exact H | (rw [hy232]; exact H) | exact H
              have Ny232 := Aside0.mk hy232
              clear hy232
              simp only [Option.some.injEq, Prod.mk.injEq] at H
              obtain ⟨rfl, rfl⟩ := H
              obtain ⟨Ao53, co53, eo53⟩ := Kd.R_slice HO_4.out
              subst eo53
              have hcz54_0 : wr.cell? ⟨gb207, 0, none⟩ = some (.int .i64 a0_0) := (blk_cell BK207.out 0).trans rfl
              have hcz54_1 : wr.cell? ⟨gb207, 1, none⟩ = some (.int .i64 a0_1) := (blk_cell BK207.out 1).trans rfl
              have hcz54_2 : wr.cell? ⟨gb207, 2, none⟩ = some (.bool a0_2) := (blk_cell BK207.out 2).trans rfl
              have hcz54_3 : wr.cell? ⟨gb207, 3, none⟩ = some (.int .i64 a0_3) := (blk_cell BK207.out 3).trans rfl
              have hcz54_4 : wr.cell? ⟨gb207, 4, none⟩ = some (.slice A0_4 l0_4.length c0_4) := (blk_cell BK207.out 4).trans rfl
              have hfz54_0 := blk_frozen BK207.out 0
              have hfz54_1 := blk_frozen BK207.out 1
              have hfz54_2 := blk_frozen BK207.out 2
              have hfz54_3 := blk_frozen BK207.out 3
              have hfz54_4 := blk_frozen BK207.out 4
              go_wp2_with (first | ((with_reducible refine gate_builtin (b := .append) (xs := #[.tmp 73, .tmp 75]) rfl ?_); at_builtin; refine Kd.R_append_rows (Kd.int .u8) (w0 := w) w.heap.size rfl (.tmp 73) (.tmp 75) 22 5 (.int .u8 0) 1 rfl Try.underlying22 info5 rfl (by decide) (by omega) (.slice Ao53 x4_4.length co53) x4_4 l0_4 _ _ _ (fun _ => True) (fun _ => False) rfl rfl ?aO ?aR (fun _ _ h => h) (fun _ h => h.elim) ?aF ?aB ?aS ?aL ?_; (case aR => repeat (first | exact (Kd.C_below HR0_4.out HB.out) | (with_reducible refine Kd.C_alloc ?_ _) | (with_reducible refine Kd.C_drewN ?_ _) | (with_reducible refine Kd.C_drew ?_))); (case aB => exact (by repeat (first | (with_reducible first | exact HB.out | apply zA | apply zN | apply zD | refine zP ?_ GE207.out) | exact HB.out))); (case aF => exact (fun _ _ => trivial)); (case aO => exact (by (with_reducible repeat (first | apply Kd.R_alloc | apply Kd.R_drewN | apply Kd.R_drew)); exact HO_4.out)); (case aS => exact (zS (by repeat (first | (with_reducible first | exact HB.out | apply zA | apply zN | apply zD | refine zP ?_ GE207.out) | exact HB.out)))); (case aL => have := LMc52.out; omega); intro v233 w55 ho hb hg hat; rw [← Ny232.out] at ho; have n0_ := Aside0.mk (blk_grown (g := gb207) (o := .cells #[.int .i64 a0_0, .int .i64 a0_1, .bool a0_2, .int .i64 a0_3, .slice A0_4 l0_4.length c0_4] 24 (0, 0)) (by (with_reducible repeat (first | refine yN ?_ _ | refine yD ?_ | refine yA ?_ _)); exact BK207.out) hg (Kd.R_ne HO_4.out BK207.out (by decide))); have n1_ := Aside0.mk (hb); have n2_ := Aside0.mk (ho); clear BK207; clear HB; clear HO_4; have BK207 := n0_; have HB := n1_; have HO234 := n2_; clear n0_ n1_ n2_; clear ho hb hg hat))
              go_ret2
              exact ⟨_, by first | rfl | (simp [errW_none, errW_some] <;> rfl) | (simp [*, errW_none, errW_some] <;> rfl), by (with_reducible repeat (first | apply Kd.R_alloc | apply Kd.R_drewN | apply Kd.R_drew)); exact HO234.out, by repeat (first | (with_reducible first | exact HB.out | apply zA | apply zN | apply zD | refine zP ?_ GE207.out) | exact HB.out)⟩
             ·rw [if_neg c52] at H
              exact absurd H (by simp)
         ·rw [if_neg c43] at H
          exact absurd H (by simp)
        ·rw [if_neg c41] at H
         have c41b0 : decide ((l0_4.length : Int) < 183) = false := decide_eq_false c41
         have c41b1 : decide (l0_4.length < 183) = false := decide_eq_false (by omega)
         clear c41
         by_cases c56 : x4_36.length + l0_4.length < 140737488355328
         ·rw [if_pos c56] at H
          have LMc56 := Aside0.mk c56
          clear c56
          obtain ⟨y235, hy235⟩ : ∃ y_ : List Int, y_ = (x4_36 ++ l0_4) := ⟨_, rfl⟩
          replace H : (some (y235, 0)) = some (r1, r2) := by first | (rw [hy235]; with_reducible exact H) | (have H2_ := (Option.bind_some _ _).symm.trans H; rw [hy235]; with_reducible exact H2_) | (have H2_ := (Option.bind_some _ _).symm.trans H; with_reducible exact H2_) | with_reducible exact H | (rw [hy235]; exact H) | exact H
          have Ny235 := Aside0.mk hy235
          clear hy235
          simp only [Option.some.injEq, Prod.mk.injEq] at H
          obtain ⟨rfl, rfl⟩ := H
          have hcz57_0 : wc.cell? ⟨gb207, 0, none⟩ = some (.int .i64 a0_0) := (blk_cell BK207.out 0).trans rfl
          have hcz57_1 : wc.cell? ⟨gb207, 1, none⟩ = some (.int .i64 a0_1) := (blk_cell BK207.out 1).trans rfl
          have hcz57_2 : wc.cell? ⟨gb207, 2, none⟩ = some (.bool a0_2) := (blk_cell BK207.out 2).trans rfl
          have hcz57_3 : wc.cell? ⟨gb207, 3, none⟩ = some (.int .i64 a0_3) := (blk_cell BK207.out 3).trans rfl
          have hcz57_4 : wc.cell? ⟨gb207, 4, none⟩ = some (.slice A0_4 l0_4.length c0_4) := (blk_cell BK207.out 4).trans rfl
          have hfz57_0 := blk_frozen BK207.out 0
          have hfz57_1 := blk_frozen BK207.out 1
          have hfz57_2 := blk_frozen BK207.out 2
          have hfz57_3 := blk_frozen BK207.out 3
          have hfz57_4 := blk_frozen BK207.out 4
          go_wp2_with (first | ((with_reducible refine gate_builtin (b := .append) (xs := #[.tmp 73, .tmp 75]) rfl ?_); at_builtin; refine Kd.R_append_rows (Kd.int .u8) (w0 := w) w.heap.size rfl (.tmp 73) (.tmp 75) 22 5 (.int .u8 0) 1 rfl Try.underlying22 info5 rfl (by decide) (by omega) u4 x4_36 l0_4 _ _ _ (fun _ => True) (fun _ => False) rfl rfl ?aO ?aR (fun _ _ h => h) (fun _ h => h.elim) ?aF ?aB ?aS ?aL ?_; (case aR => repeat (first | exact (Kd.C_below HR0_4.out HB.out) | (with_reducible refine Kd.C_alloc ?_ _) | (with_reducible refine Kd.C_drewN ?_ _) | (with_reducible refine Kd.C_drew ?_))); (case aB => exact (by repeat (first | (with_reducible first | exact HB.out | apply zA | apply zN | apply zD | refine zP ?_ GE207.out) | exact HB.out))); (case aF => exact (fun _ _ => trivial)); (case aO => exact (by (with_reducible repeat (first | apply Kd.R_alloc | apply Kd.R_drewN | apply Kd.R_drew)); exact HO_4.out)); (case aS => exact (zS (by repeat (first | (with_reducible first | exact HB.out | apply zA | apply zN | apply zD | refine zP ?_ GE207.out) | exact HB.out)))); (case aL => have := LMc56.out; omega); intro v236 w58 ho hb hg hat; rw [← Ny235.out] at ho; have n0_ := Aside0.mk (blk_grown (g := gb207) (o := .cells #[.int .i64 a0_0, .int .i64 a0_1, .bool a0_2, .int .i64 a0_3, .slice A0_4 l0_4.length c0_4] 24 (0, 0)) (by (with_reducible repeat (first | refine yN ?_ _ | refine yD ?_ | refine yA ?_ _)); exact BK207.out) hg (Kd.R_ne HO_4.out BK207.out (by decide))); have n1_ := Aside0.mk (hb); have n2_ := Aside0.mk (ho); clear BK207; clear HB; clear HO_4; have BK207 := n0_; have HB := n1_; have HO237 := n2_; clear n0_ n1_ n2_; clear ho hb hg hat))
          go_ret2
          exact ⟨_, by first | rfl | (simp [errW_none, errW_some] <;> rfl) | (simp [*, errW_none, errW_some] <;> rfl), by (with_reducible repeat (first | apply Kd.R_alloc | apply Kd.R_drewN | apply Kd.R_drew)); exact HO237.out, by repeat (first | (with_reducible first | exact HB.out | apply zA | apply zN | apply zD | refine zP ?_ GE207.out) | exact HB.out)⟩
         ·rw [if_neg c56] at H
          exact absurd H (by simp)
 ·replace c3 := Bool.eq_false_iff.mpr c3
  subst c3
  have H1 : (some (([] : List Int), 1)) = some (r1, r2) := by rw [if_neg (show ¬ (false = true) by decide)] at H; exact H
  clear H
  have H := H1
  clear H1
  simp only [Option.some.injEq, Prod.mk.injEq] at H
  obtain ⟨rfl, rfl⟩ := H
  go_enter Try.func13, Try.ntmps13
  go_wp2_with (first | ((with_reducible refine xD (N := 1) rfl ?_); refine box_event ?hg (N := 1) ?hd (cs := #[.int .i64 a0_0, .int .i64 a0_1, .bool a0_2, .int .i64 a0_3, .slice A0_4 l0_4.length c0_4]) (t := 24) ?hr ?_; (case hd => rfl); (case hg => rfl); (case hr => first | (go_simp; done) | (go_simp; rfl)); intro gb207 hg w59 hbox hb; have n0_ := Aside0.mk (zT (by repeat (first | (with_reducible first | exact HB.out | apply zA | apply zN | apply zD) | exact HB.out)) hb); have n1_ := Aside0.mk (hbox); have n2_ := Aside0.mk ((by rw [hg]; exact (zS (by repeat (first | (with_reducible first | exact HB.out | apply zA | apply zN | apply zD) | exact HB.out))) : w.heap.size ≤ gb207)); have n3_ := n2_; clear HB; have HB := n0_; have BK207 := n1_; have GW207 := n2_; have GE207 := n3_; clear n0_ n1_ n2_ n3_; clear hb hbox hg; have hcz60_0 : w59.cell? ⟨gb207, 0, none⟩ = some (.int .i64 a0_0) := (blk_cell BK207.out 0).trans rfl; have hcz60_1 : w59.cell? ⟨gb207, 1, none⟩ = some (.int .i64 a0_1) := (blk_cell BK207.out 1).trans rfl; have hcz60_2 : w59.cell? ⟨gb207, 2, none⟩ = some (.bool a0_2) := (blk_cell BK207.out 2).trans rfl; have hcz60_3 : w59.cell? ⟨gb207, 3, none⟩ = some (.int .i64 a0_3) := (blk_cell BK207.out 3).trans rfl; have hcz60_4 : w59.cell? ⟨gb207, 4, none⟩ = some (.slice A0_4 l0_4.length c0_4) := (blk_cell BK207.out 4).trans rfl; have hfz60_0 := blk_frozen BK207.out 0; have hfz60_1 := blk_frozen BK207.out 1; have hfz60_2 := blk_frozen BK207.out 2; have hfz60_3 := blk_frozen BK207.out 3; have hfz60_4 := blk_frozen BK207.out 4) | ((with_reducible refine xC (f := 35) rfl ?_); refine goesL_ (some 7) rfl rfl Try.func35 (by kernel_rfl) rfl #[.agg #[.int .i64 a0_0, .int .i64 a0_1, .bool a0_2, .int .i64 a0_3, .slice A0_4 l0_4.length c0_4]] rfl (by (try simp only [List.map_toArray, List.map_cons, List.map_nil]); first | done | rfl | (simp only [List.length_drop, List.length_take]; rfl)) ?_; (with_reducible refine (cutroomref17_Valid.calls a0_0 a0_1 a0_2 a0_3 _ _ l0_4 false _ ?side1 ?side2 A2.out).mono ?_); (case side1 => repeat (first | exact (Kd.C_below HR0_4.out HB.out) | (with_reducible refine Kd.C_alloc ?_ _) | (with_reducible refine Kd.C_drewN ?_ _) | (with_reducible refine Kd.C_drew ?_))); (case side2 => exact HC0_4.out); rintro e w61 ⟨rfl, hb⟩; refine ⟨_, rfl, ?_⟩; have n0_ := Aside0.mk (yB (g := gb207) (o := .cells #[.int .i64 a0_0, .int .i64 a0_1, .bool a0_2, .int .i64 a0_3, .slice A0_4 l0_4.length c0_4] 24 (0, 0)) (by (with_reducible repeat (first | refine yN ?_ _ | refine yD ?_ | refine yA ?_ _)); exact BK207.out) hb); have n1_ := Aside0.mk (zT (by repeat (first | (with_reducible first | exact HB.out | apply zA | apply zN | apply zD | refine zP ?_ GE207.out) | exact HB.out)) hb); clear BK207; clear HB; have BK207 := n0_; have HB := n1_; clear n0_ n1_; (try clear hb); (try clear hb2); (try clear hk); (try clear hi)))
  go_ret2
  exact ⟨_, by first | rfl | (simp [errW_none, errW_some] <;> rfl) | (simp [*, errW_none, errW_some] <;> rfl), by first | exact Kd.R_nil _ _ _ _ _ | exact Kd.N_nil _ _ _ _ _ | exact Kd.V_nil _ _ _ _ _ | exact Kd.Q_nil _ _ _ _ _ | exact Kd.S_nil _ _ _ _ _, by repeat (first | (with_reducible first | exact HB.out | apply zA | apply zN | apply zD | refine zP ?_ GE207.out) | exact HB.out)⟩

end Go.Proofs.Ytdndhbfagoghfaa.P
