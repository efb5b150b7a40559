-- Written by this session's own program (wip/tools/myprint.py), which runs the kit's print with turns of its own: not a text of the kit's print.sh.
import Derived.Test.YtjcjbbcamkkeiaaPx0
import Derived.Test.YtjcjbbcamkkeiaaPx32
namespace Go.Proofs.Ytjcjbbcamkkeiaa.P
open Go.RowKit Go.Proofs.YtjcjbbcamkkeiaaW.PrintWords Go.Proofs.YtjcjbbcamkkeiaaW.PrintLast Go.Proofs.YtjcjbbcamkkeiaaW.PrintMore
attribute [local go_sem] max2_int min2_int max_two min_two max_three min_three max_four min_four   -- for this text's walks alone
set_option linter.unusedVariables false
set_option linter.unusedSimpArgs false

/-! ### cutroomlaw28_made: function 13 -/
mutual
def cutroomlaw28_made.l0 : Nat → Int → List (List Int) → Int → List Int → Int → Option ((List (List Int)))
 | 0, _, _, _, _, _ => none
 | k + 1, x1, x6, x7, x103000, x103001 => if x7 > 0 then ((cutroomfilm_Tape_Next.f x103000 x103001 12).bind fun bt110 => ((some (([0, 3, wrap64 (Int.tdiv x1 40), wrap64 (Int.tdiv x1 3), x1] : List Int) : List Int)).bind fun y112 => ((cutroomfilm_Tape_Next.f x103000 bt110.2 5).bind fun bt115 => (if 0 ≤ bt115.1 then (if bt115.1 < (y112.length : Int) then ((cutroomfilm_Tape_Next.f x103000 bt115.2 90).bind fun bt118 => (cutroomlaw28_made.l1 k x1 x6 x7 (wrap64 (60 * bt110.1)) (rd y112 bt115.1) (wrap64 (1 + bt118.1)) (x6.length : Int) 0 x103000 bt118.2)) else (none)) else (none))))) else (some x6)
def cutroomlaw28_made.l1 : Nat → Int → List (List Int) → Int → Int → Int → Int → Int → Int → List Int → Int → Option ((List (List Int)))
 | 0, _, _, _, _, _, _, _, _, _, _ => none
 | k + 1, x1, x6, x7, x8, x9, x10, x43, x44, x103000, x103001 => if x44 < x43 then (cutroomlaw28_made.l2 k x1 x6 x7 x8 x9 x10 x44 0 x43 x44 x103000 x103001) else (cutroomlaw28_made.l0 k x1 x6 (wrap64 (x7 - 1)) x103000 x103001)
def cutroomlaw28_made.l2 : Nat → Int → List (List Int) → Int → Int → Int → Int → Int → Int → Int → Int → List Int → Int → Option ((List (List Int)))
 | 0, _, _, _, _, _, _, _, _, _, _, _, _ => none
 | k + 1, x1, x6, x7, x8, x9, x10, x11, x12, x43, x44, x103000, x103001 => if x12 < x8 then (if 0 ≤ x11 then (if x11 < (x6.length : Int) then (if (wrap64 ((wrap64 (2 * x9)) + 1)) = 0 then (none) else (if (rd_L2 x6 x11).length < 70368744177664 then (cutroomlaw28_made.l2 k x1 (x6.set (x11 : Int).toNat ((rd_L2 x6 x11) ++ [IntKind.i16.wrap (wrap64 ((Int.tmod (wrap64 ((wrap64 (x12 * x10)) + (wrap64 (x11 * 7)))) (wrap64 ((wrap64 (2 * x9)) + 1))) - x9))])) x7 x8 x9 x10 x11 (wrap64 (x12 + 1)) x43 x44 x103000 x103001) else (none))) else (none)) else (none)) else (cutroomlaw28_made.l1 k x1 x6 x7 x8 x9 x10 x43 (wrap64 (x44 + 1)) x103000 x103001)
end
def cutroomlaw28_made.f (k : Nat) (l0 : List Int) (a1 : Int) : Option ((List (List Int))) := (cutroomfilm_Tape_Next.f l0 0 2).bind fun bt103 => (if 0 ≤ (wrap64 (1 + bt103.1)) then (if (wrap64 (1 + bt103.1) : Int).toNat ≤ 11728124029610 then ((cutroomfilm_Tape_Next.f l0 bt103.2 7).bind fun bt108 => (cutroomlaw28_made.l0 k a1 (List.replicate (wrap64 (1 + bt103.1) : Int).toNat []) bt108.1 l0 bt108.2)) else (none)) else (none))
theorem cutroomlaw28_made.mono_l : ∀ k, (∀ y0 y1 y2 y3 y4, LeO (cutroomlaw28_made.l0 k y0 y1 y2 y3 y4) (cutroomlaw28_made.l0 (k + 1) y0 y1 y2 y3 y4)) ∧ (∀ y0 y1 y2 y3 y4 y5 y6 y7 y8 y9, LeO (cutroomlaw28_made.l1 k y0 y1 y2 y3 y4 y5 y6 y7 y8 y9) (cutroomlaw28_made.l1 (k + 1) y0 y1 y2 y3 y4 y5 y6 y7 y8 y9)) ∧ (∀ y0 y1 y2 y3 y4 y5 y6 y7 y8 y9 y10 y11, LeO (cutroomlaw28_made.l2 k y0 y1 y2 y3 y4 y5 y6 y7 y8 y9 y10 y11) (cutroomlaw28_made.l2 (k + 1) y0 y1 y2 y3 y4 y5 y6 y7 y8 y9 y10 y11))
 | 0 => ⟨fun _ _ _ _ _ r h => by simp [cutroomlaw28_made.l0] at h, fun _ _ _ _ _ _ _ _ _ _ r h => by simp [cutroomlaw28_made.l1] at h, fun _ _ _ _ _ _ _ _ _ _ _ _ r h => by simp [cutroomlaw28_made.l2] at h⟩
 | k + 1 => by
  obtain ⟨ih0, ih1, ih2⟩ := cutroomlaw28_made.mono_l k
  refine ⟨?_, ?_, ?_⟩
  ·intro y0 y1 y2 y3 y4
   unfold cutroomlaw28_made.l0
   repeat' first
   | (with_reducible exact ih0 _ _ _ _ _)
   | (with_reducible exact ih1 _ _ _ _ _ _ _ _ _ _)
   | (with_reducible exact ih2 _ _ _ _ _ _ _ _ _ _ _ _)
   | (with_reducible exact LeO.refl _)
   | (with_reducible exact LeO.none _)
   | (with_reducible refine LeO.ite ?_ ?_)
   | (with_reducible refine LeO.bind ?_ (fun _ => ?_))
   | exact ih0 _ _ _ _ _
   | exact ih1 _ _ _ _ _ _ _ _ _ _
   | exact ih2 _ _ _ _ _ _ _ _ _ _ _ _
   | exact LeO.none _
   | refine LeO.ite ?_ ?_
   | refine LeO.bind ?_ (fun _ => ?_)
  ·intro y0 y1 y2 y3 y4 y5 y6 y7 y8 y9
   unfold cutroomlaw28_made.l1
   repeat' first
   | (with_reducible exact ih0 _ _ _ _ _)
   | (with_reducible exact ih1 _ _ _ _ _ _ _ _ _ _)
   | (with_reducible exact ih2 _ _ _ _ _ _ _ _ _ _ _ _)
   | (with_reducible exact LeO.refl _)
   | (with_reducible exact LeO.none _)
   | (with_reducible refine LeO.ite ?_ ?_)
   | (with_reducible refine LeO.bind ?_ (fun _ => ?_))
   | exact ih0 _ _ _ _ _
   | exact ih1 _ _ _ _ _ _ _ _ _ _
   | exact ih2 _ _ _ _ _ _ _ _ _ _ _ _
   | exact LeO.none _
   | refine LeO.ite ?_ ?_
   | refine LeO.bind ?_ (fun _ => ?_)
  ·intro y0 y1 y2 y3 y4 y5 y6 y7 y8 y9 y10 y11
   unfold cutroomlaw28_made.l2
   repeat' first
   | (with_reducible exact ih0 _ _ _ _ _)
   | (with_reducible exact ih1 _ _ _ _ _ _ _ _ _ _)
   | (with_reducible exact ih2 _ _ _ _ _ _ _ _ _ _ _ _)
   | (with_reducible exact LeO.refl _)
   | (with_reducible exact LeO.none _)
   | (with_reducible refine LeO.ite ?_ ?_)
   | (with_reducible refine LeO.bind ?_ (fun _ => ?_))
   | exact ih0 _ _ _ _ _
   | exact ih1 _ _ _ _ _ _ _ _ _ _
   | exact ih2 _ _ _ _ _ _ _ _ _ _ _ _
   | exact LeO.none _
   | refine LeO.ite ?_ ?_
   | refine LeO.bind ?_ (fun _ => ?_)
theorem cutroomlaw28_made.mono : ∀ a0 a1 k, LeO (cutroomlaw28_made.f k a0 a1) (cutroomlaw28_made.f (k + 1) a0 a1) := by
 intro a0 a1 k
 obtain ⟨ih0, ih1, ih2⟩ := cutroomlaw28_made.mono_l k
 unfold cutroomlaw28_made.f
 repeat' first
   | (with_reducible exact ih0 _ _ _ _ _)
   | (with_reducible exact ih1 _ _ _ _ _ _ _ _ _ _)
   | (with_reducible exact ih2 _ _ _ _ _ _ _ _ _ _ _ _)
   | (with_reducible exact LeO.refl _)
   | (with_reducible exact LeO.none _)
   | (with_reducible refine LeO.ite ?_ ?_)
   | (with_reducible refine LeO.bind ?_ (fun _ => ?_))
   | exact ih0 _ _ _ _ _
   | exact ih1 _ _ _ _ _ _ _ _ _ _
   | exact ih2 _ _ _ _ _ _ _ _ _ _ _ _
   | exact LeO.none _
   | refine LeO.ite ?_ ?_
   | refine LeO.bind ?_ (fun _ => ?_)
def cutroomlaw28_made.T6 : Bool × List (List Nat × List Nat) := (true, [([], []), ([0], [0]), ([1], [1]), ([], []), ([3], [3]), ([], []), ([5], [5]), ([], []), ([4, 6, 7], [4, 6, 7]), ([], []), ([9, 1], [9]), ([8, 10], [8, 10]), ([11], [11]), ([], []), ([13, 10], [13]), ([14], [14]), ([2, 14, 0, 1, 2], [2]), ([12, 16, 0, 1, 2, 3, 4, 5, 6, 7, 8, 9, 10, 11, 12, 16], [12]), ([15, 17, 0, 1, 2, 3, 4, 5, 6, 7, 8, 9, 10, 11, 12, 13, 14, 15, 16, 17], [15])])
def cutroomlaw28_made.B6 : List Nat := [0, 1, 3, 0, 8, 0, 32, 0, 248, 0, 515, 2043, 4091, 0, 9731, 26115, 26119, 98303, 262143]
theorem cutroomlaw28_made.tab6 : rtab .any (opsOf Try.f13 6) = cutroomlaw28_made.T6 := by kernel_rfl
theorem cutroomlaw28_made.bits6 : waitsOk cutroomlaw28_made.T6.2 cutroomlaw28_made.B6 = true := by kernel_rfl
def cutroomlaw28_made.T13 : Bool × List (List Nat × List Nat) := (true, [([], []), ([], []), ([], []), ([], []), ([2, 3], [2, 3]), ([4], [4]), ([], []), ([], []), ([6, 7], [6, 7]), ([], []), ([9], [9]), ([8, 10], [8, 10]), ([], []), ([12], [12]), ([13], [13]), ([11, 14], [11, 14]), ([], []), ([15, 16], [15, 16]), ([17], [17]), ([18], [18]), ([5, 19], [5, 19]), ([0, 1, 0, 1, 2, 3, 4, 5, 6, 7, 8, 9, 10, 11, 12, 13, 14, 15, 16, 17, 18, 19, 20], [0, 1]), ([21, 20, 20, 0, 1, 2, 3, 4, 5, 6, 7, 8, 9, 10, 11, 12, 13, 14, 15, 16, 17, 18, 19, 20], [20, 21])])
def cutroomlaw28_made.B13 : List Nat := [0, 0, 0, 0, 12, 28, 0, 0, 192, 0, 512, 1984, 0, 4096, 12288, 32704, 0, 131008, 262080, 524224, 1048572, 2097151, 4194303]
theorem cutroomlaw28_made.tab13 : rtab .any (opsOf Try.f13 13) = cutroomlaw28_made.T13 := by kernel_rfl
theorem cutroomlaw28_made.bits13 : waitsOk cutroomlaw28_made.T13.2 cutroomlaw28_made.B13 = true := by kernel_rfl
set_option maxHeartbeats 8000000 in
set_option maxRecDepth 100000 in
theorem cutroomlaw28_made.calls (k : Nat) (A0 : Option Addr) (c0 : Nat) (l0 : List Int) (a1 : Int) (r : List (List Int)) (w : World) (hr0 : Kd.C (Kd.int .i64) w A0 l0.length l0) (hc0 : l0.length ≤ c0) (h : cutroomlaw28_made.f k l0 a1 = some r) :
  Calls Try.prog 13 #[.slice A0 l0.length c0, .int .i64 a1] w fun e w' => ∃ v0_ : Value, e = .returned (v0_) ∧ Kd.S (Kd.slice 48 (Kd.int .i16)) 47 w' w.heap.size (fun _ => True) v0_ r ∧ Below w.heap.size w w' := by
 have hu57 := Try.underlying57
 have HR0 := Aside0.mk hr0
 have HC0 := Aside0.mk hc0
 clear hr0 hc0
 have HB := Aside0.mk (Below.refl w.heap.size w)
 have H : ((cutroomfilm_Tape_Next.f l0 0 2).bind fun bt103 => (if 0 ≤ (wrap64 (1 + bt103.1)) then (if (wrap64 (1 + bt103.1) : Int).toNat ≤ 11728124029610 then ((cutroomfilm_Tape_Next.f l0 bt103.2 7).bind fun bt108 => (cutroomlaw28_made.l0 k a1 (List.replicate (wrap64 (1 + bt103.1) : Int).toNat []) bt108.1 l0 bt108.2)) else (none)) else (none))) = some r := h
 clear h
 replace H := Option.bind_eq_some_iff.mp H
 obtain ⟨⟨t103, t104⟩, A30, H⟩ := H
 replace H : (if 0 ≤ (wrap64 (1 + t103)) then (if (wrap64 (1 + t103) : Int).toNat ≤ 11728124029610 then ((cutroomfilm_Tape_Next.f l0 t104 7).bind fun bt108 => (cutroomlaw28_made.l0 k a1 (List.replicate (wrap64 (1 + t103) : Int).toNat []) bt108.1 l0 bt108.2)) else (none)) else (none)) = some r := H
 have A3 := Aside0.mk A30
 clear A30
 obtain ⟨ji4, hji4⟩ : ∃ j_ : Int, (wrap64 (1 + t103)) = j_ := ⟨_, rfl⟩
 replace H : (if 0 ≤ (ji4) then (if (ji4 : Int).toNat ≤ 11728124029610 then ((cutroomfilm_Tape_Next.f l0 t104 7).bind fun bt108 => (cutroomlaw28_made.l0 k a1 (List.replicate (ji4 : Int).toNat []) bt108.1 l0 bt108.2)) else (none)) else (none)) = some r := by first | (rw [hji4] at H; exact H) | (simp only [hji4] at H ⊢; exact H)
 (try rw [hji4] at A3)
 have hji4w : (IntKind.i64.wrap (1 + t103)) = ji4 := (i64_w _).trans hji4
 by_cases c5 : 0 ≤ (ji4)
 ·rw [if_pos c5] at H
  have c5b0 := eq_true c5
  have c5b1 : decide (0 ≤ (ji4)) = true := decide_eq_true c5
  clear c5
  by_cases c6 : (ji4 : Int).toNat ≤ 11728124029610
  ·rw [if_pos c6] at H
   have c6b0 := eq_true c6
   have c6b1 : decide ((ji4 : Int).toNat ≤ 11728124029610) = true := decide_eq_true c6
   clear c6
   obtain ⟨y105, hy105⟩ : ∃ y_ : List (List Int), y_ = (List.replicate (ji4 : Int).toNat []) := ⟨_, rfl⟩
   replace H : ((cutroomfilm_Tape_Next.f l0 t104 7).bind fun bt108 => (cutroomlaw28_made.l0 k a1 y105 bt108.1 l0 bt108.2)) = some r := by first | (rw [hy105]; with_reducible exact H) | (have H2_ := (Option.bind_some _ _).symm.trans H; rw [hy105]; with_reducible exact H2_) | (have H2_ := (Option.bind_some _ _).symm.trans H; with_reducible exact H2_) | with_reducible exact H | (rw [hy105]; exact H) | exact H
   have Ny105 := Aside0.mk hy105
   clear hy105
   replace H := Option.bind_eq_some_iff.mp H
   obtain ⟨⟨t108, t109⟩, A70, H⟩ := H
   replace H : (cutroomlaw28_made.l0 k a1 y105 t108 l0 t109) = some r := H
   have A7 := Aside0.mk A70
   clear A70
   have H' := Aside0.mk H
   clear H
   go_enter Try.func13, Try.ntmps13
   go_wp2_with (first | ((with_reducible refine gate_dst (N := 15) rfl ?_); refine box_event ?hg (N := 15) ?hd (cs := #[.slice A0 l0.length c0, .int .i64 0]) (t := 57) ?hr ?_; (case hd => rfl); (case hg => rfl); (case hr => first | (go_simp; done) | (go_simp; rfl)); intro g102 hg w8 hbox hb; have n0_ := Aside0.mk (below_step (by repeat (first | (with_reducible first | exact HB.out | apply below_alloc | apply pw_below_drewN | apply below_drew1) | exact HB.out)) hb); have n1_ := Aside0.mk ((show IsS57 w w8 g102 l0 0 from ⟨_, _, hbox, (by rw [hg]; exact (below_size (by repeat (first | (with_reducible first | exact HB.out | apply below_alloc | apply pw_below_drewN | apply below_drew1) | exact HB.out))) : w.heap.size ≤ g102), HR0.out⟩)); clear HB; have HB := n0_; have HI102 := n1_; clear n0_ n1_; clear hb hbox hg) | ((with_reducible refine gate_callee (f := 31) rfl ?_); refine goesL_ (some 17) rfl rfl Try.func31 (by kernel_rfl) rfl #[.pointer (some ⟨g102, 0, none⟩), .int .i64 2] rfl (by (try simp only [List.map_toArray, List.map_cons, List.map_nil]); first | done | rfl | (simp only [List.length_drop, List.length_take]; rfl)) ?_; (with_reducible refine (cutroomfilm_Tape_Next.calls g102 l0 0 2 t103 t104 w _ ?side1 ?side2 A3.out).mono ?_); (case side1 => repeat (first | (with_reducible first | exact HI102.out | apply IsS57.alloc | apply IsS57.drewN | apply IsS57.drew | apply IsS57.set_1) | exact HI102.out)); (case side2 => repeat (first | (with_reducible first | exact HB.out | apply below_alloc | apply pw_below_drewN | apply below_drew1 | refine below_set ?_ (IsS57.ge HI102.out)) | exact HB.out)); rintro e w9 ⟨rfl, hi, hb, hk⟩; refine ⟨_, rfl, ?_⟩; have n0_ := Aside0.mk (hb); have n1_ := Aside0.mk (hi); clear HB; clear HI102; have HB := n0_; have HI102 := n1_; clear n0_ n1_; (try clear hb); (try clear hb2); (try clear hk); (try clear hi)) | ((with_reducible refine gate_dst (N := 19) rfl ?_); refine Kd.S_make (Kd.slice 48 (Kd.int .i16)) _ 47 rfl (N := 19) rfl 22 _ _ rfl ji4 rfl rfl Try.underlying22 (.slice none 0 0) 24 info47 rfl (by decide) (by omega) [] (ok := fun _ => True) (okp := fun _ => True) ⟨_, rfl, Kd.R_nil _ _ _ _ _⟩ (fun _ hk => hk) trivial (of_decide_eq_true (by first | (with_reducible assumption) | assumption)) (Nat.le_trans (Nat.mul_le_mul_right _ (of_decide_eq_true (by first | (with_reducible assumption) | assumption) : ji4.toNat ≤ 11728124029610)) (by omega)) (Below.refl _ _) (Nat.le_refl _) ?_; intro v106 w10 ho11 hb hg_ hnew_; clear hg_ hnew_; (first | rw [← Ny105.out] at ho11 | (simp only [Int.reduceToNat] at ho11; rw [← Ny105.out] at ho11)); have n0_ := Aside0.mk (Kd.S_lower ho11 (below_size (by repeat (first | (with_reducible first | exact HB.out | apply below_alloc | apply pw_below_drewN | apply below_drew1 | refine below_set ?_ (IsS57.ge HI102.out)) | exact HB.out)))); have n1_ := Aside0.mk (IsS57.below (by repeat (first | (with_reducible first | exact HI102.out | apply IsS57.alloc | apply IsS57.drewN | apply IsS57.drew | apply IsS57.set_1) | exact HI102.out)) hb); have n2_ := Aside0.mk (below_step (by repeat (first | (with_reducible first | exact HB.out | apply below_alloc | apply pw_below_drewN | apply below_drew1 | refine below_set ?_ (IsS57.ge HI102.out)) | exact HB.out)) hb); clear HI102; clear HB; have HO107 := n0_; have HI102 := n1_; have HB := n2_; clear n0_ n1_ n2_; clear hb ho11) | ((with_reducible refine gate_callee (f := 31) rfl ?_); refine goesL_ (some 21) rfl rfl Try.func31 (by kernel_rfl) rfl #[.pointer (some ⟨g102, 0, none⟩), .int .i64 7] rfl (by (try simp only [List.map_toArray, List.map_cons, List.map_nil]); first | done | rfl | (simp only [List.length_drop, List.length_take]; rfl)) ?_; (with_reducible refine (cutroomfilm_Tape_Next.calls g102 l0 t104 7 t108 t109 w _ ?side1 ?side2 A7.out).mono ?_); (case side1 => repeat (first | (with_reducible first | exact HI102.out | apply IsS57.alloc | apply IsS57.drewN | apply IsS57.drew | apply IsS57.set_1) | exact HI102.out)); (case side2 => repeat (first | (with_reducible first | exact HB.out | apply below_alloc | apply pw_below_drewN | apply below_drew1 | refine below_set ?_ (IsS57.ge HI102.out)) | exact HB.out)); rintro e w12 ⟨rfl, hi, hb, hk⟩; refine ⟨_, rfl, ?_⟩; have n0_ := Aside0.mk (Kd.S_mono (Kd.S_keep (IsS57.apartS (show IsS57 w _ g102 l0 t104 from by repeat (first | (with_reducible first | exact HI102.out | apply IsS57.alloc | apply IsS57.drewN | apply IsS57.drew | apply IsS57.set_1) | exact HI102.out)) (by (with_reducible repeat (first | apply Kd.S_alloc | apply Kd.S_drewN | apply Kd.S_drew)); exact HO107.out) (by decide)) hk (fun _ h => h.2)) (fun _ h => h.1)); have n1_ := Aside0.mk (hb); have n2_ := Aside0.mk (hi); clear HO107; clear HB; clear HI102; have HO107 := n0_; have HB := n1_; have HI102 := n2_; clear n0_ n1_ n2_; (try clear hb); (try clear hb2); (try clear hk); (try clear hi)))
   go_loopg [7] k (fun kq v7 w' => ∃ (x6_1 : List (List Int)) (x7_1 : Int) (x103001_1 : Int), v7 = .int .i64 x7_1 ∧ Aside0 (cutroomlaw28_made.l0 kq a1 x6_1 x7_1 l0 x103001_1 = some r) ∧ Aside0 (kq ≤ k) ∧ Aside0 (Kd.S (Kd.slice 48 (Kd.int .i16)) 47 w' w.heap.size (fun _ => True) v106 x6_1) ∧ Aside0 (IsS57 w w' g102 l0 x103001_1) ∧ Aside0 (Below w.heap.size w w'))
   case atStart => exact ⟨(y105), (t108), (t109), (by first | rfl | (simp; done) | (simp [*]; done)), H', ⟨Nat.le_refl _⟩, ⟨by (with_reducible repeat (first | apply Kd.S_alloc | apply Kd.S_drewN | apply Kd.S_drew)); exact HO107.out⟩, ⟨by repeat (first | (with_reducible first | exact HI102.out | apply IsS57.alloc | apply IsS57.drewN | apply IsS57.drew | apply IsS57.set_1) | exact HI102.out)⟩, ⟨by repeat (first | (with_reducible first | exact HB.out | apply below_alloc | apply pw_below_drewN | apply below_drew1 | refine below_set ?_ (IsS57.ge HI102.out)) | exact HB.out)⟩⟩
   case round =>
    clear H'
    (try clear c1);(try clear p2);(try clear c3);(try clear c5);(try clear c5b0);(try clear c5b1);(try clear c6);(try clear c6b0);(try clear c6b1);(try clear p6)
    obtain ⟨x6_1, x7_1, x103001_1, rfl, HA, HK1, HO_6, HI102, HB⟩ := hrel
    cases gk with
    | zero => exact absurd HA.out (by simp [cutroomlaw28_made.l0])
    | succ k1 =>
     have H := HA.out
     clear HA
     simp only [cutroomlaw28_made.l0] at H
     by_cases c13 : x7_1 > 0
     ·rw [if_pos c13] at H
      have c13b0 : decide (0 < x7_1) = true := decide_eq_true c13
      clear c13
      replace H := Option.bind_eq_some_iff.mp H
      obtain ⟨⟨t110, t111⟩, A140, H⟩ := H
      replace H : ((some (([0, 3, wrap64 (Int.tdiv a1 40), wrap64 (Int.tdiv a1 3), a1] : List Int) : List Int)).bind fun y112 => ((cutroomfilm_Tape_Next.f l0 t111 5).bind fun bt115 => (if 0 ≤ bt115.1 then (if bt115.1 < (y112.length : Int) then ((cutroomfilm_Tape_Next.f l0 bt115.2 90).bind fun bt118 => (cutroomlaw28_made.l1 k1 a1 x6_1 x7_1 (wrap64 (60 * t110)) (rd y112 bt115.1) (wrap64 (1 + bt118.1)) (x6_1.length : Int) 0 l0 bt118.2)) else (none)) else (none)))) = some r := H
      have A14 := Aside0.mk A140
      clear A140
      obtain ⟨y112, hy112⟩ : ∃ y_ : List Int, y_ = (([0, 3, wrap64 (Int.tdiv a1 40), wrap64 (Int.tdiv a1 3), a1] : List Int)) := ⟨_, rfl⟩
      replace H : ((cutroomfilm_Tape_Next.f l0 t111 5).bind fun bt115 => (if 0 ≤ bt115.1 then (if bt115.1 < (y112.length : Int) then ((cutroomfilm_Tape_Next.f l0 bt115.2 90).bind fun bt118 => (cutroomlaw28_made.l1 k1 a1 x6_1 x7_1 (wrap64 (60 * t110)) (rd y112 bt115.1) (wrap64 (1 + bt118.1)) (x6_1.length : Int) 0 l0 bt118.2)) else (none)) else (none))) = some r := by first | (rw [hy112]; with_reducible exact H) | (have H2_ := (Option.bind_some _ _).symm.trans H; rw [hy112]; with_reducible exact H2_) | (have H2_ := (Option.bind_some _ _).symm.trans H; with_reducible exact H2_) | with_reducible exact H | (rw [hy112]; exact H) | exact H
      have Ny112 := Aside0.mk hy112
      clear hy112
      replace H := Option.bind_eq_some_iff.mp H
      obtain ⟨⟨t115, t116⟩, A150, H⟩ := H
      replace H : (if 0 ≤ t115 then (if t115 < (y112.length : Int) then ((cutroomfilm_Tape_Next.f l0 t116 90).bind fun bt118 => (cutroomlaw28_made.l1 k1 a1 x6_1 x7_1 (wrap64 (60 * t110)) (rd y112 t115) (wrap64 (1 + bt118.1)) (x6_1.length : Int) 0 l0 bt118.2)) else (none)) else (none)) = some r := H
      have A15 := Aside0.mk A150
      clear A150
      by_cases c16 : 0 ≤ t115
      ·rw [if_pos c16] at H
       have c16b0 : decide (0 ≤ t115) = true := decide_eq_true c16
       clear c16
       by_cases c17 : t115 < (y112.length : Int)
       ·rw [if_pos c17] at H
        have c17b0 : decide (t115 < (y112.length : Int)) = true := decide_eq_true c17
        clear c17
        replace H := Option.bind_eq_some_iff.mp H
        obtain ⟨⟨t118, t119⟩, A180, H⟩ := H
        replace H : (cutroomlaw28_made.l1 k1 a1 x6_1 x7_1 (wrap64 (60 * t110)) (rd y112 t115) (wrap64 (1 + t118)) (x6_1.length : Int) 0 l0 t119) = some r := H
        have A18 := Aside0.mk A180
        clear A180
        have H' := Aside0.mk H
        clear H
        try go_wp2
        have pi117 : (0 ≤ (t115 : Int)) = True := eq_true (of_decide_eq_true (by first | (with_reducible assumption) | assumption))
        have qi117 : (t115 < (y112.length : Int)) = True := eq_true (of_decide_eq_true (by first | (with_reducible assumption) | assumption))
        have n0_ := Aside0.mk (Kd.S_drew HO_6.out)
        have n1_ := Aside0.mk (IsS57.drew HI102.out)
        have n2_ := Aside0.mk (below_drew1 HB.out)
        clear HO_6
        clear HI102
        clear HB
        have HO_6 := n0_
        have HI102 := n1_
        have HB := n2_
        clear n0_ n1_ n2_
        refine start_ (n := 19) (S := fun w' => True) (ds := []) #[false, false, false, false, false, false, false, false, false, false, false, false, false, false, false, false, false, false, false] (by kernel_rfl) rfl rfl trivial (fun hHeld => ?_); refine with_tabW cutroomlaw28_made.tab6 cutroomlaw28_made.bits6 (fun HT_ HW_ => ?_)
        generalize wr.drew = w19 at HO_6 HI102 HB hHeld ⊢
        refine pure_ (i := 0) (N := some 26) (v := ?_) (a' := ?_) #[true, false, false, false, false, false, false, false, false, false, false, false, false, false, false, false, false, false, false] rfl rfl (any_of HT_.out (by kernel_rfl)) (fun _ _ _ h => h) (Or.inl ⟨by rfl, ?_⟩) ?_ ?_
        rotate_left
        ·intro w'
         go_simp
         with_reducible rfl
        rotate_left
        ·simp only [Act.put, List.setIfInBounds_toArray, List.set_cons_zero, List.set_cons_succ, i64_w, i32_w]
         rfl
        refine pure_ (i := 3) (N := some 29) (v := ?_) (a' := ?_) #[true, false, false, true, false, false, false, false, false, false, false, false, false, false, false, false, false, false, false] rfl rfl (any_of HT_.out (by kernel_rfl)) (fun _ _ _ h => h) (Or.inl ⟨by rfl, ?_⟩) ?_ ?_
        rotate_left
        ·intro w'
         go_simp
         with_reducible rfl
        rotate_left
        ·simp only [Act.put, List.setIfInBounds_toArray, List.set_cons_zero, List.set_cons_succ, i64_w, i32_w]
         rfl
        refine pure_ (i := 4) (N := some 30) (v := ?_) (a' := ?_) #[true, false, false, true, true, false, false, false, false, false, false, false, false, false, false, false, false, false, false] rfl rfl (any_of HT_.out (by kernel_rfl)) (fun _ _ _ h => h) (Or.inl ⟨by rfl, ?_⟩) ?_ ?_
        rotate_left
        ·intro w'
         go_simp
         with_reducible rfl
        rotate_left
        ·simp only [Act.put, List.setIfInBounds_toArray, List.set_cons_zero, List.set_cons_succ, i64_w, i32_w]
         rfl
        refine pure_ (i := 5) (N := some 31) (v := ?_) (a' := ?_) #[true, false, false, true, true, true, false, false, false, false, false, false, false, false, false, false, false, false, false] rfl rfl (any_of HT_.out (by kernel_rfl)) (fun _ _ _ h => h) (Or.inl ⟨by rfl, ?_⟩) ?_ ?_
        rotate_left
        ·intro w'
         go_simp
         with_reducible rfl
        rotate_left
        ·simp only [Act.put, List.setIfInBounds_toArray, List.set_cons_zero, List.set_cons_succ, i64_w, i32_w]
         rfl
        refine pure_ (i := 6) (N := some 32) (v := ?_) (a' := ?_) #[true, false, false, true, true, true, true, false, false, false, false, false, false, false, false, false, false, false, false] rfl rfl (any_of HT_.out (by kernel_rfl)) (fun _ _ _ h => h) (Or.inl ⟨by rfl, ?_⟩) ?_ ?_
        rotate_left
        ·intro w'
         go_simp
         with_reducible rfl
        rotate_left
        ·simp only [Act.put, List.setIfInBounds_toArray, List.set_cons_zero, List.set_cons_succ, i64_w, i32_w]
         rfl
        refine pure_ (i := 7) (N := some 33) (v := ?_) (a' := ?_) #[true, false, false, true, true, true, true, true, false, false, false, false, false, false, false, false, false, false, false] rfl rfl (any_of HT_.out (by kernel_rfl)) (fun _ _ _ h => h) (Or.inl ⟨by rfl, ?_⟩) ?_ ?_
        rotate_left
        ·intro w'
         go_simp
         with_reducible rfl
        rotate_left
        ·simp only [Act.put, List.setIfInBounds_toArray, List.set_cons_zero, List.set_cons_succ, i64_w, i32_w]
         rfl
        refine pure_ (i := 9) (N := some 35) (v := ?_) (a' := ?_) #[true, false, false, true, true, true, true, true, false, true, false, false, false, false, false, false, false, false, false] rfl rfl (any_of HT_.out (by kernel_rfl)) (fun _ _ _ h => h) (Or.inl ⟨by rfl, ?_⟩) ?_ ?_
        rotate_left
        ·intro w'
         go_simp
         with_reducible rfl
        rotate_left
        ·simp only [Act.put, List.setIfInBounds_toArray, List.set_cons_zero, List.set_cons_succ, i64_w, i32_w]
         rfl
        refine pure_ (i := 13) (N := some 39) (v := ?_) (a' := ?_) #[true, false, false, true, true, true, true, true, false, true, false, false, false, true, false, false, false, false, false] rfl rfl (any_of HT_.out (by kernel_rfl)) (fun _ _ _ h => h) (Or.inl ⟨by rfl, ?_⟩) ?_ ?_
        rotate_left
        ·intro w'
         go_simp
         with_reducible rfl
        rotate_left
        ·simp only [Act.put, List.setIfInBounds_toArray, List.set_cons_zero, List.set_cons_succ, i64_w, i32_w]
         rfl
        refine join_ (σ := Value × Addr) 2 #[true, true, true, true, true, true, true, true, true, true, true, true, true, true, true, true, true, false, false] (fun s_ => [(27, .int .i64 t110), (34, s_.1), (36, .int .i64 t115), (38, .int .i64 (rd y112 t115)), (40, .int .i64 t118), (28, .int .i64 (wrap64 (60 * t110))), (37, .pointer (some (s_.2.add (t115).toNat))), (41, .int .i64 (wrap64 (1 + t118))), (8, .int .i64 (wrap64 (60 * t110)))]) (fun s_ w' => (Kd.R (Kd.int .i64) 3 w' w.heap.size (fun _ => True) s_.1 y112) ∧ (Kd.S (Kd.slice 48 (Kd.int .i16)) 47 w' w.heap.size (fun _ => True) v106 x6_1) ∧ (∃ c_, (s_.1 : Value) = .slice (some s_.2) y112.length c_) ∧ (IsS57 w w' g102 l0 t119) ∧ (Below w.heap.size w w')) ?_ ?_
        rotate_left
        ·intro hJ1_8_10_12_14
         refine join_ (σ := Value × Addr) 5 #[true, true, true, true, true, true, true, true, true, true, true, true, true, true, false, false, false, false, false] (fun s_ => [(27, .int .i64 t110), (34, s_.1), (36, .int .i64 t115), (38, .int .i64 (rd y112 t115)), (28, .int .i64 (wrap64 (60 * t110))), (37, .pointer (some (s_.2.add (t115).toNat)))]) (fun s_ w' => (Kd.R (Kd.int .i64) 3 w' w.heap.size (fun _ => True) s_.1 y112) ∧ (Kd.S (Kd.slice 48 (Kd.int .i16)) 47 w' w.heap.size (fun _ => True) v106 x6_1) ∧ (∃ c_, (s_.1 : Value) = .slice (some s_.2) y112.length c_) ∧ (IsS57 w w' g102 l0 t116) ∧ (Below w.heap.size w w')) ?_ ?_
         rotate_left
         ·intro hJ1_8_10_12
          refine join_ (σ := Value × Addr) 3 #[true, true, true, true, true, true, true, true, true, true, true, true, false, true, true, true, true, false, false] (fun s_ => [(27, .int .i64 t110), (34, s_.1), (36, .int .i64 t115), (40, .int .i64 t118), (28, .int .i64 (wrap64 (60 * t110))), (37, .pointer (some (s_.2.add (t115).toNat))), (41, .int .i64 (wrap64 (1 + t118))), (8, .int .i64 (wrap64 (60 * t110)))]) (fun s_ w' => (Kd.R (Kd.int .i64) 3 w' w.heap.size (fun _ => True) s_.1 y112) ∧ (Kd.S (Kd.slice 48 (Kd.int .i16)) 47 w' w.heap.size (fun _ => True) v106 x6_1) ∧ (∃ c_, (s_.1 : Value) = .slice (some s_.2) y112.length c_) ∧ (IsS57 w w' g102 l0 t119) ∧ (Below w.heap.size w w')) ?_ ?_
          rotate_left
          ·intro hJ1_8_10_14
           refine join_ (σ := Value × Addr) 6 #[true, true, true, true, true, true, true, true, true, true, true, true, false, true, false, false, false, false, false] (fun s_ => [(27, .int .i64 t110), (34, s_.1), (36, .int .i64 t115), (28, .int .i64 (wrap64 (60 * t110))), (37, .pointer (some (s_.2.add (t115).toNat)))]) (fun s_ w' => (Kd.R (Kd.int .i64) 3 w' w.heap.size (fun _ => True) s_.1 y112) ∧ (Kd.S (Kd.slice 48 (Kd.int .i16)) 47 w' w.heap.size (fun _ => True) v106 x6_1) ∧ (∃ c_, (s_.1 : Value) = .slice (some s_.2) y112.length c_) ∧ (IsS57 w w' g102 l0 t116) ∧ (Below w.heap.size w w')) ?_ ?_
           rotate_left
           ·intro hJ1_8_10
            refine join_ (σ := Unit) 5 #[true, true, true, true, true, true, true, true, false, true, true, false, false, true, true, true, true, false, false] (fun s_ => [(27, .int .i64 t110), (36, .int .i64 t115), (40, .int .i64 t118), (28, .int .i64 (wrap64 (60 * t110))), (41, .int .i64 (wrap64 (1 + t118))), (8, .int .i64 (wrap64 (60 * t110)))]) (fun s_ w' => (Kd.S (Kd.slice 48 (Kd.int .i16)) 47 w' w.heap.size (fun _ => True) v106 x6_1) ∧ (IsS57 w w' g102 l0 t119) ∧ (Below w.heap.size w w')) ?_ ?_
            rotate_left
            ·intro hJ1_10_14
             refine join_ (σ := Value × Addr) 8 #[true, true, true, true, true, true, true, true, true, true, false, false, false, true, false, false, false, false, false] (fun s_ => [(27, .int .i64 t110), (34, s_.1), (28, .int .i64 (wrap64 (60 * t110)))]) (fun s_ w' => (Kd.R (Kd.int .i64) 3 w' w.heap.size (fun _ => True) s_.1 y112) ∧ (Kd.S (Kd.slice 48 (Kd.int .i16)) 47 w' w.heap.size (fun _ => True) v106 x6_1) ∧ (∃ c_, (s_.1 : Value) = .slice (some s_.2) y112.length c_) ∧ (IsS57 w w' g102 l0 t111) ∧ (Below w.heap.size w w')) ?_ ?_
             rotate_left
             ·intro hJ1_8
              refine join_ (σ := Unit) 8 #[true, true, true, true, true, true, true, true, false, true, true, false, false, true, false, false, false, false, false] (fun s_ => [(27, .int .i64 t110), (36, .int .i64 t115), (28, .int .i64 (wrap64 (60 * t110)))]) (fun s_ w' => (Kd.S (Kd.slice 48 (Kd.int .i16)) 47 w' w.heap.size (fun _ => True) v106 x6_1) ∧ (IsS57 w w' g102 l0 t116) ∧ (Below w.heap.size w w')) ?_ ?_
              rotate_left
              ·intro hJ1_10
               refine join_ (σ := Unit) 9 #[true, true, true, true, true, true, true, true, false, true, false, false, false, true, false, false, false, false, false] (fun s_ => [(27, .int .i64 t110), (28, .int .i64 (wrap64 (60 * t110)))]) (fun s_ w' => (Kd.S (Kd.slice 48 (Kd.int .i16)) 47 w' w.heap.size (fun _ => True) v106 x6_1) ∧ (IsS57 w w' g102 l0 t111) ∧ (Below w.heap.size w w')) ?_ ?_
               rotate_left
               ·intro hJ1
                refine join_ (σ := Value × Addr) 10 #[true, false, false, true, true, true, true, true, true, true, false, false, false, true, false, false, false, false, false] (fun s_ => [(34, s_.1)]) (fun s_ w' => (Kd.R (Kd.int .i64) 3 w' w.heap.size (fun _ => True) s_.1 y112) ∧ (Kd.S (Kd.slice 48 (Kd.int .i16)) 47 w' w.heap.size (fun _ => True) v106 x6_1) ∧ (∃ c_, (s_.1 : Value) = .slice (some s_.2) y112.length c_) ∧ (IsS57 w w' g102 l0 x103001_1) ∧ (Below w.heap.size w w')) ?_ ?_
                rotate_left
                ·intro hJ8
                 refine two_ (i := 1) (j := 8) (Ni := some 27) (Nj := some 34) #[true, true, false, true, true, true, true, true, false, true, false, false, false, true, false, false, false, false, false] #[true, false, false, true, true, true, true, true, true, true, false, false, false, true, false, false, false, false, false] rfl rfl rfl rfl (two_of HT_.out (by kernel_rfl)) (by decide) (by decide) (fun K hK => ?_) (fun K hK => ?_)
                 ·skip
                  refine goes_ Try.func31 (by kernel_rfl) rfl #[.pointer (some ⟨g102, 0, none⟩), .int .i64 12] (by rfl) rfl rfl (by (try simp only [List.map_toArray, List.map_cons, List.map_nil]); first | done | rfl | (simp only [List.length_drop, List.length_take]; rfl)) ?_
                  with_reducible refine (cutroomfilm_Tape_Next.calls g102 l0 x103001_1 12 t110 t111 w _ ?side1 ?side2 A14.out).mono ?_
                  (case side1 => repeat (first | (with_reducible first | exact HI102.out | apply IsS57.alloc | apply IsS57.drewN | apply IsS57.drew | apply IsS57.set_1) | exact HI102.out))
                  (case side2 => repeat (first | (with_reducible first | exact HB.out | apply below_alloc | apply pw_below_drewN | apply below_drew1 | refine below_set ?_ (IsS57.ge HI102.out)) | exact HB.out))
                  rintro e w20 ⟨rfl, hi, hb, hk⟩
                  refine ⟨_, rfl, ?_⟩
                  have n0_ := Aside0.mk (Kd.S_mono (Kd.S_keep (IsS57.apartS (show IsS57 w _ g102 l0 x103001_1 from by repeat (first | (with_reducible first | exact HI102.out | apply IsS57.alloc | apply IsS57.drewN | apply IsS57.drew | apply IsS57.set_1) | exact HI102.out)) (by (with_reducible repeat (first | apply Kd.S_alloc | apply Kd.S_drewN | apply Kd.S_drew)); exact HO_6.out) (by decide)) hk (fun _ h => h.2)) (fun _ h => h.1))
                  have n1_ := Aside0.mk (hb)
                  have n2_ := Aside0.mk (hi)
                  clear HO_6
                  clear HB
                  clear HI102
                  have HO_6 := n0_
                  have HB := n1_
                  have HI102 := n2_
                  clear n0_ n1_ n2_
                  (try clear hb)
                  (try clear hb2)
                  (try clear hk)
                  (try clear hi)
                  refine hK.out _ _ trivial (fun hHeld => ?_)
                  clear hK K
                  refine norm_ (a' := ?_) ?_ ?_
                  rotate_left
                  ·show Act.put _ (some 27) _ = _
                   simp only [Act.put, List.setIfInBounds_toArray, List.set_cons_zero, List.set_cons_succ, i64_w, i32_w]
                   rfl
                  refine pure_ (i := 2) (N := some 28) (v := ?_) (a' := ?_) #[true, true, true, true, true, true, true, true, false, true, false, false, false, true, false, false, false, false, false] rfl rfl (any_of HT_.out (by kernel_rfl)) (fun _ _ _ h => h) (Or.inl ⟨by rfl, ?_⟩) ?_ ?_
                  rotate_left
                  ·intro w'
                   go_simp
                   with_reducible rfl
                  rotate_left
                  ·simp only [Act.put, List.setIfInBounds_toArray, List.set_cons_zero, List.set_cons_succ, i64_w, i32_w]
                   rfl
                  exact norm_ (by first | (simp only [putAll, Act.put, List.setIfInBounds_toArray, List.set_cons_zero, List.set_cons_succ]; done) | (simp only [putAll, Act.put, List.setIfInBounds_toArray, List.set_cons_zero, List.set_cons_succ]; rfl)) (hJ1 () _ ⟨(by (with_reducible repeat (first | apply Kd.S_alloc | apply Kd.S_drewN | apply Kd.S_drew)); exact HO_6.out), (by repeat (first | (with_reducible first | exact HI102.out | apply IsS57.alloc | apply IsS57.drewN | apply IsS57.drew | apply IsS57.set_1) | exact HI102.out)), (by repeat (first | (with_reducible first | exact HB.out | apply below_alloc | apply pw_below_drewN | apply below_drew1 | refine below_set ?_ (IsS57.ge HI102.out)) | exact HB.out))⟩)
                 ·skip
                  refine Kd.R_lit_step (Kd.int .i64) _ 3 ?hg (N := 34) ?hd (xs := ([0, 3, wrap64 (Int.tdiv a1 40), wrap64 (Int.tdiv a1 3), a1] : List Int)) (inner := [.int .i64 0, .int .i64 3, .int .i64 (wrap64 (Int.tdiv a1 40)), .int .i64 (wrap64 (Int.tdiv a1 3)), .int .i64 a1]) (ok := fun _ => True) (okp := fun _ => True) ?hr ?hp (fun _ hk => hk) trivial (Below.refl _ _) (Nat.le_refl _) (by simp) ?_; (case hd => rfl); (case hg => rfl); (case hr => first | (go_simp; done) | (go_simp; rfl)); (case hp => exact (Reps.one (show Kd.M (Kd.int .i64) _ _ _ 0 [.int .i64 0] from rfl) (Reps.one (show Kd.M (Kd.int .i64) _ _ _ 3 [.int .i64 3] from rfl) (Reps.one (show Kd.M (Kd.int .i64) _ _ _ (wrap64 (Int.tdiv a1 40)) [.int .i64 (wrap64 (Int.tdiv a1 40))] from rfl) (Reps.one (show Kd.M (Kd.int .i64) _ _ _ (wrap64 (Int.tdiv a1 3)) [.int .i64 (wrap64 (Int.tdiv a1 3))] from rfl) (Reps.one (show Kd.M (Kd.int .i64) _ _ _ a1 [.int .i64 a1] from rfl) (Reps.none _ _)))))))
                  intro v113 w20 ho21 hb hg_ hnew_
                  clear hg_ hnew_
                  (first | rw [← Ny112.out] at ho21 | (simp only [Int.reduceToNat] at ho21; rw [← Ny112.out] at ho21))
                  have n0_ := Aside0.mk (Kd.S_below (by (with_reducible repeat (first | apply Kd.S_alloc | apply Kd.S_drewN | apply Kd.S_drew)); exact HO_6.out) hb)
                  have n1_ := Aside0.mk (Kd.R_lower ho21 (below_size (by repeat (first | (with_reducible first | exact HB.out | apply below_alloc | apply pw_below_drewN | apply below_drew1 | refine below_set ?_ (IsS57.ge HI102.out)) | exact HB.out))))
                  have n2_ := Aside0.mk (IsS57.below (by repeat (first | (with_reducible first | exact HI102.out | apply IsS57.alloc | apply IsS57.drewN | apply IsS57.drew | apply IsS57.set_1) | exact HI102.out)) hb)
                  have n3_ := Aside0.mk (below_step (by repeat (first | (with_reducible first | exact HB.out | apply below_alloc | apply pw_below_drewN | apply below_drew1 | refine below_set ?_ (IsS57.ge HI102.out)) | exact HB.out)) hb)
                  clear HO_6
                  clear HI102
                  clear HB
                  have HO_6 := n0_
                  have HO114 := n1_
                  have HI102 := n2_
                  have HB := n3_
                  clear n0_ n1_ n2_ n3_
                  clear hb ho21
                  obtain ⟨Ao22, co22, eo22⟩ := Kd.R_slice HO114.out
                  subst eo22
                  obtain ⟨ado22, fo22, _⟩ := Kd.at_int (Kd.R_reads' HO114.out).2.2 0 (by decide) (by rw [Ny112.out]; simp)
                  cases fo22
                  refine hK.out _ _ trivial (fun hHeld => ?_)
                  clear hK K
                  refine norm_ (a' := ?_) ?_ ?_
                  rotate_left
                  ·show Act.put _ (some 34) _ = _
                   simp only [Act.put, List.setIfInBounds_toArray, List.set_cons_zero, List.set_cons_succ, i64_w, i32_w]
                   rfl
                  exact norm_ (by first | (simp only [putAll, Act.put, List.setIfInBounds_toArray, List.set_cons_zero, List.set_cons_succ]; done) | (simp only [putAll, Act.put, List.setIfInBounds_toArray, List.set_cons_zero, List.set_cons_succ]; rfl)) (hJ8 (.slice (some ado22) y112.length co22, ado22) _ ⟨(by (with_reducible repeat (first | apply Kd.R_alloc | apply Kd.R_drewN | apply Kd.R_drew)); exact HO114.out), (by (with_reducible repeat (first | apply Kd.S_alloc | apply Kd.S_drewN | apply Kd.S_drew)); exact HO_6.out), ⟨_, rfl⟩, (by repeat (first | (with_reducible first | exact HI102.out | apply IsS57.alloc | apply IsS57.drewN | apply IsS57.drew | apply IsS57.set_1) | exact HI102.out)), (by repeat (first | (with_reducible first | exact HB.out | apply below_alloc | apply pw_below_drewN | apply below_drew1 | refine below_set ?_ (IsS57.ge HI102.out)) | exact HB.out))⟩)
                ·skip
                 rintro ⟨v113, adz_v113⟩ w23 ⟨h0_, h1_, h2_, h3_, h4_⟩
                 have n0_ : Aside0 (Kd.R (Kd.int .i64) 3 w23 w.heap.size (fun _ => True) v113 y112) := ⟨h0_⟩
                 have n1_ : Aside0 (Kd.S (Kd.slice 48 (Kd.int .i16)) 47 w23 w.heap.size (fun _ => True) v106 x6_1) := ⟨h1_⟩
                 have n2_ : Aside0 (∃ c_, (v113 : Value) = .slice (some adz_v113) y112.length c_) := ⟨h2_⟩
                 have n3_ : Aside0 (IsS57 w w23 g102 l0 x103001_1) := ⟨h3_⟩
                 have n4_ : Aside0 (Below w.heap.size w w23) := ⟨h4_⟩
                 clear HO_6
                 clear HI102
                 clear HB
                 clear h0_ h1_ h2_ h3_ h4_
                 have HO114 := n0_
                 have HO_6 := n1_
                 have HA_HO114 := n2_
                 have HI102 := n3_
                 have HB := n4_
                 clear n0_ n1_ n2_ n3_ n4_
                 have hHeld := trivial
                 obtain ⟨co24, eo24⟩ := HA_HO114.out
                 clear HA_HO114
                 subst eo24
                 refine norm_ (a' := ?_) ?_ ?_
                 rotate_left
                 ·simp only [putAll, Act.put, List.setIfInBounds_toArray, List.set_cons_zero, List.set_cons_succ]
                  rfl
                 refine one_ (i := 1) (N := some 27) #[true, true, false, true, true, true, true, true, true, true, false, false, false, true, false, false, false, false, false] rfl rfl (one_of HT_.out (by kernel_rfl)) (by decide) (fun K hK => ?_)
                 refine goes_ Try.func31 (by kernel_rfl) rfl #[.pointer (some ⟨g102, 0, none⟩), .int .i64 12] (by rfl) rfl rfl (by (try simp only [List.map_toArray, List.map_cons, List.map_nil]); first | done | rfl | (simp only [List.length_drop, List.length_take]; rfl)) ?_
                 with_reducible refine (cutroomfilm_Tape_Next.calls g102 l0 x103001_1 12 t110 t111 w _ ?side1 ?side2 A14.out).mono ?_
                 (case side1 => repeat (first | (with_reducible first | exact HI102.out | apply IsS57.alloc | apply IsS57.drewN | apply IsS57.drew | apply IsS57.set_1) | exact HI102.out))
                 (case side2 => repeat (first | (with_reducible first | exact HB.out | apply below_alloc | apply pw_below_drewN | apply below_drew1 | refine below_set ?_ (IsS57.ge HI102.out)) | exact HB.out))
                 rintro e w25 ⟨rfl, hi, hb, hk⟩
                 refine ⟨_, rfl, ?_⟩
                 have n0_ := Aside0.mk (Kd.S_mono (Kd.S_keep (IsS57.apartS (show IsS57 w _ g102 l0 x103001_1 from by repeat (first | (with_reducible first | exact HI102.out | apply IsS57.alloc | apply IsS57.drewN | apply IsS57.drew | apply IsS57.set_1) | exact HI102.out)) (by (with_reducible repeat (first | apply Kd.S_alloc | apply Kd.S_drewN | apply Kd.S_drew)); exact HO_6.out) (by decide)) hk (fun _ h => h.2)) (fun _ h => h.1))
                 have n1_ := Aside0.mk (Kd.R_mono (Kd.R_keep (IsS57.apart (show IsS57 w _ g102 l0 x103001_1 from by repeat (first | (with_reducible first | exact HI102.out | apply IsS57.alloc | apply IsS57.drewN | apply IsS57.drew | apply IsS57.set_1) | exact HI102.out)) (by (with_reducible repeat (first | apply Kd.R_alloc | apply Kd.R_drewN | apply Kd.R_drew)); exact HO114.out) (by decide)) hk (fun _ h => h.2)) (fun _ h => h.1))
                 have n2_ := Aside0.mk (hb)
                 have n3_ := Aside0.mk (hi)
                 clear HO_6
                 clear HO114
                 clear HB
                 clear HI102
                 have HO_6 := n0_
                 have HO114 := n1_
                 have HB := n2_
                 have HI102 := n3_
                 clear n0_ n1_ n2_ n3_
                 (try clear hb)
                 (try clear hb2)
                 (try clear hk)
                 (try clear hi)
                 refine hK.out _ _ trivial (fun hHeld => ?_)
                 clear hK K
                 refine norm_ (a' := ?_) ?_ ?_
                 rotate_left
                 ·show Act.put _ (some 27) _ = _
                  simp only [Act.put, List.setIfInBounds_toArray, List.set_cons_zero, List.set_cons_succ, i64_w, i32_w]
                  rfl
                 refine pure_ (i := 2) (N := some 28) (v := ?_) (a' := ?_) #[true, true, true, true, true, true, true, true, true, true, false, false, false, true, false, false, false, false, false] rfl rfl (any_of HT_.out (by kernel_rfl)) (fun _ _ _ h => h) (Or.inl ⟨by rfl, ?_⟩) ?_ ?_
                 rotate_left
                 ·intro w'
                  go_simp
                  with_reducible rfl
                 rotate_left
                 ·simp only [Act.put, List.setIfInBounds_toArray, List.set_cons_zero, List.set_cons_succ, i64_w, i32_w]
                  rfl
                 exact norm_ (by first | (simp only [putAll, Act.put, List.setIfInBounds_toArray, List.set_cons_zero, List.set_cons_succ]; done) | (simp only [putAll, Act.put, List.setIfInBounds_toArray, List.set_cons_zero, List.set_cons_succ]; rfl)) (hJ1_8 (.slice (some adz_v113) y112.length co24, adz_v113) _ ⟨(by (with_reducible repeat (first | apply Kd.R_alloc | apply Kd.R_drewN | apply Kd.R_drew)); exact HO114.out), (by (with_reducible repeat (first | apply Kd.S_alloc | apply Kd.S_drewN | apply Kd.S_drew)); exact HO_6.out), ⟨_, rfl⟩, (by repeat (first | (with_reducible first | exact HI102.out | apply IsS57.alloc | apply IsS57.drewN | apply IsS57.drew | apply IsS57.set_1) | exact HI102.out)), (by repeat (first | (with_reducible first | exact HB.out | apply below_alloc | apply pw_below_drewN | apply below_drew1 | refine below_set ?_ (IsS57.ge HI102.out)) | exact HB.out))⟩)
               ·skip
                rintro _ w21 ⟨h0_, h1_, h2_⟩
                have n0_ : Aside0 (Kd.S (Kd.slice 48 (Kd.int .i16)) 47 w21 w.heap.size (fun _ => True) v106 x6_1) := ⟨h0_⟩
                have n1_ : Aside0 (IsS57 w w21 g102 l0 t111) := ⟨h1_⟩
                have n2_ : Aside0 (Below w.heap.size w w21) := ⟨h2_⟩
                clear HO_6
                clear HI102
                clear HB
                clear h0_ h1_ h2_
                have HO_6 := n0_
                have HI102 := n1_
                have HB := n2_
                clear n0_ n1_ n2_
                have hHeld := trivial
                refine norm_ (a' := ?_) ?_ ?_
                rotate_left
                ·simp only [putAll, Act.put, List.setIfInBounds_toArray, List.set_cons_zero, List.set_cons_succ]
                 rfl
                refine two_ (i := 8) (j := 10) (Ni := some 34) (Nj := some 36) #[true, true, true, true, true, true, true, true, true, true, false, false, false, true, false, false, false, false, false] #[true, true, true, true, true, true, true, true, false, true, true, false, false, true, false, false, false, false, false] rfl rfl rfl rfl (two_of HT_.out (by kernel_rfl)) (by decide) (by decide) (fun K hK => ?_) (fun K hK => ?_)
                ·skip
                 refine Kd.R_lit_step (Kd.int .i64) _ 3 ?hg (N := 34) ?hd (xs := ([0, 3, wrap64 (Int.tdiv a1 40), wrap64 (Int.tdiv a1 3), a1] : List Int)) (inner := [.int .i64 0, .int .i64 3, .int .i64 (wrap64 (Int.tdiv a1 40)), .int .i64 (wrap64 (Int.tdiv a1 3)), .int .i64 a1]) (ok := fun _ => True) (okp := fun _ => True) ?hr ?hp (fun _ hk => hk) trivial (Below.refl _ _) (Nat.le_refl _) (by simp) ?_; (case hd => rfl); (case hg => rfl); (case hr => first | (go_simp; done) | (go_simp; rfl)); (case hp => exact (Reps.one (show Kd.M (Kd.int .i64) _ _ _ 0 [.int .i64 0] from rfl) (Reps.one (show Kd.M (Kd.int .i64) _ _ _ 3 [.int .i64 3] from rfl) (Reps.one (show Kd.M (Kd.int .i64) _ _ _ (wrap64 (Int.tdiv a1 40)) [.int .i64 (wrap64 (Int.tdiv a1 40))] from rfl) (Reps.one (show Kd.M (Kd.int .i64) _ _ _ (wrap64 (Int.tdiv a1 3)) [.int .i64 (wrap64 (Int.tdiv a1 3))] from rfl) (Reps.one (show Kd.M (Kd.int .i64) _ _ _ a1 [.int .i64 a1] from rfl) (Reps.none _ _)))))))
                 intro v113 w22 ho23 hb hg_ hnew_
                 clear hg_ hnew_
                 (first | rw [← Ny112.out] at ho23 | (simp only [Int.reduceToNat] at ho23; rw [← Ny112.out] at ho23))
                 have n0_ := Aside0.mk (Kd.S_below (by (with_reducible repeat (first | apply Kd.S_alloc | apply Kd.S_drewN | apply Kd.S_drew)); exact HO_6.out) hb)
                 have n1_ := Aside0.mk (Kd.R_lower ho23 (below_size (by repeat (first | (with_reducible first | exact HB.out | apply below_alloc | apply pw_below_drewN | apply below_drew1 | refine below_set ?_ (IsS57.ge HI102.out)) | exact HB.out))))
                 have n2_ := Aside0.mk (IsS57.below (by repeat (first | (with_reducible first | exact HI102.out | apply IsS57.alloc | apply IsS57.drewN | apply IsS57.drew | apply IsS57.set_1) | exact HI102.out)) hb)
                 have n3_ := Aside0.mk (below_step (by repeat (first | (with_reducible first | exact HB.out | apply below_alloc | apply pw_below_drewN | apply below_drew1 | refine below_set ?_ (IsS57.ge HI102.out)) | exact HB.out)) hb)
                 clear HO_6
                 clear HI102
                 clear HB
                 have HO_6 := n0_
                 have HO114 := n1_
                 have HI102 := n2_
                 have HB := n3_
                 clear n0_ n1_ n2_ n3_
                 clear hb ho23
                 obtain ⟨Ao24, co24, eo24⟩ := Kd.R_slice HO114.out
                 subst eo24
                 obtain ⟨ado24, fo24, _⟩ := Kd.at_int (Kd.R_reads' HO114.out).2.2 0 (by decide) (by rw [Ny112.out]; simp)
                 cases fo24
                 refine hK.out _ _ trivial (fun hHeld => ?_)
                 clear hK K
                 refine norm_ (a' := ?_) ?_ ?_
                 rotate_left
                 ·show Act.put _ (some 34) _ = _
                  simp only [Act.put, List.setIfInBounds_toArray, List.set_cons_zero, List.set_cons_succ, i64_w, i32_w]
                  rfl
                 exact norm_ (by first | (simp only [putAll, Act.put, List.setIfInBounds_toArray, List.set_cons_zero, List.set_cons_succ]; done) | (simp only [putAll, Act.put, List.setIfInBounds_toArray, List.set_cons_zero, List.set_cons_succ]; rfl)) (hJ1_8 (.slice (some ado24) y112.length co24, ado24) _ ⟨(by (with_reducible repeat (first | apply Kd.R_alloc | apply Kd.R_drewN | apply Kd.R_drew)); exact HO114.out), (by (with_reducible repeat (first | apply Kd.S_alloc | apply Kd.S_drewN | apply Kd.S_drew)); exact HO_6.out), ⟨_, rfl⟩, (by repeat (first | (with_reducible first | exact HI102.out | apply IsS57.alloc | apply IsS57.drewN | apply IsS57.drew | apply IsS57.set_1) | exact HI102.out)), (by repeat (first | (with_reducible first | exact HB.out | apply below_alloc | apply pw_below_drewN | apply below_drew1 | refine below_set ?_ (IsS57.ge HI102.out)) | exact HB.out))⟩)
                ·skip
                 refine goes_ Try.func31 (by kernel_rfl) rfl #[.pointer (some ⟨g102, 0, none⟩), .int .i64 5] (by rfl) rfl rfl (by (try simp only [List.map_toArray, List.map_cons, List.map_nil]); first | done | rfl | (simp only [List.length_drop, List.length_take]; rfl)) ?_
                 with_reducible refine (cutroomfilm_Tape_Next.calls g102 l0 t111 5 t115 t116 w _ ?side1 ?side2 A15.out).mono ?_
                 (case side1 => repeat (first | (with_reducible first | exact HI102.out | apply IsS57.alloc | apply IsS57.drewN | apply IsS57.drew | apply IsS57.set_1) | exact HI102.out))
                 (case side2 => repeat (first | (with_reducible first | exact HB.out | apply below_alloc | apply pw_below_drewN | apply below_drew1 | refine below_set ?_ (IsS57.ge HI102.out)) | exact HB.out))
                 rintro e w22 ⟨rfl, hi, hb, hk⟩
                 refine ⟨_, rfl, ?_⟩
                 have n0_ := Aside0.mk (Kd.S_mono (Kd.S_keep (IsS57.apartS (show IsS57 w _ g102 l0 t111 from by repeat (first | (with_reducible first | exact HI102.out | apply IsS57.alloc | apply IsS57.drewN | apply IsS57.drew | apply IsS57.set_1) | exact HI102.out)) (by (with_reducible repeat (first | apply Kd.S_alloc | apply Kd.S_drewN | apply Kd.S_drew)); exact HO_6.out) (by decide)) hk (fun _ h => h.2)) (fun _ h => h.1))
                 have n1_ := Aside0.mk (hb)
                 have n2_ := Aside0.mk (hi)
                 clear HO_6
                 clear HB
                 clear HI102
                 have HO_6 := n0_
                 have HB := n1_
                 have HI102 := n2_
                 clear n0_ n1_ n2_
                 (try clear hb)
                 (try clear hb2)
                 (try clear hk)
                 (try clear hi)
                 refine hK.out _ _ trivial (fun hHeld => ?_)
                 clear hK K
                 refine norm_ (a' := ?_) ?_ ?_
                 rotate_left
                 ·show Act.put _ (some 36) _ = _
                  simp only [Act.put, List.setIfInBounds_toArray, List.set_cons_zero, List.set_cons_succ, i64_w, i32_w]
                  rfl
                 exact norm_ (by first | (simp only [putAll, Act.put, List.setIfInBounds_toArray, List.set_cons_zero, List.set_cons_succ]; done) | (simp only [putAll, Act.put, List.setIfInBounds_toArray, List.set_cons_zero, List.set_cons_succ]; rfl)) (hJ1_10 () _ ⟨(by (with_reducible repeat (first | apply Kd.S_alloc | apply Kd.S_drewN | apply Kd.S_drew)); exact HO_6.out), (by repeat (first | (with_reducible first | exact HI102.out | apply IsS57.alloc | apply IsS57.drewN | apply IsS57.drew | apply IsS57.set_1) | exact HI102.out)), (by repeat (first | (with_reducible first | exact HB.out | apply below_alloc | apply pw_below_drewN | apply below_drew1 | refine below_set ?_ (IsS57.ge HI102.out)) | exact HB.out))⟩)
              ·skip
               rintro _ w22 ⟨h0_, h1_, h2_⟩
               have n0_ : Aside0 (Kd.S (Kd.slice 48 (Kd.int .i16)) 47 w22 w.heap.size (fun _ => True) v106 x6_1) := ⟨h0_⟩
               have n1_ : Aside0 (IsS57 w w22 g102 l0 t116) := ⟨h1_⟩
               have n2_ : Aside0 (Below w.heap.size w w22) := ⟨h2_⟩
               clear HO_6
               clear HI102
               clear HB
               clear h0_ h1_ h2_
               have HO_6 := n0_
               have HI102 := n1_
               have HB := n2_
               clear n0_ n1_ n2_
               have hHeld := trivial
               refine norm_ (a' := ?_) ?_ ?_
               rotate_left
               ·simp only [putAll, Act.put, List.setIfInBounds_toArray, List.set_cons_zero, List.set_cons_succ]
                rfl
               refine two_ (i := 8) (j := 14) (Ni := some 34) (Nj := some 40) #[true, true, true, true, true, true, true, true, true, true, true, false, false, true, false, false, false, false, false] #[true, true, true, true, true, true, true, true, false, true, true, false, false, true, true, false, false, false, false] rfl rfl rfl rfl (two_of HT_.out (by kernel_rfl)) (by decide) (by decide) (fun K hK => ?_) (fun K hK => ?_)
               ·skip
                refine Kd.R_lit_step (Kd.int .i64) _ 3 ?hg (N := 34) ?hd (xs := ([0, 3, wrap64 (Int.tdiv a1 40), wrap64 (Int.tdiv a1 3), a1] : List Int)) (inner := [.int .i64 0, .int .i64 3, .int .i64 (wrap64 (Int.tdiv a1 40)), .int .i64 (wrap64 (Int.tdiv a1 3)), .int .i64 a1]) (ok := fun _ => True) (okp := fun _ => True) ?hr ?hp (fun _ hk => hk) trivial (Below.refl _ _) (Nat.le_refl _) (by simp) ?_; (case hd => rfl); (case hg => rfl); (case hr => first | (go_simp; done) | (go_simp; rfl)); (case hp => exact (Reps.one (show Kd.M (Kd.int .i64) _ _ _ 0 [.int .i64 0] from rfl) (Reps.one (show Kd.M (Kd.int .i64) _ _ _ 3 [.int .i64 3] from rfl) (Reps.one (show Kd.M (Kd.int .i64) _ _ _ (wrap64 (Int.tdiv a1 40)) [.int .i64 (wrap64 (Int.tdiv a1 40))] from rfl) (Reps.one (show Kd.M (Kd.int .i64) _ _ _ (wrap64 (Int.tdiv a1 3)) [.int .i64 (wrap64 (Int.tdiv a1 3))] from rfl) (Reps.one (show Kd.M (Kd.int .i64) _ _ _ a1 [.int .i64 a1] from rfl) (Reps.none _ _)))))))
                intro v113 w23 ho24 hb hg_ hnew_
                clear hg_ hnew_
                (first | rw [← Ny112.out] at ho24 | (simp only [Int.reduceToNat] at ho24; rw [← Ny112.out] at ho24))
                have n0_ := Aside0.mk (Kd.S_below (by (with_reducible repeat (first | apply Kd.S_alloc | apply Kd.S_drewN | apply Kd.S_drew)); exact HO_6.out) hb)
                have n1_ := Aside0.mk (Kd.R_lower ho24 (below_size (by repeat (first | (with_reducible first | exact HB.out | apply below_alloc | apply pw_below_drewN | apply below_drew1 | refine below_set ?_ (IsS57.ge HI102.out)) | exact HB.out))))
                have n2_ := Aside0.mk (IsS57.below (by repeat (first | (with_reducible first | exact HI102.out | apply IsS57.alloc | apply IsS57.drewN | apply IsS57.drew | apply IsS57.set_1) | exact HI102.out)) hb)
                have n3_ := Aside0.mk (below_step (by repeat (first | (with_reducible first | exact HB.out | apply below_alloc | apply pw_below_drewN | apply below_drew1 | refine below_set ?_ (IsS57.ge HI102.out)) | exact HB.out)) hb)
                clear HO_6
                clear HI102
                clear HB
                have HO_6 := n0_
                have HO114 := n1_
                have HI102 := n2_
                have HB := n3_
                clear n0_ n1_ n2_ n3_
                clear hb ho24
                obtain ⟨Ao25, co25, eo25⟩ := Kd.R_slice HO114.out
                subst eo25
                obtain ⟨ado25, fo25, _⟩ := Kd.at_int (Kd.R_reads' HO114.out).2.2 0 (by decide) (by rw [Ny112.out]; simp)
                cases fo25
                refine hK.out _ _ trivial (fun hHeld => ?_)
                clear hK K
                refine norm_ (a' := ?_) ?_ ?_
                rotate_left
                ·show Act.put _ (some 34) _ = _
                 simp only [Act.put, List.setIfInBounds_toArray, List.set_cons_zero, List.set_cons_succ, i64_w, i32_w]
                 rfl
                refine pure_ (i := 11) (N := some 37) (v := ?_) (a' := ?_) #[true, true, true, true, true, true, true, true, true, true, true, true, false, true, false, false, false, false, false] rfl rfl (any_of HT_.out (by kernel_rfl)) (fun _ _ _ h => h) (Or.inl ⟨by rfl, ?_⟩) ?_ ?_
                rotate_left
                ·intro w'
                 go_simp
                 with_reducible rfl
                rotate_left
                ·simp only [Act.put, List.setIfInBounds_toArray, List.set_cons_zero, List.set_cons_succ, i64_w, i32_w]
                 rfl
                exact norm_ (by first | (simp only [putAll, Act.put, List.setIfInBounds_toArray, List.set_cons_zero, List.set_cons_succ]; done) | (simp only [putAll, Act.put, List.setIfInBounds_toArray, List.set_cons_zero, List.set_cons_succ]; rfl)) (hJ1_8_10 (.slice (some ado25) y112.length co25, ado25) _ ⟨(by (with_reducible repeat (first | apply Kd.R_alloc | apply Kd.R_drewN | apply Kd.R_drew)); exact HO114.out), (by (with_reducible repeat (first | apply Kd.S_alloc | apply Kd.S_drewN | apply Kd.S_drew)); exact HO_6.out), ⟨_, rfl⟩, (by repeat (first | (with_reducible first | exact HI102.out | apply IsS57.alloc | apply IsS57.drewN | apply IsS57.drew | apply IsS57.set_1) | exact HI102.out)), (by repeat (first | (with_reducible first | exact HB.out | apply below_alloc | apply pw_below_drewN | apply below_drew1 | refine below_set ?_ (IsS57.ge HI102.out)) | exact HB.out))⟩)
               ·skip
                refine goes_ Try.func31 (by kernel_rfl) rfl #[.pointer (some ⟨g102, 0, none⟩), .int .i64 90] (by rfl) rfl rfl (by (try simp only [List.map_toArray, List.map_cons, List.map_nil]); first | done | rfl | (simp only [List.length_drop, List.length_take]; rfl)) ?_
                with_reducible refine (cutroomfilm_Tape_Next.calls g102 l0 t116 90 t118 t119 w _ ?side1 ?side2 A18.out).mono ?_
                (case side1 => repeat (first | (with_reducible first | exact HI102.out | apply IsS57.alloc | apply IsS57.drewN | apply IsS57.drew | apply IsS57.set_1) | exact HI102.out))
                (case side2 => repeat (first | (with_reducible first | exact HB.out | apply below_alloc | apply pw_below_drewN | apply below_drew1 | refine below_set ?_ (IsS57.ge HI102.out)) | exact HB.out))
                rintro e w23 ⟨rfl, hi, hb, hk⟩
                refine ⟨_, rfl, ?_⟩
                have n0_ := Aside0.mk (Kd.S_mono (Kd.S_keep (IsS57.apartS (show IsS57 w _ g102 l0 t116 from by repeat (first | (with_reducible first | exact HI102.out | apply IsS57.alloc | apply IsS57.drewN | apply IsS57.drew | apply IsS57.set_1) | exact HI102.out)) (by (with_reducible repeat (first | apply Kd.S_alloc | apply Kd.S_drewN | apply Kd.S_drew)); exact HO_6.out) (by decide)) hk (fun _ h => h.2)) (fun _ h => h.1))
                have n1_ := Aside0.mk (hb)
                have n2_ := Aside0.mk (hi)
                clear HO_6
                clear HB
                clear HI102
                have HO_6 := n0_
                have HB := n1_
                have HI102 := n2_
                clear n0_ n1_ n2_
                (try clear hb)
                (try clear hb2)
                (try clear hk)
                (try clear hi)
                refine hK.out _ _ trivial (fun hHeld => ?_)
                clear hK K
                refine norm_ (a' := ?_) ?_ ?_
                rotate_left
                ·show Act.put _ (some 40) _ = _
                 simp only [Act.put, List.setIfInBounds_toArray, List.set_cons_zero, List.set_cons_succ, i64_w, i32_w]
                 rfl
                refine pure_ (i := 15) (N := some 41) (v := ?_) (a' := ?_) #[true, true, true, true, true, true, true, true, false, true, true, false, false, true, true, true, false, false, false] rfl rfl (any_of HT_.out (by kernel_rfl)) (fun _ _ _ h => h) (Or.inl ⟨by rfl, ?_⟩) ?_ ?_
                rotate_left
                ·intro w'
                 go_simp
                 with_reducible rfl
                rotate_left
                ·simp only [Act.put, List.setIfInBounds_toArray, List.set_cons_zero, List.set_cons_succ, i64_w, i32_w]
                 rfl
                refine pure_ (i := 16) (N := some 8) (v := ?_) (a' := ?_) #[true, true, true, true, true, true, true, true, false, true, true, false, false, true, true, true, true, false, false] rfl rfl (any_of HT_.out (by kernel_rfl)) (fun _ _ _ h => h) (Or.inl ⟨by rfl, ?_⟩) ?_ ?_
                rotate_left
                ·intro w'
                 go_simp
                 with_reducible rfl
                rotate_left
                ·simp only [Act.put, List.setIfInBounds_toArray, List.set_cons_zero, List.set_cons_succ, i64_w, i32_w]
                 rfl
                exact norm_ (by first | (simp only [putAll, Act.put, List.setIfInBounds_toArray, List.set_cons_zero, List.set_cons_succ]; done) | (simp only [putAll, Act.put, List.setIfInBounds_toArray, List.set_cons_zero, List.set_cons_succ]; rfl)) (hJ1_10_14 () _ ⟨(by (with_reducible repeat (first | apply Kd.S_alloc | apply Kd.S_drewN | apply Kd.S_drew)); exact HO_6.out), (by repeat (first | (with_reducible first | exact HI102.out | apply IsS57.alloc | apply IsS57.drewN | apply IsS57.drew | apply IsS57.set_1) | exact HI102.out)), (by repeat (first | (with_reducible first | exact HB.out | apply below_alloc | apply pw_below_drewN | apply below_drew1 | refine below_set ?_ (IsS57.ge HI102.out)) | exact HB.out))⟩)
             ·skip
              rintro ⟨v113, adz_v113⟩ w24 ⟨h0_, h1_, h2_, h3_, h4_⟩
              have n0_ : Aside0 (Kd.R (Kd.int .i64) 3 w24 w.heap.size (fun _ => True) v113 y112) := ⟨h0_⟩
              have n1_ : Aside0 (Kd.S (Kd.slice 48 (Kd.int .i16)) 47 w24 w.heap.size (fun _ => True) v106 x6_1) := ⟨h1_⟩
              have n2_ : Aside0 (∃ c_, (v113 : Value) = .slice (some adz_v113) y112.length c_) := ⟨h2_⟩
              have n3_ : Aside0 (IsS57 w w24 g102 l0 t111) := ⟨h3_⟩
              have n4_ : Aside0 (Below w.heap.size w w24) := ⟨h4_⟩
              clear HO_6
              clear HI102
              clear HB
              clear h0_ h1_ h2_ h3_ h4_
              have HO114 := n0_
              have HO_6 := n1_
              have HA_HO114 := n2_
              have HI102 := n3_
              have HB := n4_
              clear n0_ n1_ n2_ n3_ n4_
              have hHeld := trivial
              obtain ⟨co25, eo25⟩ := HA_HO114.out
              clear HA_HO114
              subst eo25
              refine norm_ (a' := ?_) ?_ ?_
              rotate_left
              ·simp only [putAll, Act.put, List.setIfInBounds_toArray, List.set_cons_zero, List.set_cons_succ]
               rfl
              refine one_ (i := 10) (N := some 36) #[true, true, true, true, true, true, true, true, true, true, true, false, false, true, false, false, false, false, false] rfl rfl (one_of HT_.out (by kernel_rfl)) (by decide) (fun K hK => ?_)
              refine goes_ Try.func31 (by kernel_rfl) rfl #[.pointer (some ⟨g102, 0, none⟩), .int .i64 5] (by rfl) rfl rfl (by (try simp only [List.map_toArray, List.map_cons, List.map_nil]); first | done | rfl | (simp only [List.length_drop, List.length_take]; rfl)) ?_
              with_reducible refine (cutroomfilm_Tape_Next.calls g102 l0 t111 5 t115 t116 w _ ?side1 ?side2 A15.out).mono ?_
              (case side1 => repeat (first | (with_reducible first | exact HI102.out | apply IsS57.alloc | apply IsS57.drewN | apply IsS57.drew | apply IsS57.set_1) | exact HI102.out))
              (case side2 => repeat (first | (with_reducible first | exact HB.out | apply below_alloc | apply pw_below_drewN | apply below_drew1 | refine below_set ?_ (IsS57.ge HI102.out)) | exact HB.out))
              rintro e w26 ⟨rfl, hi, hb, hk⟩
              refine ⟨_, rfl, ?_⟩
              have n0_ := Aside0.mk (Kd.S_mono (Kd.S_keep (IsS57.apartS (show IsS57 w _ g102 l0 t111 from by repeat (first | (with_reducible first | exact HI102.out | apply IsS57.alloc | apply IsS57.drewN | apply IsS57.drew | apply IsS57.set_1) | exact HI102.out)) (by (with_reducible repeat (first | apply Kd.S_alloc | apply Kd.S_drewN | apply Kd.S_drew)); exact HO_6.out) (by decide)) hk (fun _ h => h.2)) (fun _ h => h.1))
              have n1_ := Aside0.mk (Kd.R_mono (Kd.R_keep (IsS57.apart (show IsS57 w _ g102 l0 t111 from by repeat (first | (with_reducible first | exact HI102.out | apply IsS57.alloc | apply IsS57.drewN | apply IsS57.drew | apply IsS57.set_1) | exact HI102.out)) (by (with_reducible repeat (first | apply Kd.R_alloc | apply Kd.R_drewN | apply Kd.R_drew)); exact HO114.out) (by decide)) hk (fun _ h => h.2)) (fun _ h => h.1))
              have n2_ := Aside0.mk (hb)
              have n3_ := Aside0.mk (hi)
              clear HO_6
              clear HO114
              clear HB
              clear HI102
              have HO_6 := n0_
              have HO114 := n1_
              have HB := n2_
              have HI102 := n3_
              clear n0_ n1_ n2_ n3_
              (try clear hb)
              (try clear hb2)
              (try clear hk)
              (try clear hi)
              refine hK.out _ _ trivial (fun hHeld => ?_)
              clear hK K
              refine norm_ (a' := ?_) ?_ ?_
              rotate_left
              ·show Act.put _ (some 36) _ = _
               simp only [Act.put, List.setIfInBounds_toArray, List.set_cons_zero, List.set_cons_succ, i64_w, i32_w]
               rfl
              refine pure_ (i := 11) (N := some 37) (v := ?_) (a' := ?_) #[true, true, true, true, true, true, true, true, true, true, true, true, false, true, false, false, false, false, false] rfl rfl (any_of HT_.out (by kernel_rfl)) (fun _ _ _ h => h) (Or.inl ⟨by rfl, ?_⟩) ?_ ?_
              rotate_left
              ·intro w'
               go_simp
               with_reducible rfl
              rotate_left
              ·simp only [Act.put, List.setIfInBounds_toArray, List.set_cons_zero, List.set_cons_succ, i64_w, i32_w]
               rfl
              exact norm_ (by first | (simp only [putAll, Act.put, List.setIfInBounds_toArray, List.set_cons_zero, List.set_cons_succ]; done) | (simp only [putAll, Act.put, List.setIfInBounds_toArray, List.set_cons_zero, List.set_cons_succ]; rfl)) (hJ1_8_10 (.slice (some adz_v113) y112.length co25, adz_v113) _ ⟨(by (with_reducible repeat (first | apply Kd.R_alloc | apply Kd.R_drewN | apply Kd.R_drew)); exact HO114.out), (by (with_reducible repeat (first | apply Kd.S_alloc | apply Kd.S_drewN | apply Kd.S_drew)); exact HO_6.out), ⟨_, rfl⟩, (by repeat (first | (with_reducible first | exact HI102.out | apply IsS57.alloc | apply IsS57.drewN | apply IsS57.drew | apply IsS57.set_1) | exact HI102.out)), (by repeat (first | (with_reducible first | exact HB.out | apply below_alloc | apply pw_below_drewN | apply below_drew1 | refine below_set ?_ (IsS57.ge HI102.out)) | exact HB.out))⟩)
            ·skip
             rintro _ w23 ⟨h0_, h1_, h2_⟩
             have n0_ : Aside0 (Kd.S (Kd.slice 48 (Kd.int .i16)) 47 w23 w.heap.size (fun _ => True) v106 x6_1) := ⟨h0_⟩
             have n1_ : Aside0 (IsS57 w w23 g102 l0 t119) := ⟨h1_⟩
             have n2_ : Aside0 (Below w.heap.size w w23) := ⟨h2_⟩
             clear HO_6
             clear HI102
             clear HB
             clear h0_ h1_ h2_
             have HO_6 := n0_
             have HI102 := n1_
             have HB := n2_
             clear n0_ n1_ n2_
             have hHeld := trivial
             refine norm_ (a' := ?_) ?_ ?_
             rotate_left
             ·simp only [putAll, Act.put, List.setIfInBounds_toArray, List.set_cons_zero, List.set_cons_succ]
              rfl
             refine one_ (i := 8) (N := some 34) #[true, true, true, true, true, true, true, true, true, true, true, false, false, true, true, true, true, false, false] rfl rfl (one_of HT_.out (by kernel_rfl)) (by decide) (fun K hK => ?_)
             refine Kd.R_lit_step (Kd.int .i64) _ 3 ?hg (N := 34) ?hd (xs := ([0, 3, wrap64 (Int.tdiv a1 40), wrap64 (Int.tdiv a1 3), a1] : List Int)) (inner := [.int .i64 0, .int .i64 3, .int .i64 (wrap64 (Int.tdiv a1 40)), .int .i64 (wrap64 (Int.tdiv a1 3)), .int .i64 a1]) (ok := fun _ => True) (okp := fun _ => True) ?hr ?hp (fun _ hk => hk) trivial (Below.refl _ _) (Nat.le_refl _) (by simp) ?_; (case hd => rfl); (case hg => rfl); (case hr => first | (go_simp; done) | (go_simp; rfl)); (case hp => exact (Reps.one (show Kd.M (Kd.int .i64) _ _ _ 0 [.int .i64 0] from rfl) (Reps.one (show Kd.M (Kd.int .i64) _ _ _ 3 [.int .i64 3] from rfl) (Reps.one (show Kd.M (Kd.int .i64) _ _ _ (wrap64 (Int.tdiv a1 40)) [.int .i64 (wrap64 (Int.tdiv a1 40))] from rfl) (Reps.one (show Kd.M (Kd.int .i64) _ _ _ (wrap64 (Int.tdiv a1 3)) [.int .i64 (wrap64 (Int.tdiv a1 3))] from rfl) (Reps.one (show Kd.M (Kd.int .i64) _ _ _ a1 [.int .i64 a1] from rfl) (Reps.none _ _)))))))
             intro v113 w24 ho25 hb hg_ hnew_
             clear hg_ hnew_
             (first | rw [← Ny112.out] at ho25 | (simp only [Int.reduceToNat] at ho25; rw [← Ny112.out] at ho25))
             have n0_ := Aside0.mk (Kd.S_below (by (with_reducible repeat (first | apply Kd.S_alloc | apply Kd.S_drewN | apply Kd.S_drew)); exact HO_6.out) hb)
             have n1_ := Aside0.mk (Kd.R_lower ho25 (below_size (by repeat (first | (with_reducible first | exact HB.out | apply below_alloc | apply pw_below_drewN | apply below_drew1 | refine below_set ?_ (IsS57.ge HI102.out)) | exact HB.out))))
             have n2_ := Aside0.mk (IsS57.below (by repeat (first | (with_reducible first | exact HI102.out | apply IsS57.alloc | apply IsS57.drewN | apply IsS57.drew | apply IsS57.set_1) | exact HI102.out)) hb)
             have n3_ := Aside0.mk (below_step (by repeat (first | (with_reducible first | exact HB.out | apply below_alloc | apply pw_below_drewN | apply below_drew1 | refine below_set ?_ (IsS57.ge HI102.out)) | exact HB.out)) hb)
             clear HO_6
             clear HI102
             clear HB
             have HO_6 := n0_
             have HO114 := n1_
             have HI102 := n2_
             have HB := n3_
             clear n0_ n1_ n2_ n3_
             clear hb ho25
             obtain ⟨Ao26, co26, eo26⟩ := Kd.R_slice HO114.out
             subst eo26
             obtain ⟨ado26, fo26, _⟩ := Kd.at_int (Kd.R_reads' HO114.out).2.2 0 (by decide) (by rw [Ny112.out]; simp)
             cases fo26
             refine hK.out _ _ trivial (fun hHeld => ?_)
             clear hK K
             refine norm_ (a' := ?_) ?_ ?_
             rotate_left
             ·show Act.put _ (some 34) _ = _
              simp only [Act.put, List.setIfInBounds_toArray, List.set_cons_zero, List.set_cons_succ, i64_w, i32_w]
              rfl
             refine pure_ (i := 11) (N := some 37) (v := ?_) (a' := ?_) #[true, true, true, true, true, true, true, true, true, true, true, true, false, true, true, true, true, false, false] rfl rfl (any_of HT_.out (by kernel_rfl)) (fun _ _ _ h => h) (Or.inl ⟨by rfl, ?_⟩) ?_ ?_
             rotate_left
             ·intro w'
              go_simp
              with_reducible rfl
             rotate_left
             ·simp only [Act.put, List.setIfInBounds_toArray, List.set_cons_zero, List.set_cons_succ, i64_w, i32_w]
              rfl
             exact norm_ (by first | (simp only [putAll, Act.put, List.setIfInBounds_toArray, List.set_cons_zero, List.set_cons_succ]; done) | (simp only [putAll, Act.put, List.setIfInBounds_toArray, List.set_cons_zero, List.set_cons_succ]; rfl)) (hJ1_8_10_14 (.slice (some ado26) y112.length co26, ado26) _ ⟨(by (with_reducible repeat (first | apply Kd.R_alloc | apply Kd.R_drewN | apply Kd.R_drew)); exact HO114.out), (by (with_reducible repeat (first | apply Kd.S_alloc | apply Kd.S_drewN | apply Kd.S_drew)); exact HO_6.out), ⟨_, rfl⟩, (by repeat (first | (with_reducible first | exact HI102.out | apply IsS57.alloc | apply IsS57.drewN | apply IsS57.drew | apply IsS57.set_1) | exact HI102.out)), (by repeat (first | (with_reducible first | exact HB.out | apply below_alloc | apply pw_below_drewN | apply below_drew1 | refine below_set ?_ (IsS57.ge HI102.out)) | exact HB.out))⟩)
           ·skip
            rintro ⟨v113, adz_v113⟩ w25 ⟨h0_, h1_, h2_, h3_, h4_⟩
            have n0_ : Aside0 (Kd.R (Kd.int .i64) 3 w25 w.heap.size (fun _ => True) v113 y112) := ⟨h0_⟩
            have n1_ : Aside0 (Kd.S (Kd.slice 48 (Kd.int .i16)) 47 w25 w.heap.size (fun _ => True) v106 x6_1) := ⟨h1_⟩
            have n2_ : Aside0 (∃ c_, (v113 : Value) = .slice (some adz_v113) y112.length c_) := ⟨h2_⟩
            have n3_ : Aside0 (IsS57 w w25 g102 l0 t116) := ⟨h3_⟩
            have n4_ : Aside0 (Below w.heap.size w w25) := ⟨h4_⟩
            clear HO_6
            clear HI102
            clear HB
            clear h0_ h1_ h2_ h3_ h4_
            have HO114 := n0_
            have HO_6 := n1_
            have HA_HO114 := n2_
            have HI102 := n3_
            have HB := n4_
            clear n0_ n1_ n2_ n3_ n4_
            have hHeld := trivial
            obtain ⟨co26, eo26⟩ := HA_HO114.out
            clear HA_HO114
            subst eo26
            refine norm_ (a' := ?_) ?_ ?_
            rotate_left
            ·simp only [putAll, Act.put, List.setIfInBounds_toArray, List.set_cons_zero, List.set_cons_succ]
             rfl
            refine two_ (i := 12) (j := 14) (Ni := some 38) (Nj := some 40) #[true, true, true, true, true, true, true, true, true, true, true, true, true, true, false, false, false, false, false] #[true, true, true, true, true, true, true, true, true, true, true, true, false, true, true, false, false, false, false] rfl rfl rfl rfl (two_of HT_.out (by kernel_rfl)) (by decide) (by decide) (fun K hK => ?_) (fun K hK => ?_)
            ·skip
             (have p117 : 0 ≤ (t115 : Int) := of_decide_eq_true (by first | (with_reducible assumption) | assumption); have q117 : t115 < (y112.length : Int) := of_decide_eq_true (by first | (with_reducible assumption) | assumption); obtain ⟨ad117, e117, hx117_0⟩ := Kd.at_int (Kd.R_reads' HO114.out).2.2 t115 p117 q117; obtain rfl : adz_v113 = ad117 := (by injection e117))
             refine value_ (w1 := ?_) (v := ?_) (by rfl) rfl ?_ ?_
             rotate_left 2
             ·go_simp
              constructor
              ·rfl
              ·rfl
             clear hx117_0
             refine hK.out _ _ trivial (fun hHeld => ?_)
             clear hK K
             refine norm_ (a' := ?_) ?_ ?_
             rotate_left
             ·show Act.put _ (some 38) _ = _
              simp only [Act.put, List.setIfInBounds_toArray, List.set_cons_zero, List.set_cons_succ, i64_w, i32_w]
              rfl
             exact norm_ (by first | (simp only [putAll, Act.put, List.setIfInBounds_toArray, List.set_cons_zero, List.set_cons_succ]; done) | (simp only [putAll, Act.put, List.setIfInBounds_toArray, List.set_cons_zero, List.set_cons_succ]; rfl)) (hJ1_8_10_12 (.slice (some adz_v113) y112.length co26, adz_v113) _ ⟨(by (with_reducible repeat (first | apply Kd.R_alloc | apply Kd.R_drewN | apply Kd.R_drew)); exact HO114.out), (by (with_reducible repeat (first | apply Kd.S_alloc | apply Kd.S_drewN | apply Kd.S_drew)); exact HO_6.out), ⟨_, rfl⟩, (by repeat (first | (with_reducible first | exact HI102.out | apply IsS57.alloc | apply IsS57.drewN | apply IsS57.drew | apply IsS57.set_1) | exact HI102.out)), (by repeat (first | (with_reducible first | exact HB.out | apply below_alloc | apply pw_below_drewN | apply below_drew1 | refine below_set ?_ (IsS57.ge HI102.out)) | exact HB.out))⟩)
            ·skip
             refine goes_ Try.func31 (by kernel_rfl) rfl #[.pointer (some ⟨g102, 0, none⟩), .int .i64 90] (by rfl) rfl rfl (by (try simp only [List.map_toArray, List.map_cons, List.map_nil]); first | done | rfl | (simp only [List.length_drop, List.length_take]; rfl)) ?_
             with_reducible refine (cutroomfilm_Tape_Next.calls g102 l0 t116 90 t118 t119 w _ ?side1 ?side2 A18.out).mono ?_
             (case side1 => repeat (first | (with_reducible first | exact HI102.out | apply IsS57.alloc | apply IsS57.drewN | apply IsS57.drew | apply IsS57.set_1) | exact HI102.out))
             (case side2 => repeat (first | (with_reducible first | exact HB.out | apply below_alloc | apply pw_below_drewN | apply below_drew1 | refine below_set ?_ (IsS57.ge HI102.out)) | exact HB.out))
             rintro e w27 ⟨rfl, hi, hb, hk⟩
             refine ⟨_, rfl, ?_⟩
             have n0_ := Aside0.mk (Kd.S_mono (Kd.S_keep (IsS57.apartS (show IsS57 w _ g102 l0 t116 from by repeat (first | (with_reducible first | exact HI102.out | apply IsS57.alloc | apply IsS57.drewN | apply IsS57.drew | apply IsS57.set_1) | exact HI102.out)) (by (with_reducible repeat (first | apply Kd.S_alloc | apply Kd.S_drewN | apply Kd.S_drew)); exact HO_6.out) (by decide)) hk (fun _ h => h.2)) (fun _ h => h.1))
             have n1_ := Aside0.mk (Kd.R_mono (Kd.R_keep (IsS57.apart (show IsS57 w _ g102 l0 t116 from by repeat (first | (with_reducible first | exact HI102.out | apply IsS57.alloc | apply IsS57.drewN | apply IsS57.drew | apply IsS57.set_1) | exact HI102.out)) (by (with_reducible repeat (first | apply Kd.R_alloc | apply Kd.R_drewN | apply Kd.R_drew)); exact HO114.out) (by decide)) hk (fun _ h => h.2)) (fun _ h => h.1))
             have n2_ := Aside0.mk (hb)
             have n3_ := Aside0.mk (hi)
             clear HO_6
             clear HO114
             clear HB
             clear HI102
             have HO_6 := n0_
             have HO114 := n1_
             have HB := n2_
             have HI102 := n3_
             clear n0_ n1_ n2_ n3_
             (try clear hb)
             (try clear hb2)
             (try clear hk)
             (try clear hi)
             refine hK.out _ _ trivial (fun hHeld => ?_)
             clear hK K
             refine norm_ (a' := ?_) ?_ ?_
             rotate_left
             ·show Act.put _ (some 40) _ = _
              simp only [Act.put, List.setIfInBounds_toArray, List.set_cons_zero, List.set_cons_succ, i64_w, i32_w]
              rfl
             refine pure_ (i := 15) (N := some 41) (v := ?_) (a' := ?_) #[true, true, true, true, true, true, true, true, true, true, true, true, false, true, true, true, false, false, false] rfl rfl (any_of HT_.out (by kernel_rfl)) (fun _ _ _ h => h) (Or.inl ⟨by rfl, ?_⟩) ?_ ?_
             rotate_left
             ·intro w'
              go_simp
              with_reducible rfl
             rotate_left
             ·simp only [Act.put, List.setIfInBounds_toArray, List.set_cons_zero, List.set_cons_succ, i64_w, i32_w]
              rfl
             refine pure_ (i := 16) (N := some 8) (v := ?_) (a' := ?_) #[true, true, true, true, true, true, true, true, true, true, true, true, false, true, true, true, true, false, false] rfl rfl (any_of HT_.out (by kernel_rfl)) (fun _ _ _ h => h) (Or.inl ⟨by rfl, ?_⟩) ?_ ?_
             rotate_left
             ·intro w'
              go_simp
              with_reducible rfl
             rotate_left
             ·simp only [Act.put, List.setIfInBounds_toArray, List.set_cons_zero, List.set_cons_succ, i64_w, i32_w]
              rfl
             exact norm_ (by first | (simp only [putAll, Act.put, List.setIfInBounds_toArray, List.set_cons_zero, List.set_cons_succ]; done) | (simp only [putAll, Act.put, List.setIfInBounds_toArray, List.set_cons_zero, List.set_cons_succ]; rfl)) (hJ1_8_10_14 (.slice (some adz_v113) y112.length co26, adz_v113) _ ⟨(by (with_reducible repeat (first | apply Kd.R_alloc | apply Kd.R_drewN | apply Kd.R_drew)); exact HO114.out), (by (with_reducible repeat (first | apply Kd.S_alloc | apply Kd.S_drewN | apply Kd.S_drew)); exact HO_6.out), ⟨_, rfl⟩, (by repeat (first | (with_reducible first | exact HI102.out | apply IsS57.alloc | apply IsS57.drewN | apply IsS57.drew | apply IsS57.set_1) | exact HI102.out)), (by repeat (first | (with_reducible first | exact HB.out | apply below_alloc | apply pw_below_drewN | apply below_drew1 | refine below_set ?_ (IsS57.ge HI102.out)) | exact HB.out))⟩)
          ·skip
           rintro ⟨v113, adz_v113⟩ w26 ⟨h0_, h1_, h2_, h3_, h4_⟩
           have n0_ : Aside0 (Kd.R (Kd.int .i64) 3 w26 w.heap.size (fun _ => True) v113 y112) := ⟨h0_⟩
           have n1_ : Aside0 (Kd.S (Kd.slice 48 (Kd.int .i16)) 47 w26 w.heap.size (fun _ => True) v106 x6_1) := ⟨h1_⟩
           have n2_ : Aside0 (∃ c_, (v113 : Value) = .slice (some adz_v113) y112.length c_) := ⟨h2_⟩
           have n3_ : Aside0 (IsS57 w w26 g102 l0 t119) := ⟨h3_⟩
           have n4_ : Aside0 (Below w.heap.size w w26) := ⟨h4_⟩
           clear HO_6
           clear HI102
           clear HB
           clear h0_ h1_ h2_ h3_ h4_
           have HO114 := n0_
           have HO_6 := n1_
           have HA_HO114 := n2_
           have HI102 := n3_
           have HB := n4_
           clear n0_ n1_ n2_ n3_ n4_
           have hHeld := trivial
           obtain ⟨co27, eo27⟩ := HA_HO114.out
           clear HA_HO114
           subst eo27
           refine norm_ (a' := ?_) ?_ ?_
           rotate_left
           ·simp only [putAll, Act.put, List.setIfInBounds_toArray, List.set_cons_zero, List.set_cons_succ]
            rfl
           refine one_ (i := 12) (N := some 38) #[true, true, true, true, true, true, true, true, true, true, true, true, true, true, true, true, true, false, false] rfl rfl (one_of HT_.out (by kernel_rfl)) (by decide) (fun K hK => ?_)
           (have p117 : 0 ≤ (t115 : Int) := of_decide_eq_true (by first | (with_reducible assumption) | assumption); have q117 : t115 < (y112.length : Int) := of_decide_eq_true (by first | (with_reducible assumption) | assumption); obtain ⟨ad117, e117, hx117_0⟩ := Kd.at_int (Kd.R_reads' HO114.out).2.2 t115 p117 q117; obtain rfl : adz_v113 = ad117 := (by injection e117))
           refine value_ (w1 := ?_) (v := ?_) (by rfl) rfl ?_ ?_
           rotate_left 2
           ·go_simp
            constructor
            ·rfl
            ·rfl
           clear hx117_0
           refine hK.out _ _ trivial (fun hHeld => ?_)
           clear hK K
           refine norm_ (a' := ?_) ?_ ?_
           rotate_left
           ·show Act.put _ (some 38) _ = _
            simp only [Act.put, List.setIfInBounds_toArray, List.set_cons_zero, List.set_cons_succ, i64_w, i32_w]
            rfl
           exact norm_ (by first | (simp only [putAll, Act.put, List.setIfInBounds_toArray, List.set_cons_zero, List.set_cons_succ]; done) | (simp only [putAll, Act.put, List.setIfInBounds_toArray, List.set_cons_zero, List.set_cons_succ]; rfl)) (hJ1_8_10_12_14 (.slice (some adz_v113) y112.length co27, adz_v113) _ ⟨(by (with_reducible repeat (first | apply Kd.R_alloc | apply Kd.R_drewN | apply Kd.R_drew)); exact HO114.out), (by (with_reducible repeat (first | apply Kd.S_alloc | apply Kd.S_drewN | apply Kd.S_drew)); exact HO_6.out), ⟨_, rfl⟩, (by repeat (first | (with_reducible first | exact HI102.out | apply IsS57.alloc | apply IsS57.drewN | apply IsS57.drew | apply IsS57.set_1) | exact HI102.out)), (by repeat (first | (with_reducible first | exact HB.out | apply below_alloc | apply pw_below_drewN | apply below_drew1 | refine below_set ?_ (IsS57.ge HI102.out)) | exact HB.out))⟩)
         ·skip
          rintro ⟨v113, adz_v113⟩ w25 ⟨h0_, h1_, h2_, h3_, h4_⟩
          have n0_ : Aside0 (Kd.R (Kd.int .i64) 3 w25 w.heap.size (fun _ => True) v113 y112) := ⟨h0_⟩
          have n1_ : Aside0 (Kd.S (Kd.slice 48 (Kd.int .i16)) 47 w25 w.heap.size (fun _ => True) v106 x6_1) := ⟨h1_⟩
          have n2_ : Aside0 (∃ c_, (v113 : Value) = .slice (some adz_v113) y112.length c_) := ⟨h2_⟩
          have n3_ : Aside0 (IsS57 w w25 g102 l0 t116) := ⟨h3_⟩
          have n4_ : Aside0 (Below w.heap.size w w25) := ⟨h4_⟩
          clear HO_6
          clear HI102
          clear HB
          clear h0_ h1_ h2_ h3_ h4_
          have HO114 := n0_
          have HO_6 := n1_
          have HA_HO114 := n2_
          have HI102 := n3_
          have HB := n4_
          clear n0_ n1_ n2_ n3_ n4_
          have hHeld := trivial
          obtain ⟨co26, eo26⟩ := HA_HO114.out
          clear HA_HO114
          subst eo26
          refine norm_ (a' := ?_) ?_ ?_
          rotate_left
          ·simp only [putAll, Act.put, List.setIfInBounds_toArray, List.set_cons_zero, List.set_cons_succ]
           rfl
          refine one_ (i := 14) (N := some 40) #[true, true, true, true, true, true, true, true, true, true, true, true, true, true, true, false, false, false, false] rfl rfl (one_of HT_.out (by kernel_rfl)) (by decide) (fun K hK => ?_)
          refine goes_ Try.func31 (by kernel_rfl) rfl #[.pointer (some ⟨g102, 0, none⟩), .int .i64 90] (by rfl) rfl rfl (by (try simp only [List.map_toArray, List.map_cons, List.map_nil]); first | done | rfl | (simp only [List.length_drop, List.length_take]; rfl)) ?_
          with_reducible refine (cutroomfilm_Tape_Next.calls g102 l0 t116 90 t118 t119 w _ ?side1 ?side2 A18.out).mono ?_
          (case side1 => repeat (first | (with_reducible first | exact HI102.out | apply IsS57.alloc | apply IsS57.drewN | apply IsS57.drew | apply IsS57.set_1) | exact HI102.out))
          (case side2 => repeat (first | (with_reducible first | exact HB.out | apply below_alloc | apply pw_below_drewN | apply below_drew1 | refine below_set ?_ (IsS57.ge HI102.out)) | exact HB.out))
          rintro e w27 ⟨rfl, hi, hb, hk⟩
          refine ⟨_, rfl, ?_⟩
          have n0_ := Aside0.mk (Kd.S_mono (Kd.S_keep (IsS57.apartS (show IsS57 w _ g102 l0 t116 from by repeat (first | (with_reducible first | exact HI102.out | apply IsS57.alloc | apply IsS57.drewN | apply IsS57.drew | apply IsS57.set_1) | exact HI102.out)) (by (with_reducible repeat (first | apply Kd.S_alloc | apply Kd.S_drewN | apply Kd.S_drew)); exact HO_6.out) (by decide)) hk (fun _ h => h.2)) (fun _ h => h.1))
          have n1_ := Aside0.mk (Kd.R_mono (Kd.R_keep (IsS57.apart (show IsS57 w _ g102 l0 t116 from by repeat (first | (with_reducible first | exact HI102.out | apply IsS57.alloc | apply IsS57.drewN | apply IsS57.drew | apply IsS57.set_1) | exact HI102.out)) (by (with_reducible repeat (first | apply Kd.R_alloc | apply Kd.R_drewN | apply Kd.R_drew)); exact HO114.out) (by decide)) hk (fun _ h => h.2)) (fun _ h => h.1))
          have n2_ := Aside0.mk (hb)
          have n3_ := Aside0.mk (hi)
          clear HO_6
          clear HO114
          clear HB
          clear HI102
          have HO_6 := n0_
          have HO114 := n1_
          have HB := n2_
          have HI102 := n3_
          clear n0_ n1_ n2_ n3_
          (try clear hb)
          (try clear hb2)
          (try clear hk)
          (try clear hi)
          refine hK.out _ _ trivial (fun hHeld => ?_)
          clear hK K
          refine norm_ (a' := ?_) ?_ ?_
          rotate_left
          ·show Act.put _ (some 40) _ = _
           simp only [Act.put, List.setIfInBounds_toArray, List.set_cons_zero, List.set_cons_succ, i64_w, i32_w]
           rfl
          refine pure_ (i := 15) (N := some 41) (v := ?_) (a' := ?_) #[true, true, true, true, true, true, true, true, true, true, true, true, true, true, true, true, false, false, false] rfl rfl (any_of HT_.out (by kernel_rfl)) (fun _ _ _ h => h) (Or.inl ⟨by rfl, ?_⟩) ?_ ?_
          rotate_left
          ·intro w'
           go_simp
           with_reducible rfl
          rotate_left
          ·simp only [Act.put, List.setIfInBounds_toArray, List.set_cons_zero, List.set_cons_succ, i64_w, i32_w]
           rfl
          refine pure_ (i := 16) (N := some 8) (v := ?_) (a' := ?_) #[true, true, true, true, true, true, true, true, true, true, true, true, true, true, true, true, true, false, false] rfl rfl (any_of HT_.out (by kernel_rfl)) (fun _ _ _ h => h) (Or.inl ⟨by rfl, ?_⟩) ?_ ?_
          rotate_left
          ·intro w'
           go_simp
           with_reducible rfl
          rotate_left
          ·simp only [Act.put, List.setIfInBounds_toArray, List.set_cons_zero, List.set_cons_succ, i64_w, i32_w]
           rfl
          exact norm_ (by first | (simp only [putAll, Act.put, List.setIfInBounds_toArray, List.set_cons_zero, List.set_cons_succ]; done) | (simp only [putAll, Act.put, List.setIfInBounds_toArray, List.set_cons_zero, List.set_cons_succ]; rfl)) (hJ1_8_10_12_14 (.slice (some adz_v113) y112.length co26, adz_v113) _ ⟨(by (with_reducible repeat (first | apply Kd.R_alloc | apply Kd.R_drewN | apply Kd.R_drew)); exact HO114.out), (by (with_reducible repeat (first | apply Kd.S_alloc | apply Kd.S_drewN | apply Kd.S_drew)); exact HO_6.out), ⟨_, rfl⟩, (by repeat (first | (with_reducible first | exact HI102.out | apply IsS57.alloc | apply IsS57.drewN | apply IsS57.drew | apply IsS57.set_1) | exact HI102.out)), (by repeat (first | (with_reducible first | exact HB.out | apply below_alloc | apply pw_below_drewN | apply below_drew1 | refine below_set ?_ (IsS57.ge HI102.out)) | exact HB.out))⟩)
        rintro ⟨v113, adz_v113⟩ w26 ⟨h0_, h1_, h2_, h3_, h4_⟩
        have n0_ : Aside0 (Kd.R (Kd.int .i64) 3 w26 w.heap.size (fun _ => True) v113 y112) := ⟨h0_⟩
        have n1_ : Aside0 (Kd.S (Kd.slice 48 (Kd.int .i16)) 47 w26 w.heap.size (fun _ => True) v106 x6_1) := ⟨h1_⟩
        have n2_ : Aside0 (∃ c_, (v113 : Value) = .slice (some adz_v113) y112.length c_) := ⟨h2_⟩
        have n3_ : Aside0 (IsS57 w w26 g102 l0 t119) := ⟨h3_⟩
        have n4_ : Aside0 (Below w.heap.size w w26) := ⟨h4_⟩
        clear HO_6
        clear HI102
        clear HB
        clear h0_ h1_ h2_ h3_ h4_
        have HO114 := n0_
        have HO_6 := n1_
        have HA_HO114 := n2_
        have HI102 := n3_
        have HB := n4_
        clear n0_ n1_ n2_ n3_ n4_
        have hHeld := trivial
        obtain ⟨co27, eo27⟩ := HA_HO114.out
        clear HA_HO114
        subst eo27
        refine norm_ (a' := ?_) ?_ ?_
        rotate_left
        ·simp only [putAll, Act.put, List.setIfInBounds_toArray, List.set_cons_zero, List.set_cons_succ]
         rfl
        refine pure_ (i := 17) (N := some 9) (v := ?_) (a' := ?_) #[true, true, true, true, true, true, true, true, true, true, true, true, true, true, true, true, true, true, false] rfl rfl (any_of HT_.out (by kernel_rfl)) (fun _ _ _ h => h) (Or.inl ⟨by rfl, ?_⟩) ?_ ?_
        rotate_left
        ·intro w'
         go_simp
         with_reducible rfl
        rotate_left
        ·simp only [Act.put, List.setIfInBounds_toArray, List.set_cons_zero, List.set_cons_succ, i64_w, i32_w]
         rfl
        refine pure_ (i := 18) (N := some 10) (v := ?_) (a' := ?_) #[true, true, true, true, true, true, true, true, true, true, true, true, true, true, true, true, true, true, true] rfl rfl (any_of HT_.out (by kernel_rfl)) (fun _ _ _ h => h) (Or.inl ⟨by rfl, ?_⟩) ?_ ?_
        rotate_left
        ·intro w'
         go_simp
         with_reducible rfl
        rotate_left
        ·simp only [Act.put, List.setIfInBounds_toArray, List.set_cons_zero, List.set_cons_succ, i64_w, i32_w]
         rfl
        refine done_ (done_of HT_.out (by kernel_rfl)) ?_
        obtain ⟨Ao28, co28, eo28⟩ := Kd.S_slice HO_6.out
        subst eo28
        try go_wp2
        go_loopg [44] k1 (fun kq v44 w' => ∃ (x6_2 : List (List Int)) (x44_2 : Int), v44 = .int .i64 x44_2 ∧ Aside0 (cutroomlaw28_made.l1 kq a1 x6_2 x7_1 (wrap64 (60 * t110)) (rd y112 t115) (wrap64 (1 + t118)) (x6_1.length : Int) x44_2 l0 t119 = some r) ∧ Aside0 (kq ≤ k1) ∧ Aside0 (Kd.S (Kd.slice 48 (Kd.int .i16)) 47 w' w.heap.size (fun _ => True) (.slice Ao28 x6_1.length co28) x6_2) ∧ Aside0 (IsS57 w w' g102 l0 t119) ∧ Aside0 (Below w.heap.size w w'))
        case atStart => exact ⟨(x6_1), (0), (by first | rfl | (simp; done) | (simp [*]; done)), H', ⟨Nat.le_refl _⟩, ⟨by (with_reducible repeat (first | apply Kd.S_alloc | apply Kd.S_drewN | apply Kd.S_drew)); exact HO_6.out⟩, ⟨by repeat (first | (with_reducible first | exact HI102.out | apply IsS57.alloc | apply IsS57.drewN | apply IsS57.drew | apply IsS57.set_1) | exact HI102.out)⟩, ⟨by repeat (first | (with_reducible first | exact HB.out | apply below_alloc | apply pw_below_drewN | apply below_drew1 | refine below_set ?_ (IsS57.ge HI102.out)) | exact HB.out)⟩⟩
        case round =>
         clear H'
         (try clear p1);(try clear q1);(try clear hx1);(try clear p2);(try clear c3);(try clear p6);(try clear p11);(try clear q11);(try clear hx11);(try clear hx117_0);(try clear p117);(try clear q117)
         obtain ⟨x6_2, x44_2, rfl, HA, HK2, HO_6, HI102, HB⟩ := hrel
         have hl6_2 := (Kd.S_reads' HO_6.out).1
         rw [hl6_2] at HO_6
         (try simp only [hl6_2])
         cases gk with
         | zero => exact absurd HA.out (by simp [cutroomlaw28_made.l1])
         | succ k2 =>
          have H := HA.out
          clear HA
          simp only [cutroomlaw28_made.l1] at H
          by_cases c29 : x44_2 < (x6_1.length : Int)
          ·rw [if_pos c29] at H
           have c29b0 : decide (x44_2 < (x6_1.length : Int)) = true := decide_eq_true c29
           (first | simp only [hl6_2] at c29b0 | skip)
           clear c29
           have H' := Aside0.mk H
           clear H
           go_wp2
           go_loopg [12] k2 (fun kq v12 w' => ∃ (x6_3 : List (List Int)) (x12_3 : Int), v12 = .int .i64 x12_3 ∧ Aside0 (cutroomlaw28_made.l2 kq a1 x6_3 x7_1 (wrap64 (60 * t110)) (rd y112 t115) (wrap64 (1 + t118)) x44_2 x12_3 (x6_1.length : Int) x44_2 l0 t119 = some r) ∧ Aside0 (kq ≤ k2) ∧ Aside0 (Kd.S (Kd.slice 48 (Kd.int .i16)) 47 w' w.heap.size (fun _ => True) (.slice Ao28 x6_2.length co28) x6_3) ∧ Aside0 (IsS57 w w' g102 l0 t119) ∧ Aside0 (Below w.heap.size w w'))
           case atStart => exact ⟨(x6_2), (0), (by first | rfl | (simp; done) | (simp [*]; done)), H', ⟨Nat.le_refl _⟩, ⟨by (try simp only [hl6_2]); (with_reducible repeat (first | apply Kd.S_alloc | apply Kd.S_drewN | apply Kd.S_drew)); exact HO_6.out⟩, ⟨by repeat (first | (with_reducible first | exact HI102.out | apply IsS57.alloc | apply IsS57.drewN | apply IsS57.drew | apply IsS57.set_1) | exact HI102.out)⟩, ⟨by repeat (first | (with_reducible first | exact HB.out | apply below_alloc | apply pw_below_drewN | apply below_drew1 | refine below_set ?_ (IsS57.ge HI102.out)) | exact HB.out)⟩⟩
           case round =>
            clear H'
            (try clear p1);(try clear q1);(try clear hx1);(try clear c2);(try clear p2);(try clear c3);(try clear p6);(try clear p11);(try clear q11);(try clear hx11);(try clear c29);(try clear c29b0);(try clear hx117_0);(try clear p1);(try clear p11);(try clear p117);(try clear p2);(try clear p6);(try clear q1);(try clear q11);(try clear q117)
            obtain ⟨x6_3, x12_3, rfl, HA, HK3, HO_6, HI102, HB⟩ := hrel
            have hl6_3 := (Kd.S_reads' HO_6.out).1
            rw [hl6_3] at HO_6
            (try simp only [hl6_3])
            cases gk with
            | zero => exact absurd HA.out (by simp [cutroomlaw28_made.l2])
            | succ k3 =>
             have H := HA.out
             clear HA
             simp only [cutroomlaw28_made.l2] at H
             by_cases c30 : x12_3 < (wrap64 (60 * t110))
             ·rw [if_pos c30] at H
              have c30b0 : decide (x12_3 < (wrap64 (60 * t110))) = true := decide_eq_true c30
              clear c30
              by_cases c31 : 0 ≤ x44_2
              ·rw [if_pos c31] at H
               have c31b0 : decide (0 ≤ x44_2) = true := decide_eq_true c31
               clear c31
               by_cases c32 : x44_2 < (x6_3.length : Int)
               ·rw [if_pos c32] at H
                have c32b0 : decide (x44_2 < (x6_3.length : Int)) = true := decide_eq_true c32
                (first | simp only [hl6_2] at c32b0 | skip)
                (first | simp only [hl6_3] at c32b0 | skip)
                clear c32
                by_cases c33 : (wrap64 ((wrap64 (2 * (rd y112 t115))) + 1)) = 0
                ·rw [if_pos c33] at H
                 exact absurd H (by simp)
                ·rw [if_neg c33] at H
                 have c33b0 : ((wrap64 ((wrap64 (2 * (rd y112 t115))) + 1)) == 0) = false := beq_eq_false_iff_ne.mpr c33
                 have c33b1 : ((wrap64 ((wrap64 (2 * (rd y112 t115))) + 1)) != 0) = true := bne_iff_ne.mpr c33
                 by_cases c34 : (rd_L2 x6_3 x44_2).length < 70368744177664
                 ·rw [if_pos c34] at H
                  have LMc34 := Aside0.mk c34
                  clear c34
                  obtain ⟨y121, hy121⟩ : ∃ y_ : List Int, y_ = ((rd_L2 x6_3 x44_2) ++ [IntKind.i16.wrap (wrap64 ((Int.tmod (wrap64 ((wrap64 (x12_3 * (wrap64 (1 + t118)))) + (wrap64 (x44_2 * 7)))) (wrap64 ((wrap64 (2 * (rd y112 t115))) + 1))) - (rd y112 t115)))]) := ⟨_, rfl⟩
                  replace H : (cutroomlaw28_made.l2 k3 a1 (x6_3.set (x44_2 : Int).toNat y121) x7_1 (wrap64 (60 * t110)) (rd y112 t115) (wrap64 (1 + t118)) x44_2 (wrap64 (x12_3 + 1)) (x6_1.length : Int) x44_2 l0 t119) = some r := by first | (rw [hy121]; with_reducible exact H) | (have H2_ := (Option.bind_some _ _).symm.trans H; rw [hy121]; with_reducible exact H2_) | (have H2_ := (Option.bind_some _ _).symm.trans H; with_reducible exact H2_) | with_reducible exact H | (rw [hy121]; exact H) | exact H
                  have Ny121 := Aside0.mk hy121
                  clear hy121
                  obtain ⟨y124, hy124⟩ : ∃ y_ : List (List Int), y_ = (x6_3.set (x44_2 : Int).toNat y121) := ⟨_, rfl⟩
                  replace H : (cutroomlaw28_made.l2 k3 a1 y124 x7_1 (wrap64 (60 * t110)) (rd y112 t115) (wrap64 (1 + t118)) x44_2 (wrap64 (x12_3 + 1)) (x6_1.length : Int) x44_2 l0 t119) = some r := by first | (rw [hy124]; with_reducible exact H) | (have H2_ := (Option.bind_some _ _).symm.trans H; rw [hy124]; with_reducible exact H2_) | (have H2_ := (Option.bind_some _ _).symm.trans H; with_reducible exact H2_) | with_reducible exact H | (rw [hy124]; exact H) | exact H
                  have Ny124 := Aside0.mk hy124
                  clear hy124
                  have H' := Aside0.mk H
                  clear H
                  try go_wp2
                  have n0_ := Aside0.mk (Kd.S_drew HO_6.out)
                  have n1_ := Aside0.mk (IsS57.drew HI102.out)
                  have n2_ := Aside0.mk (below_drew1 HB.out)
                  clear HO_6
                  clear HI102
                  clear HB
                  have HO_6 := n0_
                  have HI102 := n1_
                  have HB := n2_
                  clear n0_ n1_ n2_
                  have p120 : 0 ≤ (x44_2 : Int) := of_decide_eq_true (by first | (with_reducible assumption) | assumption)
                  have q120 : x44_2 < (x6_3.length : Int) := of_decide_eq_true (by first | (with_reducible assumption) | assumption)
                  obtain ⟨ad120, A120_0, c120_0, e120, hx120_0, hl120_0, hi120_0⟩ := at_L2 (Kd.S_reads' HO_6.out).2.2 x44_2 p120 q120
                  cases e120
                  obtain ⟨ce120, hce120, hMe120, hcc120⟩ := Kd.S_get HO_6.out [] x44_2 p120 (by first | exact q120 | exact of_decide_eq_true (by first | (with_reducible assumption) | assumption) | (have e_ := (Kd.S_reads' HO_6.out).1; omega))
                  obtain ⟨ve120_0, rfl, ge120_0⟩ := hMe120
                  have hv120_0 := hcc120 0 _ rfl
                  rw [Nat.add_zero, show ((Kd.slice 48 (Kd.int .i16))).sz = 1 from rfl, Nat.mul_one] at hv120_0
                  replace hv120_0 := Option.some.inj (hv120_0.symm.trans hx120_0)
                  rw [hv120_0] at ge120_0
                  have HL120_0 := Aside0.mk (show Kd.R (Kd.int .i16) 48 _ _ _ _ (rd_L2 x6_3 x44_2) from ge120_0)
                  clear hv120_0 ge120_0
                  have HX120_0 := Aside0.mk hx120_0
                  clear hcc120 hce120
                  have HR120_0 := Aside0.mk hi120_0
                  have HC120_0 := Aside0.mk hl120_0
                  clear hi120_0 hl120_0
                  replace p120 := eq_true p120
                  replace q120 := eq_true q120
                  obtain ⟨go37, co37, eo37, gb37, gl37, cl37, HG37⟩ := Kd.S_form HO_6.out (by have h_ : (x44_2 : Int) < ((x6_3.length : Int) : Int) := of_decide_eq_true (by first | (with_reducible assumption) | assumption); have h2_ : 0 ≤ (x44_2 : Int) := (of_decide_eq_true (by first | (with_reducible assumption) | assumption)); omega)
                  (first | cases eo37 | (injection eo37 with ea_ en_ ec_; (first | subst ea_ | (injection ea_ with ea_; subst ea_)); subst ec_; clear en_))
                  have GB37 := Aside0.mk gb37
                  have GG37 := Aside0.mk HG37
                  clear gb37 gl37 HG37
                  (first | simp only [add_plain] at hx120_0 | skip)
                  obtain ⟨oki37, ce37, hcl37, hM37, hcc37, _, _, hH37⟩ := Kd.S_elem HO_6.out [] (x44_2 : Int) (of_decide_eq_true (by first | (with_reducible assumption) | assumption)) (by have h_ : (x44_2 : Int) < ((x6_3.length : Int) : Int) := of_decide_eq_true (by first | (with_reducible assumption) | assumption); first | exact h_ | (have e_ := (Kd.S_reads' HO_6.out).1; omega) | simpa using h_)
                  obtain ⟨ve37_0, rfl, ge37_0⟩ := hM37
                  have hv37 := hcc37 0 _ rfl
                  have hX37 := HX120_0.out
                  (try simp only [add_plain] at hX37)
                  (try simp only [Nat.add_zero] at hv37)
                  (try rw [show ((Kd.slice 48 (Kd.int .i16))).sz = 1 from rfl, Nat.mul_one] at hv37)
                  replace hv37 := Option.some.inj (hv37.symm.trans hX37)
                  subst hv37
                  clear hX37 hcc37 hcl37
                  have UU37 := Aside0.mk (show Kd.R (Kd.int .i16) 48 _ w.heap.size oki37 (.slice A120_0 (rd_L2 x6_3 x44_2).length c120_0) (rd_L2 x6_3 x44_2) from ge37_0)
                  have HH37 := Aside0.mk hH37
                  have HN37 := Aside0.mk (Kd.S_reads' HO_6.out).1
                  clear hH37 ge37_0
                  refine start_ (n := 23) (S := fun w' => w'.cell? ⟨go37, (x44_2).toNat, none⟩ = some (.slice A120_0 (rd_L2 x6_3 x44_2).length c120_0)) (ds := [22]) #[false, false, false, false, false, false, false, false, false, false, false, false, false, false, false, false, false, false, false, false, false, false, false] (by kernel_rfl) rfl rfl (hx120_0) (fun hHeld => ?_); refine with_tabW cutroomlaw28_made.tab13 cutroomlaw28_made.bits13 (fun HT_ HW_ => ?_)
                  generalize wr.drew = w36 at HO_6 HI102 HB GG37 HH37 HL120_0 HR120_0 HX120_0 UU37 hx120_0 hHeld ⊢
                  refine pure_ (i := 0) (N := some 52) (v := ?_) (a' := ?_) #[true, false, false, false, false, false, false, false, false, false, false, false, false, false, false, false, false, false, false, false, false, false, false] rfl rfl (any_of HT_.out (by kernel_rfl)) (fun _ _ _ h => h) (Or.inl ⟨by rfl, ?_⟩) ?_ ?_
                  rotate_left
                  ·intro w'
                   go_simp
                   with_reducible rfl
                  rotate_left
                  ·simp only [Act.put, List.setIfInBounds_toArray, List.set_cons_zero, List.set_cons_succ, i64_w, i32_w]
                   rfl
                  refine pure_ (i := 1) (N := some 53) (v := ?_) (a' := ?_) #[true, true, false, false, false, false, false, false, false, false, false, false, false, false, false, false, false, false, false, false, false, false, false] rfl rfl (any_of HT_.out (by kernel_rfl)) (fun _ _ _ h => h) (Or.inl ⟨by rfl, ?_⟩) ?_ ?_
                  rotate_left
                  ·intro w'
                   go_simp
                   with_reducible rfl
                  rotate_left
                  ·simp only [Act.put, List.setIfInBounds_toArray, List.set_cons_zero, List.set_cons_succ, i64_w, i32_w]
                   rfl
                  refine pure_ (i := 2) (N := some 54) (v := ?_) (a' := ?_) #[true, true, true, false, false, false, false, false, false, false, false, false, false, false, false, false, false, false, false, false, false, false, false] rfl rfl (any_of HT_.out (by kernel_rfl)) (fun _ _ _ h => h) (Or.inl ⟨by rfl, ?_⟩) ?_ ?_
                  rotate_left
                  ·intro w'
                   go_simp
                   with_reducible rfl
                  rotate_left
                  ·simp only [Act.put, List.setIfInBounds_toArray, List.set_cons_zero, List.set_cons_succ, i64_w, i32_w]
                   rfl
                  refine pure_ (i := 3) (N := some 55) (v := ?_) (a' := ?_) #[true, true, true, true, false, false, false, false, false, false, false, false, false, false, false, false, false, false, false, false, false, false, false] rfl rfl (any_of HT_.out (by kernel_rfl)) (fun _ _ _ h => h) (Or.inl ⟨by rfl, ?_⟩) ?_ ?_
                  rotate_left
                  ·intro w'
                   go_simp
                   with_reducible rfl
                  rotate_left
                  ·simp only [Act.put, List.setIfInBounds_toArray, List.set_cons_zero, List.set_cons_succ, i64_w, i32_w]
                   rfl
                  refine pure_ (i := 4) (N := some 56) (v := ?_) (a' := ?_) #[true, true, true, true, true, false, false, false, false, false, false, false, false, false, false, false, false, false, false, false, false, false, false] rfl rfl (any_of HT_.out (by kernel_rfl)) (fun _ _ _ h => h) (Or.inl ⟨by rfl, ?_⟩) ?_ ?_
                  rotate_left
                  ·intro w'
                   go_simp
                   with_reducible rfl
                  rotate_left
                  ·simp only [Act.put, List.setIfInBounds_toArray, List.set_cons_zero, List.set_cons_succ, i64_w, i32_w]
                   rfl
                  refine pure_ (i := 6) (N := some 58) (v := ?_) (a' := ?_) #[true, true, true, true, true, false, true, false, false, false, false, false, false, false, false, false, false, false, false, false, false, false, false] rfl rfl (any_of HT_.out (by kernel_rfl)) (fun _ _ _ h => h) (Or.inl ⟨by rfl, ?_⟩) ?_ ?_
                  rotate_left
                  ·intro w'
                   go_simp
                   with_reducible rfl
                  rotate_left
                  ·simp only [Act.put, List.setIfInBounds_toArray, List.set_cons_zero, List.set_cons_succ, i64_w, i32_w]
                   rfl
                  refine pure_ (i := 7) (N := some 59) (v := ?_) (a' := ?_) #[true, true, true, true, true, false, true, true, false, false, false, false, false, false, false, false, false, false, false, false, false, false, false] rfl rfl (any_of HT_.out (by kernel_rfl)) (fun _ _ _ h => h) (Or.inl ⟨by rfl, ?_⟩) ?_ ?_
                  rotate_left
                  ·intro w'
                   go_simp
                   with_reducible rfl
                  rotate_left
                  ·simp only [Act.put, List.setIfInBounds_toArray, List.set_cons_zero, List.set_cons_succ, i64_w, i32_w]
                   rfl
                  refine pure_ (i := 8) (N := some 60) (v := ?_) (a' := ?_) #[true, true, true, true, true, false, true, true, true, false, false, false, false, false, false, false, false, false, false, false, false, false, false] rfl rfl (any_of HT_.out (by kernel_rfl)) (fun _ _ _ h => h) (Or.inl ⟨by rfl, ?_⟩) ?_ ?_
                  rotate_left
                  ·intro w'
                   go_simp
                   with_reducible rfl
                  rotate_left
                  ·simp only [Act.put, List.setIfInBounds_toArray, List.set_cons_zero, List.set_cons_succ, i64_w, i32_w]
                   rfl
                  refine pure_ (i := 9) (N := some 61) (v := ?_) (a' := ?_) #[true, true, true, true, true, false, true, true, true, true, false, false, false, false, false, false, false, false, false, false, false, false, false] rfl rfl (any_of HT_.out (by kernel_rfl)) (fun _ _ _ h => h) (Or.inl ⟨by rfl, ?_⟩) ?_ ?_
                  rotate_left
                  ·intro w'
                   go_simp
                   with_reducible rfl
                  rotate_left
                  ·simp only [Act.put, List.setIfInBounds_toArray, List.set_cons_zero, List.set_cons_succ, i64_w, i32_w]
                   rfl
                  refine pure_ (i := 10) (N := some 62) (v := ?_) (a' := ?_) #[true, true, true, true, true, false, true, true, true, true, true, false, false, false, false, false, false, false, false, false, false, false, false] rfl rfl (any_of HT_.out (by kernel_rfl)) (fun _ _ _ h => h) (Or.inl ⟨by rfl, ?_⟩) ?_ ?_
                  rotate_left
                  ·intro w'
                   go_simp
                   with_reducible rfl
                  rotate_left
                  ·simp only [Act.put, List.setIfInBounds_toArray, List.set_cons_zero, List.set_cons_succ, i64_w, i32_w]
                   rfl
                  refine pure_ (i := 11) (N := some 63) (v := ?_) (a' := ?_) #[true, true, true, true, true, false, true, true, true, true, true, true, false, false, false, false, false, false, false, false, false, false, false] rfl rfl (any_of HT_.out (by kernel_rfl)) (fun _ _ _ h => h) (Or.inl ⟨by rfl, ?_⟩) ?_ ?_
                  rotate_left
                  ·intro w'
                   go_simp
                   with_reducible rfl
                  rotate_left
                  ·simp only [Act.put, List.setIfInBounds_toArray, List.set_cons_zero, List.set_cons_succ, i64_w, i32_w]
                   rfl
                  refine pure_ (i := 12) (N := some 64) (v := ?_) (a' := ?_) #[true, true, true, true, true, false, true, true, true, true, true, true, true, false, false, false, false, false, false, false, false, false, false] rfl rfl (any_of HT_.out (by kernel_rfl)) (fun _ _ _ h => h) (Or.inl ⟨by rfl, ?_⟩) ?_ ?_
                  rotate_left
                  ·intro w'
                   go_simp
                   with_reducible rfl
                  rotate_left
                  ·simp only [Act.put, List.setIfInBounds_toArray, List.set_cons_zero, List.set_cons_succ, i64_w, i32_w]
                   rfl
                  refine pure_ (i := 13) (N := some 65) (v := ?_) (a' := ?_) #[true, true, true, true, true, false, true, true, true, true, true, true, true, true, false, false, false, false, false, false, false, false, false] rfl rfl (any_of HT_.out (by kernel_rfl)) (fun _ _ _ h => h) (Or.inl ⟨by rfl, ?_⟩) ?_ ?_
                  rotate_left
                  ·intro w'
                   go_simp
                   with_reducible rfl
                  rotate_left
                  ·simp only [Act.put, List.setIfInBounds_toArray, List.set_cons_zero, List.set_cons_succ, i64_w, i32_w]
                   rfl
                  refine pure_ (i := 14) (N := some 66) (v := ?_) (a' := ?_) #[true, true, true, true, true, false, true, true, true, true, true, true, true, true, true, false, false, false, false, false, false, false, false] rfl rfl (any_of HT_.out (by kernel_rfl)) (fun _ _ _ h => h) (Or.inl ⟨by rfl, ?_⟩) ?_ ?_
                  rotate_left
                  ·intro w'
                   go_simp
                   with_reducible rfl
                  rotate_left
                  ·simp only [Act.put, List.setIfInBounds_toArray, List.set_cons_zero, List.set_cons_succ, i64_w, i32_w]
                   rfl
                  refine pure_ (i := 15) (N := some 67) (v := ?_) (a' := ?_) #[true, true, true, true, true, false, true, true, true, true, true, true, true, true, true, true, false, false, false, false, false, false, false] rfl rfl (any_of HT_.out (by kernel_rfl)) (fun _ _ _ h => h) (Or.inl ⟨by rfl, ?_⟩) ?_ ?_
                  rotate_left
                  ·intro w'
                   go_simp
                   with_reducible rfl
                  rotate_left
                  ·simp only [Act.put, List.setIfInBounds_toArray, List.set_cons_zero, List.set_cons_succ, i64_w, i32_w]
                   rfl
                  refine pure_ (i := 16) (N := some 68) (v := ?_) (a' := ?_) #[true, true, true, true, true, false, true, true, true, true, true, true, true, true, true, true, true, false, false, false, false, false, false] rfl rfl (any_of HT_.out (by kernel_rfl)) (fun _ _ _ h => h) (Or.inl ⟨by rfl, ?_⟩) ?_ ?_
                  rotate_left
                  ·intro w'
                   go_simp
                   with_reducible rfl
                  rotate_left
                  ·simp only [Act.put, List.setIfInBounds_toArray, List.set_cons_zero, List.set_cons_succ, i64_w, i32_w]
                   rfl
                  refine pure_ (i := 17) (N := some 69) (v := ?_) (a' := ?_) #[true, true, true, true, true, false, true, true, true, true, true, true, true, true, true, true, true, true, false, false, false, false, false] rfl rfl (any_of HT_.out (by kernel_rfl)) (fun _ _ _ h => h) (Or.inl ⟨by rfl, ?_⟩) ?_ ?_
                  rotate_left
                  ·intro w'
                   go_simp
                   with_reducible rfl
                  rotate_left
                  ·simp only [Act.put, List.setIfInBounds_toArray, List.set_cons_zero, List.set_cons_succ, i64_w, i32_w]
                   rfl
                  refine pure_ (i := 18) (N := some 70) (v := ?_) (a' := ?_) #[true, true, true, true, true, false, true, true, true, true, true, true, true, true, true, true, true, true, true, false, false, false, false] rfl rfl (any_of HT_.out (by kernel_rfl)) (fun _ _ _ h => h) (Or.inl ⟨by rfl, ?_⟩) ?_ ?_
                  rotate_left
                  ·intro w'
                   go_simp
                   with_reducible rfl
                  rotate_left
                  ·simp only [Act.put, List.setIfInBounds_toArray, List.set_cons_zero, List.set_cons_succ, i64_w, i32_w]
                   rfl
                  refine take_ (i := 5) (N := some 57) (v := ?_) (a' := ?_) #[true, true, true, true, true, true, true, true, true, true, true, true, true, true, true, true, true, true, true, false, false, false, false] rfl rfl (take_ofW HT_.out HW_.out (by kernel_rfl)) (fun _ _ _ h => h) (Or.inl ⟨by rfl, ?_⟩) hHeld ?_ ?_
                  rotate_left
                  ·intro w' s0
                   go_simp
                   with_reducible rfl
                  rotate_left
                  ·simp only [Act.put, List.setIfInBounds_toArray, List.set_cons_zero, List.set_cons_succ, i64_w, i32_w]
                   rfl
                  refine one_ (i := 19) (N := some 71) #[true, true, true, true, true, true, true, true, true, true, true, true, true, true, true, true, true, true, true, true, false, false, false] rfl rfl (one_of HT_.out (by kernel_rfl)) (by decide) (fun K hK => ?_)
                  refine value_ (w1 := ?_) (v := ?_) (by rfl) rfl ?_ ?_
                  rotate_left 2
                  ·go_simp
                   constructor
                   ·rfl
                   ·rfl
                  refine hK.out _ _ ((World.cell?_alloc_lt _ _ _ (World.block_lt_of_cell? _ _ (hHeld))).trans (hHeld)) (fun hHeld => ?_)
                  clear hK K
                  refine norm_ (a' := ?_) ?_ ?_
                  rotate_left
                  ·show Act.put _ (some 71) _ = _
                   simp only [Act.put, List.setIfInBounds_toArray, List.set_cons_zero, List.set_cons_succ, i64_w, i32_w]
                   rfl
                  refine one_ (i := 20) (N := some 72) #[true, true, true, true, true, true, true, true, true, true, true, true, true, true, true, true, true, true, true, true, true, false, false] rfl rfl (one_of HT_.out (by kernel_rfl)) (by decide) (fun K hK => ?_)
                  refine Kd.R_append_step (Kd.int .i16) (w0 := w) w.heap.size (by rfl) (.tmp 57) (.tmp 71) 47 48 (.int .i16 0) 2 rfl Try.underlying47 info48 rfl (by decide) (by omega) (.slice A120_0 (rd_L2 x6_3 x44_2).length c120_0) (rd_L2 x6_3 x44_2) (IntKind.i16.wrap (wrap64 ((Int.tmod (wrap64 ((wrap64 (x12_3 * (wrap64 (1 + t118)))) + (wrap64 (x44_2 * 7)))) (wrap64 ((wrap64 (2 * (rd y112 t115))) + 1))) - (rd y112 t115)))) [.int .i16 (IntKind.i16.wrap (wrap64 ((Int.tmod (wrap64 ((wrap64 (x12_3 * (wrap64 (1 + t118)))) + (wrap64 (x44_2 * 7)))) (wrap64 ((wrap64 (2 * (rd y112 t115))) + 1))) - (rd y112 t115))))] (fun k_ => oki37 k_ ∨ ((fun _ => True)) k_ ∧ w36.heap.size ≤ k_) (fun _ => False) rfl rfl ?aP (fun _ hk => hk.elim) ?aF ?aO ?aB ?aS ?aL ?_
                  (case aP => exact rfl)
                  (case aB => exact (by repeat (first | (with_reducible first | exact HB.out | apply below_alloc | apply pw_below_drewN | apply below_drew1 | refine below_set ?_ (IsS57.ge HI102.out)) | exact HB.out)))
                  (case aF => exact (fun k_ hk => .inr ⟨trivial, hk⟩))
                  (case aO => exact (by (with_reducible repeat (first | apply Kd.R_alloc | apply Kd.R_drewN | apply Kd.R_drew)); exact Kd.R_mono UU37.out (fun _ hk => .inl hk)))
                  (case aS => exact (below_size (by repeat (first | (with_reducible first | exact HB.out | apply below_alloc | apply pw_below_drewN | apply below_drew1 | refine below_set ?_ (IsS57.ge HI102.out)) | exact HB.out))))
                  (case aL => have := LMc34.out; omega)
                  intro v122 w38 ho hb hg hat
                  (first | have HS0_ := cell_grown hg (hHeld) (by first | (rw [add_block]; exact (fun e_ => ((HL120_0.out.1 _ e_.symm).2) rfl)) | (show some (Addr.add _ _).block ≠ _; rw [add_block]; exact (fun e_ => ((HL120_0.out.1 _ e_.symm).2) rfl)) | exact (fun e_ => ((HL120_0.out.1 _ e_.symm).2) rfl)) | have HS0_ := cell_grown hg (cell_unalloc (hHeld) (by first | (rw [add_block]; exact Kd.S_lt HO_6.out _ rfl) | (show (Addr.add _ _).block < _; rw [add_block]; exact Kd.S_lt HO_6.out _ rfl) | exact Kd.S_lt HO_6.out _ rfl)) (by first | (rw [add_block]; exact (fun e_ => ((HL120_0.out.1 _ e_.symm).2) rfl)) | (show some (Addr.add _ _).block ≠ _; rw [add_block]; exact (fun e_ => ((HL120_0.out.1 _ e_.symm).2) rfl)) | exact (fun e_ => ((HL120_0.out.1 _ e_.symm).2) rfl)))
                  rw [← Ny121.out] at ho
                  have n0_ := Aside0.mk (IsS57.grown (by repeat (first | (with_reducible first | exact HI102.out | apply IsS57.alloc | apply IsS57.drewN | apply IsS57.drew | apply IsS57.set_1) | exact HI102.out)) hg (IsS57.own_ne HI102.out HL120_0.out (by decide)))
                  have n1_ := Aside0.mk (hb)
                  have n2_ := Aside0.mk (Kd.H_grown (Kd.H_widen (by repeat (first | exact HH37.out | refine Kd.H_alloc ?_ _ | refine Kd.H_drewN ?_ _ | refine Kd.H_drew ?_))) hg (fun k_ e_ => .inl (UU37.out.1 k_ e_)))
                  have n3_ := Aside0.mk (ho)
                  clear HI102
                  clear HB
                  clear HH37
                  clear HO_6
                  clear UU37
                  clear HL120_0
                  have HI102 := n0_
                  have HB := n1_
                  have HH37 := n2_
                  have HO123 := n3_
                  clear n0_ n1_ n2_ n3_
                  clear ho hb hg hat
                  have p35 : 0 ≤ (x44_2 : Int) := of_decide_eq_true (by first | (with_reducible assumption) | assumption)
                  have q35 : (x44_2 : Int) < ((x6_3.length : Int) : Int) := of_decide_eq_true (by first | (with_reducible assumption) | assumption)
                  replace p35 := eq_true p35
                  replace q35 := eq_true q35
                  obtain ⟨Ao41, co41, eo41⟩ := Kd.R_slice HO123.out
                  (first | subst eo41 | (injection eo41 with f1_ f2_ f3_; have f4_ := f1_.symm; have f5_ := f3_.symm; clear f1_ f2_ f3_; subst f4_; subst f5_))
                  obtain ⟨_, _, hraw39, _, _, hcc39, _⟩ := Kd.H_raw HH37.out (of_decide_eq_true (by first | (with_reducible assumption) | assumption)) (by have h_ : (x44_2 : Int) < ((x6_3.length : Int) : Int) := of_decide_eq_true (by first | (with_reducible assumption) | assumption); first | exact h_ | (have e_ := (HN37.out); omega) | simpa using h_)
                  obtain ⟨_, hfr39⟩ := Kd.H_at HH37.out (of_decide_eq_true (by first | (with_reducible assumption) | assumption)) (by have h_ : (x44_2 : Int) < ((x6_3.length : Int) : Int) := of_decide_eq_true (by first | (with_reducible assumption) | assumption); first | exact h_ | (have e_ := (HN37.out); omega) | simpa using h_)
                  have hx39_0 := hcc39 0 _ rfl
                  have hf39_0 := hfr39 0
                  (try simp only [Nat.add_zero] at hx39_0 hf39_0)
                  (try rw [show ((Kd.slice 48 (Kd.int .i16))).sz = 1 from rfl, Nat.mul_one] at hx39_0)
                  (try rw [show ((Kd.slice 48 (Kd.int .i16))).sz = 1 from rfl, Nat.mul_one] at hf39_0)
                  have HP39 := Kd.S_seg0 HH37.out (of_decide_eq_true (by first | (with_reducible assumption) | assumption)) (by have h_ : (x44_2 : Int) < ((x6_3.length : Int) : Int) := of_decide_eq_true (by first | (with_reducible assumption) | assumption); first | exact h_ | (have e_ := (HN37.out); omega) | simpa using h_) (seg := [.slice Ao41 y121.length co41]) (j := 0) (show 1 ≤ 1 from by decide) (x' := y121) (Kd.M_row HO123.out) (fun _ hk => hk)
                  (try simp only [show ((Kd.slice 48 (Kd.int .i16))).sz = 1 from rfl, Nat.mul_one, Nat.add_zero] at HP39)
                  clear hcc39 hfr39
                  have HN102_go37 := Aside0.mk (show g102 ≠ go37 from by have h_ := IsS57.own_ne HI102.out hraw39 (by decide); intro e_; exact h_ (by rw [e_]; rfl))
                  have HS39 := HP39.1
                  rw [← Ny124.out] at HS39
                  have HQ39 := Aside0.mk HS39
                  obtain ⟨_, hgg39⟩ := Kd.R_typed hraw39 go37 rfl
                  have GG39_ := Aside0.mk hgg39
                  clear HP39 HS39 hgg39
                  refine hK.out _ _ (HS0_) (fun hHeld => ?_)
                  clear hK K
                  refine norm_ (a' := ?_) ?_ ?_
                  rotate_left
                  ·show Act.put _ (some 72) _ = _
                   simp only [Act.put, List.setIfInBounds_toArray, List.set_cons_zero, List.set_cons_succ, i64_w, i32_w]
                   rfl
                  refine pure_ (i := 21) (N := some 73) (v := ?_) (a' := ?_) #[true, true, true, true, true, true, true, true, true, true, true, true, true, true, true, true, true, true, true, true, true, true, false] rfl rfl (any_of HT_.out (by kernel_rfl)) (fun _ _ _ h => h) (Or.inl ⟨by rfl, ?_⟩) ?_ ?_
                  rotate_left
                  ·intro w'
                   go_simp
                   with_reducible rfl
                  rotate_left
                  ·simp only [Act.put, List.setIfInBounds_toArray, List.set_cons_zero, List.set_cons_succ, i64_w, i32_w]
                   rfl
                  refine last_ (i := 22) (N := none) #[true, true, true, true, true, true, true, true, true, true, true, true, true, true, true, true, true, true, true, true, true, true, true] rfl rfl (one_of HT_.out (by kernel_rfl)) (by decide) (fun K hK => ?_)
                  refine skip_ (w1 := ?_) (by rfl) rfl ?_ ?_
                  rotate_left
                  ·go_simp
                   rfl
                  refine hK.out _ _ ?_
                  clear hK K
                  refine done_ (done_of HT_.out (by kernel_rfl)) ?_
                  try go_wp2
                  (try simp only [← hl6_3])
                  go_roundg k3
                  case measure => have := HK1.out; have := HK2.out; have := HK3.out; omega
                  case rel => exact ⟨(y124), (wrap64 (x12_3 + 1)), (by first | rfl | (simp; done) | (simp [*]; done)), H', ⟨by have := HK1.out; have := HK2.out; have := HK3.out; omega⟩, ⟨by (try simp only [hl6_2]); (try simp only [hl6_3]); (with_reducible repeat (first | apply Kd.S_alloc | apply Kd.S_drewN | apply Kd.S_drew)); exact HQ39.out⟩, ⟨by repeat (first | (with_reducible first | exact HI102.out | apply IsS57.alloc | apply IsS57.drewN | apply IsS57.drew | apply IsS57.set_1 | refine IsS57.far ?_ HN102_go37.out _) | exact HI102.out)⟩, ⟨by repeat (first | (with_reducible first | exact HB.out | apply below_alloc | apply pw_below_drewN | apply below_drew1 | refine below_set ?_ GB37.out | refine below_set ?_ (IsS57.ge HI102.out)) | exact HB.out)⟩⟩
                 ·rw [if_neg c34] at H
                  exact absurd H (by simp)
               ·rw [if_neg c32] at H
                exact absurd H (by simp)
              ·rw [if_neg c31] at H
               exact absurd H (by simp)
             ·rw [if_neg c30] at H
              have c30b0 : decide (x12_3 < (wrap64 (60 * t110))) = false := decide_eq_false c30
              clear c30
              have H' := Aside0.mk H
              clear H
              go_wp2
              (try simp only [← hl6_2, ← hl6_3])
              go_roundg k3
              case measure => have := HK1.out; have := HK2.out; have := HK3.out; omega
              case rel => exact ⟨(x6_3), (wrap64 (x44_2 + 1)), (by first | rfl | (simp; done) | (simp [*]; done)), H', ⟨by have := HK1.out; have := HK2.out; have := HK3.out; omega⟩, ⟨by (try simp only [hl6_2]); (try simp only [hl6_3]); (with_reducible repeat (first | apply Kd.S_alloc | apply Kd.S_drewN | apply Kd.S_drew)); exact HO_6.out⟩, ⟨by repeat (first | (with_reducible first | exact HI102.out | apply IsS57.alloc | apply IsS57.drewN | apply IsS57.drew | apply IsS57.set_1) | exact HI102.out)⟩, ⟨by repeat (first | (with_reducible first | exact HB.out | apply below_alloc | apply pw_below_drewN | apply below_drew1 | refine below_set ?_ (IsS57.ge HI102.out)) | exact HB.out)⟩⟩
          ·rw [if_neg c29] at H
           have c29b0 : decide (x44_2 < (x6_1.length : Int)) = false := decide_eq_false c29
           (first | simp only [hl6_2] at c29b0 | skip)
           clear c29
           have H' := Aside0.mk H
           clear H
           go_wp2
           (try simp only [← hl6_2])
           go_roundg k2
           case measure => have := HK1.out; have := HK2.out; omega
           case rel => exact ⟨(x6_2), (wrap64 (x7_1 - 1)), (t119), (by first | rfl | (simp; done) | (simp [*]; done)), H', ⟨by have := HK1.out; have := HK2.out; omega⟩, ⟨by (try simp only [hl6_2]); (with_reducible repeat (first | apply Kd.S_alloc | apply Kd.S_drewN | apply Kd.S_drew)); exact HO_6.out⟩, ⟨by repeat (first | (with_reducible first | exact HI102.out | apply IsS57.alloc | apply IsS57.drewN | apply IsS57.drew | apply IsS57.set_1) | exact HI102.out)⟩, ⟨by repeat (first | (with_reducible first | exact HB.out | apply below_alloc | apply pw_below_drewN | apply below_drew1 | refine below_set ?_ (IsS57.ge HI102.out)) | exact HB.out)⟩⟩
       ·rw [if_neg c17] at H
        exact absurd H (by simp)
      ·rw [if_neg c16] at H
       exact absurd H (by simp)
     ·rw [if_neg c13] at H
      have c13b0 : decide (0 < x7_1) = false := decide_eq_false c13
      clear c13
      obtain rfl := Option.some.inj H
      go_wp2
      go_ret
      exact ⟨_, by first | rfl | (simp [errW_none, errW_some] <;> rfl) | (simp only [← hji4]; first | rfl | (simp [errW_none, errW_some] <;> rfl)) | (simp [*, errW_none, errW_some] <;> rfl), by (with_reducible repeat (first | apply Kd.S_alloc | apply Kd.S_drewN | apply Kd.S_drew)); exact HO_6.out, by repeat (first | (with_reducible first | exact HB.out | apply below_alloc | apply pw_below_drewN | apply below_drew1 | refine below_set ?_ (IsS57.ge HI102.out)) | exact HB.out)⟩
  ·rw [if_neg c6] at H
   exact absurd H (by simp)
 ·rw [if_neg c5] at H
  exact absurd H (by simp)

end Go.Proofs.Ytjcjbbcamkkeiaa.P
