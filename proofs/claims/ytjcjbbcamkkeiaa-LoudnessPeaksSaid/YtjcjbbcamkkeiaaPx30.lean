-- Written by this session's own program (wip/tools/myprint.py), which runs the kit's print with turns of its own: not a text of the kit's print.sh.
import Derived.Test.YtjcjbbcamkkeiaaPx0
import Derived.Test.YtjcjbbcamkkeiaaPx34
namespace Go.Proofs.Ytjcjbbcamkkeiaa.P
open Go.RowKit Go.Proofs.YtjcjbbcamkkeiaaW.PrintWords Go.Proofs.YtjcjbbcamkkeiaaW.PrintLast Go.Proofs.YtjcjbbcamkkeiaaW.PrintMore
attribute [local go_sem] max2_int min2_int max_two min_two max_three min_three max_four min_four   -- for this text's walks alone
set_option linter.unusedVariables false
set_option linter.unusedSimpArgs false

/-! ### cutroomref28_Apply: function 29 -/
mutual
def cutroomref28_Apply.j0 : Nat → List (List Int) → Int → Bool → Option ((List (List Int)) × Int)
 | 0, _, _, _ => none
 | k + 1, x0, x1, x21 => if x21 = true then (some (([] : List (List Int)), 1)) else (if 0 ≤ (x0.length : Int) then (if ((x0.length : Int) : Int).toNat ≤ 11728124029610 then (cutroomref28_Apply.l0 k x0 x1 (List.replicate ((x0.length : Int) : Int).toNat []) 0) else (none)) else (none))
def cutroomref28_Apply.l0 : Nat → List (List Int) → Int → List (List Int) → Int → Option ((List (List Int)) × Int)
 | 0, _, _, _, _ => none
 | k + 1, x0, x1, x6, x7 => if x7 < (x0.length : Int) then (cutroomref28_Apply.l1 k x0 x1 x6 x7 0) else (some (x6, 0))
def cutroomref28_Apply.l1 : Nat → List (List Int) → Int → List (List Int) → Int → Int → Option ((List (List Int)) × Int)
 | 0, _, _, _, _, _ => none
 | k + 1, x0, x1, x6, x7, x8 => if 0 ≤ x7 then (if x7 < (x0.length : Int) then (if x8 < ((rd_L2 x0 x7).length : Int) then (if 0 ≤ x8 then (if (Int.tmod (wrap64 ((wrap64 ((wrap64 (rd (rd_L2 x0 x7) x8)) * x1)) + 2048)) 4096) < 0 then (if x7 < (x6.length : Int) then (if (rd_L2 x6 x7).length < 70368744177664 then (cutroomref28_Apply.l1 k x0 x1 (x6.set (x7 : Int).toNat ((rd_L2 x6 x7) ++ [mx (-32768) (mn 32767 (wrap64 ((wrap64 (Int.tdiv (wrap64 ((wrap64 ((wrap64 (rd (rd_L2 x0 x7) x8)) * x1)) + 2048)) 4096)) - 1)))])) x7 (wrap64 (x8 + 1))) else (none)) else (none)) else (if x7 < (x6.length : Int) then (if (rd_L2 x6 x7).length < 70368744177664 then (cutroomref28_Apply.l1 k x0 x1 (x6.set (x7 : Int).toNat ((rd_L2 x6 x7) ++ [mx (-32768) (mn 32767 (wrap64 (Int.tdiv (wrap64 ((wrap64 ((wrap64 (rd (rd_L2 x0 x7) x8)) * x1)) + 2048)) 4096)))])) x7 (wrap64 (x8 + 1))) else (none)) else (none))) else (none)) else (cutroomref28_Apply.l0 k x0 x1 x6 (wrap64 (x7 + 1)))) else (none)) else (none)
end
def cutroomref28_Apply.f (k : Nat) (l0 : List (List Int)) (a1 : Int) : Option ((List (List Int)) × Int) := (cutroomref28_Proper.f k l0).bind fun t506 => (if t506 = true then (if a1 < 0 then (cutroomref28_Apply.j0 k l0 a1 true) else (cutroomref28_Apply.j0 k l0 a1 (decide (a1 > 65536)))) else (cutroomref28_Apply.j0 k l0 a1 true))
theorem cutroomref28_Apply.mono_l : ∀ k, (∀ y0 y1 y2, LeO (cutroomref28_Apply.j0 k y0 y1 y2) (cutroomref28_Apply.j0 (k + 1) y0 y1 y2)) ∧ (∀ y0 y1 y2 y3, LeO (cutroomref28_Apply.l0 k y0 y1 y2 y3) (cutroomref28_Apply.l0 (k + 1) y0 y1 y2 y3)) ∧ (∀ y0 y1 y2 y3 y4, LeO (cutroomref28_Apply.l1 k y0 y1 y2 y3 y4) (cutroomref28_Apply.l1 (k + 1) y0 y1 y2 y3 y4))
 | 0 => ⟨fun _ _ _ r h => by simp [cutroomref28_Apply.j0] at h, fun _ _ _ _ r h => by simp [cutroomref28_Apply.l0] at h, fun _ _ _ _ _ r h => by simp [cutroomref28_Apply.l1] at h⟩
 | k + 1 => by
  obtain ⟨ih0, ih1, ih2⟩ := cutroomref28_Apply.mono_l k
  refine ⟨?_, ?_, ?_⟩
  ·intro y0 y1 y2
   unfold cutroomref28_Apply.j0
   repeat' first
   | (with_reducible exact ih0 _ _ _)
   | (with_reducible exact ih1 _ _ _ _)
   | (with_reducible exact ih2 _ _ _ _ _)
   | (with_reducible exact cutroomref28_Proper.mono _ _)
   | (with_reducible exact LeO.refl _)
   | (with_reducible exact LeO.none _)
   | (with_reducible refine LeO.ite ?_ ?_)
   | (with_reducible refine LeO.bind ?_ (fun _ => ?_))
   | exact ih0 _ _ _
   | exact ih1 _ _ _ _
   | exact ih2 _ _ _ _ _
   | exact cutroomref28_Proper.mono _ _
   | exact LeO.none _
   | refine LeO.ite ?_ ?_
   | refine LeO.bind ?_ (fun _ => ?_)
  ·intro y0 y1 y2 y3
   unfold cutroomref28_Apply.l0
   repeat' first
   | (with_reducible exact ih0 _ _ _)
   | (with_reducible exact ih1 _ _ _ _)
   | (with_reducible exact ih2 _ _ _ _ _)
   | (with_reducible exact cutroomref28_Proper.mono _ _)
   | (with_reducible exact LeO.refl _)
   | (with_reducible exact LeO.none _)
   | (with_reducible refine LeO.ite ?_ ?_)
   | (with_reducible refine LeO.bind ?_ (fun _ => ?_))
   | exact ih0 _ _ _
   | exact ih1 _ _ _ _
   | exact ih2 _ _ _ _ _
   | exact cutroomref28_Proper.mono _ _
   | exact LeO.none _
   | refine LeO.ite ?_ ?_
   | refine LeO.bind ?_ (fun _ => ?_)
  ·intro y0 y1 y2 y3 y4
   unfold cutroomref28_Apply.l1
   repeat' first
   | (with_reducible exact ih0 _ _ _)
   | (with_reducible exact ih1 _ _ _ _)
   | (with_reducible exact ih2 _ _ _ _ _)
   | (with_reducible exact cutroomref28_Proper.mono _ _)
   | (with_reducible exact LeO.refl _)
   | (with_reducible exact LeO.none _)
   | (with_reducible refine LeO.ite ?_ ?_)
   | (with_reducible refine LeO.bind ?_ (fun _ => ?_))
   | exact ih0 _ _ _
   | exact ih1 _ _ _ _
   | exact ih2 _ _ _ _ _
   | exact cutroomref28_Proper.mono _ _
   | exact LeO.none _
   | refine LeO.ite ?_ ?_
   | refine LeO.bind ?_ (fun _ => ?_)
theorem cutroomref28_Apply.mono : ∀ a0 a1 k, LeO (cutroomref28_Apply.f k a0 a1) (cutroomref28_Apply.f (k + 1) a0 a1) := by
 intro a0 a1 k
 obtain ⟨ih0, ih1, ih2⟩ := cutroomref28_Apply.mono_l k
 unfold cutroomref28_Apply.f
 repeat' first
   | (with_reducible exact ih0 _ _ _)
   | (with_reducible exact ih1 _ _ _ _)
   | (with_reducible exact ih2 _ _ _ _ _)
   | (with_reducible exact cutroomref28_Proper.mono _ _)
   | (with_reducible exact LeO.refl _)
   | (with_reducible exact LeO.none _)
   | (with_reducible refine LeO.ite ?_ ?_)
   | (with_reducible refine LeO.bind ?_ (fun _ => ?_))
   | exact ih0 _ _ _
   | exact ih1 _ _ _ _
   | exact ih2 _ _ _ _ _
   | exact cutroomref28_Proper.mono _ _
   | exact LeO.none _
   | refine LeO.ite ?_ ?_
   | refine LeO.bind ?_ (fun _ => ?_)
set_option maxHeartbeats 8000000 in
set_option maxRecDepth 100000 in
theorem cutroomref28_Apply.calls (k : Nat) (A0 : Option Addr) (c0 : Nat) (l0 : List (List Int)) (a1 : Int) (r1 : List (List Int)) (r2 : Int) (w : World) (hr0 : Kd.C (Kd.slice 48 (Kd.int .i16)) w A0 l0.length l0) (hc0 : l0.length ≤ c0) (h : cutroomref28_Apply.f k l0 a1 = some (r1, r2)) :
  Calls Try.prog 29 #[.slice A0 l0.length c0, .int .i64 a1] w fun e w' => ∃ v0_ : Value, e = .returned (.tuple #[v0_, .int .i64 r2]) ∧ Kd.S (Kd.slice 48 (Kd.int .i16)) 47 w' w.heap.size (fun _ => True) v0_ r1 ∧ Below w.heap.size w w' := by
 have HR0 := Aside0.mk hr0
 have HC0 := Aside0.mk hc0
 clear hr0 hc0
 have HB := Aside0.mk (Below.refl w.heap.size w)
 have H : ((cutroomref28_Proper.f k l0).bind fun t506 => (if t506 = true then (if a1 < 0 then (cutroomref28_Apply.j0 k l0 a1 true) else (cutroomref28_Apply.j0 k l0 a1 (decide (a1 > 65536)))) else (cutroomref28_Apply.j0 k l0 a1 true))) = some (r1, r2) := h
 clear h
 have HC3 := Aside0.mk H
 clear H
 go_enter Try.func29, Try.ntmps29
 go_upto_region 1 with (fail)
 go_cut [21] (fun v21 wc => ∃ (kq : Nat) (x21_2 : Bool), v21 = .bool x21_2 ∧ Aside0 (cutroomref28_Apply.j0 kq l0 a1 x21_2 = some (r1, r2)) ∧ Aside0 (kq ≤ k) ∧ Aside0 (Below w.heap.size w wc))
 case first =>
  have H := HC3.out
  clear HC3
  replace H := Option.bind_eq_some_iff.mp H
  obtain ⟨t506, A40, H⟩ := H
  replace H : (if t506 = true then (if a1 < 0 then (cutroomref28_Apply.j0 k l0 a1 true) else (cutroomref28_Apply.j0 k l0 a1 (decide (a1 > 65536)))) else (cutroomref28_Apply.j0 k l0 a1 true)) = some (r1, r2) := H
  have A4 := Aside0.mk A40
  clear A40
  by_cases c5 : t506 = true
  ·subst c5
   have H1 : (if a1 < 0 then (cutroomref28_Apply.j0 k l0 a1 true) else (cutroomref28_Apply.j0 k l0 a1 (decide (a1 > 65536)))) = some (r1, r2) := by rw [if_pos rfl] at H; exact H
   clear H
   have H := H1
   clear H1
   by_cases c6 : a1 < 0
   ·rw [if_pos c6] at H
    have c6b0 : decide (a1 < 0) = true := decide_eq_true c6
    clear c6
    (first | rw [c6b0] | (simp only [i64_w, i32_w]; rw [c6b0]) | skip)
    have H' := Aside0.mk H
    clear H
    go_wp2_with (first | ((with_reducible refine gate_callee (f := 33) rfl ?_); refine goesL_ (some 12) rfl rfl Try.func33 (by kernel_rfl) rfl #[.slice A0 l0.length c0] rfl (by (try simp only [List.map_toArray, List.map_cons, List.map_nil]); first | done | rfl | (simp only [List.length_drop, List.length_take]; rfl)) ?_; (with_reducible refine (cutroomref28_Proper.calls k _ _ l0 true _ ?side1 ?side2 A4.out).mono ?_); (case side1 => repeat (first | exact (Kd.C_below HR0.out HB.out) | (with_reducible refine Kd.C_alloc ?_ _) | (with_reducible refine Kd.C_drewN ?_ _) | (with_reducible refine Kd.C_drew ?_))); (case side2 => exact HC0.out); rintro e w' ⟨rfl, ⟨nd, rfl⟩⟩; refine ⟨_, rfl, ?_⟩))
    go_meet
    case rel => exact ⟨_, (true), (by first | rfl | (simp; done) | (simp [*]; done)), H', ⟨by first | omega | exact Nat.le_refl _⟩, ⟨by repeat (first | (with_reducible first | exact HB.out | apply below_alloc | apply pw_below_drewN | apply below_drew1) | exact HB.out)⟩⟩
   ·rw [if_neg c6] at H
    have c6b0 : decide (a1 < 0) = false := decide_eq_false c6
    clear c6
    (first | rw [c6b0] | (simp only [i64_w, i32_w]; rw [c6b0]) | skip)
    have H' := Aside0.mk H
    clear H
    go_wp2_with (first | ((with_reducible refine gate_callee (f := 33) rfl ?_); refine goesL_ (some 12) rfl rfl Try.func33 (by kernel_rfl) rfl #[.slice A0 l0.length c0] rfl (by (try simp only [List.map_toArray, List.map_cons, List.map_nil]); first | done | rfl | (simp only [List.length_drop, List.length_take]; rfl)) ?_; (with_reducible refine (cutroomref28_Proper.calls k _ _ l0 true _ ?side1 ?side2 A4.out).mono ?_); (case side1 => repeat (first | exact (Kd.C_below HR0.out HB.out) | (with_reducible refine Kd.C_alloc ?_ _) | (with_reducible refine Kd.C_drewN ?_ _) | (with_reducible refine Kd.C_drew ?_))); (case side2 => exact HC0.out); rintro e w' ⟨rfl, ⟨nd, rfl⟩⟩; refine ⟨_, rfl, ?_⟩))
    go_meet
    case rel => exact ⟨_, (decide (a1 > 65536)), (by first | rfl | (simp; done) | (simp [*]; done)), H', ⟨by first | omega | exact Nat.le_refl _⟩, ⟨by repeat (first | (with_reducible first | exact HB.out | apply below_alloc | apply pw_below_drewN | apply below_drew1) | exact HB.out)⟩⟩
  ·replace c5 := Bool.eq_false_iff.mpr c5
   subst c5
   have H1 : (cutroomref28_Apply.j0 k l0 a1 true) = some (r1, r2) := by rw [if_neg (show ¬ (false = true) by decide)] at H; exact H
   clear H
   have H := H1
   clear H1
   have H' := Aside0.mk H
   clear H
   go_wp2_with (first | ((with_reducible refine gate_callee (f := 33) rfl ?_); refine goesL_ (some 12) rfl rfl Try.func33 (by kernel_rfl) rfl #[.slice A0 l0.length c0] rfl (by (try simp only [List.map_toArray, List.map_cons, List.map_nil]); first | done | rfl | (simp only [List.length_drop, List.length_take]; rfl)) ?_; (with_reducible refine (cutroomref28_Proper.calls k _ _ l0 false _ ?side1 ?side2 A4.out).mono ?_); (case side1 => repeat (first | exact (Kd.C_below HR0.out HB.out) | (with_reducible refine Kd.C_alloc ?_ _) | (with_reducible refine Kd.C_drewN ?_ _) | (with_reducible refine Kd.C_drew ?_))); (case side2 => exact HC0.out); rintro e w' ⟨rfl, ⟨nd, rfl⟩⟩; refine ⟨_, rfl, ?_⟩))
   go_meet
   case rel => exact ⟨_, (true), (by first | rfl | (simp; done) | (simp [*]; done)), H', ⟨by first | omega | exact Nat.le_refl _⟩, ⟨by repeat (first | (with_reducible first | exact HB.out | apply below_alloc | apply pw_below_drewN | apply below_drew1) | exact HB.out)⟩⟩
 case rest =>
  clear HC3
  (try clear c2);(try clear p2);(try clear c3);(try clear c5);(try clear c6);(try clear c6b0)
  obtain ⟨kq, x21_2, rfl, HA, HJ2, HB⟩ := hcut
  cases kq with
  | zero => exact absurd HA.out (by simp [cutroomref28_Apply.j0])
  | succ kj2 =>
   have H := HA.out
   clear HA
   simp only [cutroomref28_Apply.j0] at H
   by_cases c7 : x21_2 = true
   ·subst c7
    have H1 : (some (([] : List (List Int)), 1)) = some (r1, r2) := by rw [if_pos rfl] at H; exact H
    clear H
    have H := H1
    clear H1
    simp only [Option.some.injEq, Prod.mk.injEq] at H
    obtain ⟨rfl, rfl⟩ := H
    go_wp2
    go_ret2
    exact ⟨_, by first | rfl | (simp [errW_none, errW_some] <;> rfl) | (simp [*, errW_none, errW_some] <;> rfl), by first | exact Kd.S_nil _ _ _ _ _ | exact Kd.N_nil _ _ _ _ _ | exact Kd.V_nil _ _ _ _ _ | exact Kd.Q_nil _ _ _ _ _ | exact Kd.R_nil _ _ _ _ _, by repeat (first | (with_reducible first | exact HB.out | apply below_alloc | apply pw_below_drewN | apply below_drew1) | exact HB.out)⟩
   ·replace c7 := Bool.eq_false_iff.mpr c7
    subst c7
    have H1 : (if 0 ≤ (l0.length : Int) then (if ((l0.length : Int) : Int).toNat ≤ 11728124029610 then (cutroomref28_Apply.l0 kj2 l0 a1 (List.replicate ((l0.length : Int) : Int).toNat []) 0) else (none)) else (none)) = some (r1, r2) := by rw [if_neg (show ¬ (false = true) by decide)] at H; exact H
    clear H
    have H := H1
    clear H1
    by_cases c8 : 0 ≤ (l0.length : Int)
    ·rw [if_pos c8] at H
     have c8b0 := eq_true c8
     have c8b1 : decide (0 ≤ (l0.length : Int)) = true := decide_eq_true c8
     clear c8
     by_cases c9 : ((l0.length : Int) : Int).toNat ≤ 11728124029610
     ·rw [if_pos c9] at H
      have c9b0 := eq_true c9
      have c9b1 : decide (((l0.length : Int) : Int).toNat ≤ 11728124029610) = true := decide_eq_true c9
      clear c9
      obtain ⟨y507, hy507⟩ : ∃ y_ : List (List Int), y_ = (List.replicate ((l0.length : Int) : Int).toNat []) := ⟨_, rfl⟩
      replace H : (cutroomref28_Apply.l0 kj2 l0 a1 y507 0) = some (r1, r2) := by first | (rw [hy507]; with_reducible exact H) | (have H2_ := (Option.bind_some _ _).symm.trans H; rw [hy507]; with_reducible exact H2_) | (have H2_ := (Option.bind_some _ _).symm.trans H; with_reducible exact H2_) | with_reducible exact H | (rw [hy507]; exact H) | exact H
      have Ny507 := Aside0.mk hy507
      clear hy507
      have H' := Aside0.mk H
      clear H
      go_wp2_with (first | ((with_reducible refine gate_dst (N := 24) rfl ?_); refine Kd.S_make (Kd.slice 48 (Kd.int .i16)) _ 47 rfl (N := 24) rfl 22 _ _ rfl (l0.length : Int) rfl rfl Try.underlying22 (.slice none 0 0) 24 info47 rfl (by decide) (by omega) [] (ok := fun _ => True) (okp := fun _ => True) ⟨_, rfl, Kd.R_nil _ _ _ _ _⟩ (fun _ hk => hk) trivial (of_decide_eq_true (by first | (with_reducible assumption) | assumption)) (Nat.le_trans (Nat.mul_le_mul_right _ (of_decide_eq_true (by first | (with_reducible assumption) | assumption) : (l0.length : Int).toNat ≤ 11728124029610)) (by omega)) (Below.refl _ _) (Nat.le_refl _) ?_; intro v508 w10 ho11 hb hg_ hnew_; clear hg_ hnew_; (first | rw [← Ny507.out] at ho11 | (simp only [Int.reduceToNat] at ho11; rw [← Ny507.out] at ho11)); have n0_ := Aside0.mk (Kd.S_lower ho11 (below_size (by repeat (first | (with_reducible first | exact HB.out | apply below_alloc | apply pw_below_drewN | apply below_drew1) | exact HB.out)))); have n1_ := Aside0.mk (below_step (by repeat (first | (with_reducible first | exact HB.out | apply below_alloc | apply pw_below_drewN | apply below_drew1) | exact HB.out)) hb); clear HB; have HO509 := n0_; have HB := n1_; clear n0_ n1_; clear hb ho11))
      go_loopg [7] kj2 (fun kq v7 w' => ∃ (x6_2 : List (List Int)) (x7_2 : Int), v7 = .int .i64 x7_2 ∧ Aside0 (cutroomref28_Apply.l0 kq l0 a1 x6_2 x7_2 = some (r1, r2)) ∧ Aside0 (kq ≤ kj2) ∧ Aside0 (Kd.S (Kd.slice 48 (Kd.int .i16)) 47 w' w.heap.size (fun _ => True) v508 x6_2) ∧ Aside0 (Below w.heap.size w w'))
      case atStart => exact ⟨(y507), (0), (by first | rfl | (simp; done) | (simp [*]; done)), H', ⟨Nat.le_refl _⟩, ⟨by (with_reducible repeat (first | apply Kd.S_alloc | apply Kd.S_drewN | apply Kd.S_drew)); exact HO509.out⟩, ⟨by repeat (first | (with_reducible first | exact HB.out | apply below_alloc | apply pw_below_drewN | apply below_drew1) | exact HB.out)⟩⟩
      case round =>
       clear H'
       (try clear c2);(try clear p2);(try clear c3);(try clear c5);(try clear c6);(try clear c6b0);(try clear c7);(try clear c8);(try clear c8b0);(try clear c8b1);(try clear c9);(try clear c9b0);(try clear c9b1);(try clear p2)
       obtain ⟨x6_2, x7_2, rfl, HA, HK2, HO_6, HB⟩ := hrel
       cases gk with
       | zero => exact absurd HA.out (by simp [cutroomref28_Apply.l0])
       | succ k2 =>
        have H := HA.out
        clear HA
        simp only [cutroomref28_Apply.l0] at H
        by_cases c12 : x7_2 < (l0.length : Int)
        ·rw [if_pos c12] at H
         have c12b0 : decide (x7_2 < (l0.length : Int)) = true := decide_eq_true c12
         clear c12
         have H' := Aside0.mk H
         clear H
         go_wp2
         go_loopg [8] k2 (fun kq v8 w' => ∃ (x6_3 : List (List Int)) (x8_3 : Int), v8 = .int .i64 x8_3 ∧ Aside0 (cutroomref28_Apply.l1 kq l0 a1 x6_3 x7_2 x8_3 = some (r1, r2)) ∧ Aside0 (kq ≤ k2) ∧ Aside0 (Kd.S (Kd.slice 48 (Kd.int .i16)) 47 w' w.heap.size (fun _ => True) v508 x6_3) ∧ Aside0 (Below w.heap.size w w'))
         case atStart => exact ⟨(x6_2), (0), (by first | rfl | (simp; done) | (simp [*]; done)), H', ⟨Nat.le_refl _⟩, ⟨by (with_reducible repeat (first | apply Kd.S_alloc | apply Kd.S_drewN | apply Kd.S_drew)); exact HO_6.out⟩, ⟨by repeat (first | (with_reducible first | exact HB.out | apply below_alloc | apply pw_below_drewN | apply below_drew1) | exact HB.out)⟩⟩
         case round =>
          clear H'
          (try clear c1);(try clear c2);(try clear p2);(try clear c3);(try clear c5);(try clear c6);(try clear c6b0);(try clear c7);(try clear c8);(try clear c8b0);(try clear c8b1);(try clear c9);(try clear c9b0);(try clear c9b1);(try clear c12);(try clear c12b0);(try clear p2)
          obtain ⟨x6_3, x8_3, rfl, HA, HK3, HO_6, HB⟩ := hrel
          cases gk with
          | zero => exact absurd HA.out (by simp [cutroomref28_Apply.l1])
          | succ k3 =>
           have H := HA.out
           clear HA
           simp only [cutroomref28_Apply.l1] at H
           by_cases c13 : 0 ≤ x7_2
           ·rw [if_pos c13] at H
            have c13b0 : decide (0 ≤ x7_2) = true := decide_eq_true c13
            clear c13
            by_cases c14 : x7_2 < (l0.length : Int)
            ·rw [if_pos c14] at H
             have c14b0 : decide (x7_2 < (l0.length : Int)) = true := decide_eq_true c14
             clear c14
             by_cases c15 : x8_3 < ((rd_L2 l0 x7_2).length : Int)
             ·rw [if_pos c15] at H
              have c15b0 : decide (x8_3 < ((rd_L2 l0 x7_2).length : Int)) = true := decide_eq_true c15
              clear c15
              by_cases c16 : 0 ≤ x8_3
              ·rw [if_pos c16] at H
               have c16b0 : decide (0 ≤ x8_3) = true := decide_eq_true c16
               clear c16
               by_cases c17 : (Int.tmod (wrap64 ((wrap64 ((wrap64 (rd (rd_L2 l0 x7_2) x8_3)) * a1)) + 2048)) 4096) < 0
               ·rw [if_pos c17] at H
                have c17b0 : decide ((Int.tmod (wrap64 ((wrap64 ((wrap64 (rd (rd_L2 l0 x7_2) x8_3)) * a1)) + 2048)) 4096) < 0) = true := decide_eq_true c17
                clear c17
                by_cases c18 : x7_2 < (x6_3.length : Int)
                ·rw [if_pos c18] at H
                 have c18b0 : decide (x7_2 < (x6_3.length : Int)) = true := decide_eq_true c18
                 clear c18
                 obtain ⟨ji19, hji19⟩ : ∃ j_ : Int, (mn 32767 (wrap64 ((wrap64 (Int.tdiv (wrap64 ((wrap64 ((wrap64 (rd (rd_L2 l0 x7_2) x8_3)) * a1)) + 2048)) 4096)) - 1))) = j_ := ⟨_, rfl⟩
                 replace H : (if (rd_L2 x6_3 x7_2).length < 70368744177664 then (cutroomref28_Apply.l1 k3 l0 a1 (x6_3.set (x7_2 : Int).toNat ((rd_L2 x6_3 x7_2) ++ [mx (-32768) (ji19)])) x7_2 (wrap64 (x8_3 + 1))) else (none)) = some (r1, r2) := by first | (rw [hji19] at H; exact H) | (simp only [hji19] at H ⊢; exact H)
                 have hji19_ : (if (wrap64 ((wrap64 (Int.tdiv (wrap64 ((wrap64 ((wrap64 (rd (rd_L2 l0 x7_2) x8_3)) * a1)) + 2048)) 4096)) - 1)) < 32767 then (wrap64 ((wrap64 (Int.tdiv (wrap64 ((wrap64 ((wrap64 (rd (rd_L2 l0 x7_2) x8_3)) * a1)) + 2048)) 4096)) - 1)) else 32767) = ji19 := hji19
                 obtain ⟨ji20, hji20⟩ : ∃ j_ : Int, (mx (-32768) (ji19)) = j_ := ⟨_, rfl⟩
                 replace H : (if (rd_L2 x6_3 x7_2).length < 70368744177664 then (cutroomref28_Apply.l1 k3 l0 a1 (x6_3.set (x7_2 : Int).toNat ((rd_L2 x6_3 x7_2) ++ [ji20])) x7_2 (wrap64 (x8_3 + 1))) else (none)) = some (r1, r2) := by first | (rw [hji20] at H; exact H) | (simp only [hji20] at H ⊢; exact H)
                 have hji20_ : (if (-32768) < (ji19) then (ji19) else (-32768)) = ji20 := hji20
                 by_cases c21 : (rd_L2 x6_3 x7_2).length < 70368744177664
                 ·rw [if_pos c21] at H
                  have LMc21 := Aside0.mk c21
                  clear c21
                  obtain ⟨y514, hy514⟩ : ∃ y_ : List Int, y_ = ((rd_L2 x6_3 x7_2) ++ [ji20]) := ⟨_, rfl⟩
                  replace H : (cutroomref28_Apply.l1 k3 l0 a1 (x6_3.set (x7_2 : Int).toNat y514) x7_2 (wrap64 (x8_3 + 1))) = some (r1, r2) := by first | (rw [hy514]; with_reducible exact H) | (have H2_ := (Option.bind_some _ _).symm.trans H; rw [hy514]; with_reducible exact H2_) | (have H2_ := (Option.bind_some _ _).symm.trans H; with_reducible exact H2_) | with_reducible exact H | (rw [hy514]; exact H) | exact H
                  have Ny514 := Aside0.mk hy514
                  clear hy514
                  obtain ⟨y517, hy517⟩ : ∃ y_ : List (List Int), y_ = (x6_3.set (x7_2 : Int).toNat y514) := ⟨_, rfl⟩
                  replace H : (cutroomref28_Apply.l1 k3 l0 a1 y517 x7_2 (wrap64 (x8_3 + 1))) = some (r1, r2) := by first | (rw [hy517]; with_reducible exact H) | (have H2_ := (Option.bind_some _ _).symm.trans H; rw [hy517]; with_reducible exact H2_) | (have H2_ := (Option.bind_some _ _).symm.trans H; with_reducible exact H2_) | with_reducible exact H | (rw [hy517]; exact H) | exact H
                  have Ny517 := Aside0.mk hy517
                  clear hy517
                  have H' := Aside0.mk H
                  clear H
                  have p510 : 0 ≤ (x7_2 : Int) := of_decide_eq_true (by first | (with_reducible assumption) | assumption)
                  have q510 : x7_2 < (l0.length : Int) := of_decide_eq_true (by first | (with_reducible assumption) | assumption)
                  obtain ⟨ad510, A510_0, c510_0, e510, hx510_0, hl510_0, hi510_0⟩ := at_L2 HR0.out x7_2 p510 q510
                  cases e510
                  replace hx510_0 := (HB.out.cell (World.block_lt_of_cell? w _ hx510_0)).trans hx510_0
                  have HR510_0 := Aside0.mk hi510_0
                  have HC510_0 := Aside0.mk hl510_0
                  clear hi510_0 hl510_0
                  replace p510 := eq_true p510
                  replace q510 := eq_true q510
                  have p511 : 0 ≤ (x7_2 : Int) := of_decide_eq_true (by first | (with_reducible assumption) | assumption)
                  have q511 : x7_2 < (l0.length : Int) := of_decide_eq_true (by first | (with_reducible assumption) | assumption)
                  obtain ⟨ad511, A511_0, c511_0, e511, hx511_0, hl511_0, hi511_0⟩ := at_L2 HR0.out x7_2 p511 q511
                  obtain rfl : ad510 = ad511 := (by injection e511)
                  replace hx511_0 := (HB.out.cell (World.block_lt_of_cell? w _ hx511_0)).trans hx511_0
                  have HR511_0 := Aside0.mk hi511_0
                  have HC511_0 := Aside0.mk hl511_0
                  clear hi511_0 hl511_0
                  replace p511 := eq_true p511
                  replace q511 := eq_true q511
                  have ea_ := Option.some.inj (hx510_0.symm.trans hx511_0)
                  injection ea_ with ea_ en_ ec_
                  subst ea_
                  subst ec_
                  clear en_
                  have p512 : 0 ≤ (x8_3 : Int) := of_decide_eq_true (by first | (with_reducible assumption) | assumption)
                  have q512 : x8_3 < ((rd_L2 l0 x7_2).length : Int) := of_decide_eq_true (by first | (with_reducible assumption) | assumption)
                  obtain ⟨ad512, e512, hx512_0⟩ := Kd.at_int HR511_0.out x8_3 p512 q512
                  cases e512
                  replace hx512_0 := (HB.out.cell (World.block_lt_of_cell? w _ hx512_0)).trans hx512_0
                  replace p512 := eq_true p512
                  replace q512 := eq_true q512
                  obtain ⟨Ao23, co23, eo23⟩ := Kd.S_slice HO_6.out
                  subst eo23
                  have p513 : 0 ≤ (x7_2 : Int) := of_decide_eq_true (by first | (with_reducible assumption) | assumption)
                  have q513 : x7_2 < (x6_3.length : Int) := of_decide_eq_true (by first | (with_reducible assumption) | assumption)
                  obtain ⟨ad513, A513_0, c513_0, e513, hx513_0, hl513_0, hi513_0⟩ := at_L2 (Kd.S_reads' HO_6.out).2.2 x7_2 p513 q513
                  cases e513
                  obtain ⟨ce513, hce513, hMe513, hcc513⟩ := Kd.S_get HO_6.out [] x7_2 p513 (by first | exact q513 | exact of_decide_eq_true (by first | (with_reducible assumption) | assumption) | (have e_ := (Kd.S_reads' HO_6.out).1; omega))
                  obtain ⟨ve513_0, rfl, ge513_0⟩ := hMe513
                  have hv513_0 := hcc513 0 _ rfl
                  rw [Nat.add_zero, show ((Kd.slice 48 (Kd.int .i16))).sz = 1 from rfl, Nat.mul_one] at hv513_0
                  replace hv513_0 := Option.some.inj (hv513_0.symm.trans hx513_0)
                  rw [hv513_0] at ge513_0
                  have HL513_0 := Aside0.mk (show Kd.R (Kd.int .i16) 48 _ _ _ _ (rd_L2 x6_3 x7_2) from ge513_0)
                  clear hv513_0 ge513_0
                  have HX513_0 := Aside0.mk hx513_0
                  clear hcc513 hce513
                  have HR513_0 := Aside0.mk hi513_0
                  have HC513_0 := Aside0.mk hl513_0
                  clear hi513_0 hl513_0
                  replace p513 := eq_true p513
                  replace q513 := eq_true q513
                  obtain ⟨go24, co24, eo24, gb24, gl24, cl24, HG24⟩ := Kd.S_form HO_6.out (by have h_ : (x7_2 : Int) < ((x6_3.length : Int) : Int) := of_decide_eq_true (by first | (with_reducible assumption) | assumption); have h2_ : 0 ≤ (x7_2 : Int) := (of_decide_eq_true (by first | (with_reducible assumption) | assumption)); omega)
                  (first | cases eo24 | (injection eo24 with ea_ en_ ec_; (first | subst ea_ | (injection ea_ with ea_; subst ea_)); subst ec_; clear en_))
                  have GB24 := Aside0.mk gb24
                  have GG24 := Aside0.mk HG24
                  clear gb24 gl24 HG24
                  (first | simp only [add_plain] at hx513_0 | skip)
                  obtain ⟨oki24, ce24, hcl24, hM24, hcc24, _, _, hH24⟩ := Kd.S_elem HO_6.out [] (x7_2 : Int) (of_decide_eq_true (by first | (with_reducible assumption) | assumption)) (by have h_ : (x7_2 : Int) < ((x6_3.length : Int) : Int) := of_decide_eq_true (by first | (with_reducible assumption) | assumption); first | exact h_ | (have e_ := (Kd.S_reads' HO_6.out).1; omega) | simpa using h_)
                  obtain ⟨ve24_0, rfl, ge24_0⟩ := hM24
                  have hv24 := hcc24 0 _ rfl
                  have hX24 := HX513_0.out
                  (try simp only [add_plain] at hX24)
                  (try simp only [Nat.add_zero] at hv24)
                  (try rw [show ((Kd.slice 48 (Kd.int .i16))).sz = 1 from rfl, Nat.mul_one] at hv24)
                  replace hv24 := Option.some.inj (hv24.symm.trans hX24)
                  subst hv24
                  clear hX24 hcc24 hcl24
                  have UU24 := Aside0.mk (show Kd.R (Kd.int .i16) 48 _ w.heap.size oki24 (.slice A513_0 (rd_L2 x6_3 x7_2).length c513_0) (rd_L2 x6_3 x7_2) from ge24_0)
                  have HH24 := Aside0.mk hH24
                  have HN24 := Aside0.mk (Kd.S_reads' HO_6.out).1
                  clear hH24 ge24_0
                  go_wp2_with (first | ((with_reducible refine gate_builtin (b := .append) (xs := #[.tmp 63, .tmp 68]) rfl ?_); at_builtin; refine Kd.R_append (Kd.int .i16) (w0 := w) w.heap.size rfl (.tmp 63) (.tmp 68) 47 48 (.int .i16 0) 2 rfl Try.underlying47 info48 rfl (by decide) (by omega) (.slice A513_0 (rd_L2 x6_3 x7_2).length c513_0) (rd_L2 x6_3 x7_2) ji20 [.int .i16 ji20] (fun k_ => oki24 k_ ∨ ((fun _ => True)) k_ ∧ wr.heap.size ≤ k_) (fun _ => False) rfl rfl ?aP (fun _ hk => hk.elim) ?aF ?aO ?aB ?aS ?aL ?_; (case aP => exact rfl); (case aB => exact (by repeat (first | (with_reducible first | exact HB.out | apply below_alloc | apply pw_below_drewN | apply below_drew1) | exact HB.out))); (case aF => exact (fun k_ hk => .inr ⟨trivial, hk⟩)); (case aO => exact (by (with_reducible repeat (first | apply Kd.R_alloc | apply Kd.R_drewN | apply Kd.R_drew)); exact Kd.R_mono UU24.out (fun _ hk => .inl hk))); (case aS => exact (below_size (by repeat (first | (with_reducible first | exact HB.out | apply below_alloc | apply pw_below_drewN | apply below_drew1) | exact HB.out)))); (case aL => have := LMc21.out; omega); intro v515 w25 ho hb hg hat; rw [← Ny514.out] at ho; have n0_ := Aside0.mk (hb); have n1_ := Aside0.mk (Kd.H_grown (Kd.H_widen (by repeat (first | exact HH24.out | refine Kd.H_alloc ?_ _ | refine Kd.H_drewN ?_ _ | refine Kd.H_drew ?_))) hg (fun k_ e_ => .inl (UU24.out.1 k_ e_))); have n2_ := Aside0.mk (ho); clear HB; clear HH24; clear HO_6; clear UU24; clear HL513_0; have HB := n0_; have HH24 := n1_; have HO516 := n2_; clear n0_ n1_ n2_; clear ho hb hg hat; have p22 : 0 ≤ (x7_2 : Int) := of_decide_eq_true (by first | (with_reducible assumption) | assumption); have q22 : (x7_2 : Int) < ((x6_3.length : Int) : Int) := of_decide_eq_true (by first | (with_reducible assumption) | assumption); replace p22 := eq_true p22; replace q22 := eq_true q22; obtain ⟨Ao28, co28, eo28⟩ := Kd.R_slice HO516.out; subst eo28; obtain ⟨_, _, hraw26, _, _, hcc26, _⟩ := Kd.H_raw HH24.out (of_decide_eq_true (by first | (with_reducible assumption) | assumption)) (by have h_ : (x7_2 : Int) < ((x6_3.length : Int) : Int) := of_decide_eq_true (by first | (with_reducible assumption) | assumption); first | exact h_ | (have e_ := (HN24.out); omega) | simpa using h_); obtain ⟨_, hfr26⟩ := Kd.H_at HH24.out (of_decide_eq_true (by first | (with_reducible assumption) | assumption)) (by have h_ : (x7_2 : Int) < ((x6_3.length : Int) : Int) := of_decide_eq_true (by first | (with_reducible assumption) | assumption); first | exact h_ | (have e_ := (HN24.out); omega) | simpa using h_); have hx26_0 := hcc26 0 _ rfl; have hf26_0 := hfr26 0; (try simp only [Nat.add_zero] at hx26_0 hf26_0); (try rw [show ((Kd.slice 48 (Kd.int .i16))).sz = 1 from rfl, Nat.mul_one] at hx26_0); (try rw [show ((Kd.slice 48 (Kd.int .i16))).sz = 1 from rfl, Nat.mul_one] at hf26_0); have HP26 := Kd.S_seg0 HH24.out (of_decide_eq_true (by first | (with_reducible assumption) | assumption)) (by have h_ : (x7_2 : Int) < ((x6_3.length : Int) : Int) := of_decide_eq_true (by first | (with_reducible assumption) | assumption); first | exact h_ | (have e_ := (HN24.out); omega) | simpa using h_) (seg := [.slice Ao28 y514.length co28]) (j := 0) (show 1 ≤ 1 from by decide) (x' := y514) (Kd.M_row HO516.out) (fun _ hk => hk); (try simp only [show ((Kd.slice 48 (Kd.int .i16))).sz = 1 from rfl, Nat.mul_one, Nat.add_zero] at HP26); clear hcc26 hfr26) | ((with_reducible refine gate_store (t := 47) (p := 70) rfl ?_); refine store_event (t := 47) (p := 70) (v := ?vo_w27) (w1 := (w25.setCell ⟨go24, (x7_2 : Int).toNat, none⟩ (.slice Ao28 y514.length co28))) ?hg ?ho ?hn ?hr ?_; (case ho => rfl); (case hg => rfl); (case hn => rfl); (case hr => first | (go_simp; done) | (go_simp; rfl)); intro w27 hw; have hg : w25.grownBy w27 (some go24) := (by rw [hw]; exact HP26.2); have hp_ : Kd.S (Kd.slice 48 (Kd.int .i16)) 47 w27 w.heap.size (fun _ => True) (.slice (some ⟨go24, 0, none⟩) x6_3.length co23) y517 := (by rw [hw, Ny517.out]; exact HP26.1); clear HP26; have n0_ := Aside0.mk ((by rw [hw]; exact below_set HB.out GB24.out : Below w.heap.size w w27)); have n1_ := Aside0.mk (hp_); clear HB; clear HO516; clear HH24; have HB := n0_; have HO_6 := n1_; clear n0_ n1_; clear hg hw hp_ hraw26))
                  go_roundg k3
                  case measure => have := HJ2.out; have := HK2.out; have := HK3.out; omega
                  case rel => exact ⟨(y517), (wrap64 (x8_3 + 1)), (by first | rfl | (simp; done) | (simp [*]; done)), H', ⟨by have := HJ2.out; have := HK2.out; have := HK3.out; omega⟩, ⟨by (with_reducible repeat (first | apply Kd.S_alloc | apply Kd.S_drewN | apply Kd.S_drew)); exact HO_6.out⟩, ⟨by repeat (first | (with_reducible first | exact HB.out | apply below_alloc | apply pw_below_drewN | apply below_drew1) | exact HB.out)⟩⟩
                 ·rw [if_neg c21] at H
                  exact absurd H (by simp)
                ·rw [if_neg c18] at H
                 exact absurd H (by simp)
               ·rw [if_neg c17] at H
                have c17b0 : decide ((Int.tmod (wrap64 ((wrap64 ((wrap64 (rd (rd_L2 l0 x7_2) x8_3)) * a1)) + 2048)) 4096) < 0) = false := decide_eq_false c17
                clear c17
                by_cases c29 : x7_2 < (x6_3.length : Int)
                ·rw [if_pos c29] at H
                 have c29b0 : decide (x7_2 < (x6_3.length : Int)) = true := decide_eq_true c29
                 clear c29
                 obtain ⟨ji30, hji30⟩ : ∃ j_ : Int, (mn 32767 (wrap64 (Int.tdiv (wrap64 ((wrap64 ((wrap64 (rd (rd_L2 l0 x7_2) x8_3)) * a1)) + 2048)) 4096))) = j_ := ⟨_, rfl⟩
                 replace H : (if (rd_L2 x6_3 x7_2).length < 70368744177664 then (cutroomref28_Apply.l1 k3 l0 a1 (x6_3.set (x7_2 : Int).toNat ((rd_L2 x6_3 x7_2) ++ [mx (-32768) (ji30)])) x7_2 (wrap64 (x8_3 + 1))) else (none)) = some (r1, r2) := by first | (rw [hji30] at H; exact H) | (simp only [hji30] at H ⊢; exact H)
                 have hji30_ : (if (wrap64 (Int.tdiv (wrap64 ((wrap64 ((wrap64 (rd (rd_L2 l0 x7_2) x8_3)) * a1)) + 2048)) 4096)) < 32767 then (wrap64 (Int.tdiv (wrap64 ((wrap64 ((wrap64 (rd (rd_L2 l0 x7_2) x8_3)) * a1)) + 2048)) 4096)) else 32767) = ji30 := hji30
                 obtain ⟨ji31, hji31⟩ : ∃ j_ : Int, (mx (-32768) (ji30)) = j_ := ⟨_, rfl⟩
                 replace H : (if (rd_L2 x6_3 x7_2).length < 70368744177664 then (cutroomref28_Apply.l1 k3 l0 a1 (x6_3.set (x7_2 : Int).toNat ((rd_L2 x6_3 x7_2) ++ [ji31])) x7_2 (wrap64 (x8_3 + 1))) else (none)) = some (r1, r2) := by first | (rw [hji31] at H; exact H) | (simp only [hji31] at H ⊢; exact H)
                 have hji31_ : (if (-32768) < (ji30) then (ji30) else (-32768)) = ji31 := hji31
                 by_cases c32 : (rd_L2 x6_3 x7_2).length < 70368744177664
                 ·rw [if_pos c32] at H
                  have LMc32 := Aside0.mk c32
                  clear c32
                  obtain ⟨y519, hy519⟩ : ∃ y_ : List Int, y_ = ((rd_L2 x6_3 x7_2) ++ [ji31]) := ⟨_, rfl⟩
                  replace H : (cutroomref28_Apply.l1 k3 l0 a1 (x6_3.set (x7_2 : Int).toNat y519) x7_2 (wrap64 (x8_3 + 1))) = some (r1, r2) := by first | (rw [hy519]; with_reducible exact H) | (have H2_ := (Option.bind_some _ _).symm.trans H; rw [hy519]; with_reducible exact H2_) | (have H2_ := (Option.bind_some _ _).symm.trans H; with_reducible exact H2_) | with_reducible exact H | (rw [hy519]; exact H) | exact H
                  have Ny519 := Aside0.mk hy519
                  clear hy519
                  obtain ⟨y522, hy522⟩ : ∃ y_ : List (List Int), y_ = (x6_3.set (x7_2 : Int).toNat y519) := ⟨_, rfl⟩
                  replace H : (cutroomref28_Apply.l1 k3 l0 a1 y522 x7_2 (wrap64 (x8_3 + 1))) = some (r1, r2) := by first | (rw [hy522]; with_reducible exact H) | (have H2_ := (Option.bind_some _ _).symm.trans H; rw [hy522]; with_reducible exact H2_) | (have H2_ := (Option.bind_some _ _).symm.trans H; with_reducible exact H2_) | with_reducible exact H | (rw [hy522]; exact H) | exact H
                  have Ny522 := Aside0.mk hy522
                  clear hy522
                  have H' := Aside0.mk H
                  clear H
                  have p510 : 0 ≤ (x7_2 : Int) := of_decide_eq_true (by first | (with_reducible assumption) | assumption)
                  have q510 : x7_2 < (l0.length : Int) := of_decide_eq_true (by first | (with_reducible assumption) | assumption)
                  obtain ⟨ad510, A510_0, c510_0, e510, hx510_0, hl510_0, hi510_0⟩ := at_L2 HR0.out x7_2 p510 q510
                  cases e510
                  replace hx510_0 := (HB.out.cell (World.block_lt_of_cell? w _ hx510_0)).trans hx510_0
                  have HR510_0 := Aside0.mk hi510_0
                  have HC510_0 := Aside0.mk hl510_0
                  clear hi510_0 hl510_0
                  replace p510 := eq_true p510
                  replace q510 := eq_true q510
                  have p511 : 0 ≤ (x7_2 : Int) := of_decide_eq_true (by first | (with_reducible assumption) | assumption)
                  have q511 : x7_2 < (l0.length : Int) := of_decide_eq_true (by first | (with_reducible assumption) | assumption)
                  obtain ⟨ad511, A511_0, c511_0, e511, hx511_0, hl511_0, hi511_0⟩ := at_L2 HR0.out x7_2 p511 q511
                  obtain rfl : ad510 = ad511 := (by injection e511)
                  replace hx511_0 := (HB.out.cell (World.block_lt_of_cell? w _ hx511_0)).trans hx511_0
                  have HR511_0 := Aside0.mk hi511_0
                  have HC511_0 := Aside0.mk hl511_0
                  clear hi511_0 hl511_0
                  replace p511 := eq_true p511
                  replace q511 := eq_true q511
                  have ea_ := Option.some.inj (hx510_0.symm.trans hx511_0)
                  injection ea_ with ea_ en_ ec_
                  subst ea_
                  subst ec_
                  clear en_
                  have p512 : 0 ≤ (x8_3 : Int) := of_decide_eq_true (by first | (with_reducible assumption) | assumption)
                  have q512 : x8_3 < ((rd_L2 l0 x7_2).length : Int) := of_decide_eq_true (by first | (with_reducible assumption) | assumption)
                  obtain ⟨ad512, e512, hx512_0⟩ := Kd.at_int HR511_0.out x8_3 p512 q512
                  cases e512
                  replace hx512_0 := (HB.out.cell (World.block_lt_of_cell? w _ hx512_0)).trans hx512_0
                  replace p512 := eq_true p512
                  replace q512 := eq_true q512
                  obtain ⟨Ao34, co34, eo34⟩ := Kd.S_slice HO_6.out
                  subst eo34
                  have p518 : 0 ≤ (x7_2 : Int) := of_decide_eq_true (by first | (with_reducible assumption) | assumption)
                  have q518 : x7_2 < (x6_3.length : Int) := of_decide_eq_true (by first | (with_reducible assumption) | assumption)
                  obtain ⟨ad518, A518_0, c518_0, e518, hx518_0, hl518_0, hi518_0⟩ := at_L2 (Kd.S_reads' HO_6.out).2.2 x7_2 p518 q518
                  cases e518
                  obtain ⟨ce518, hce518, hMe518, hcc518⟩ := Kd.S_get HO_6.out [] x7_2 p518 (by first | exact q518 | exact of_decide_eq_true (by first | (with_reducible assumption) | assumption) | (have e_ := (Kd.S_reads' HO_6.out).1; omega))
                  obtain ⟨ve518_0, rfl, ge518_0⟩ := hMe518
                  have hv518_0 := hcc518 0 _ rfl
                  rw [Nat.add_zero, show ((Kd.slice 48 (Kd.int .i16))).sz = 1 from rfl, Nat.mul_one] at hv518_0
                  replace hv518_0 := Option.some.inj (hv518_0.symm.trans hx518_0)
                  rw [hv518_0] at ge518_0
                  have HL518_0 := Aside0.mk (show Kd.R (Kd.int .i16) 48 _ _ _ _ (rd_L2 x6_3 x7_2) from ge518_0)
                  clear hv518_0 ge518_0
                  have HX518_0 := Aside0.mk hx518_0
                  clear hcc518 hce518
                  have HR518_0 := Aside0.mk hi518_0
                  have HC518_0 := Aside0.mk hl518_0
                  clear hi518_0 hl518_0
                  replace p518 := eq_true p518
                  replace q518 := eq_true q518
                  obtain ⟨go35, co35, eo35, gb35, gl35, cl35, HG35⟩ := Kd.S_form HO_6.out (by have h_ : (x7_2 : Int) < ((x6_3.length : Int) : Int) := of_decide_eq_true (by first | (with_reducible assumption) | assumption); have h2_ : 0 ≤ (x7_2 : Int) := (of_decide_eq_true (by first | (with_reducible assumption) | assumption)); omega)
                  (first | cases eo35 | (injection eo35 with ea_ en_ ec_; (first | subst ea_ | (injection ea_ with ea_; subst ea_)); subst ec_; clear en_))
                  have GB35 := Aside0.mk gb35
                  have GG35 := Aside0.mk HG35
                  clear gb35 gl35 HG35
                  (first | simp only [add_plain] at hx518_0 | skip)
                  obtain ⟨oki35, ce35, hcl35, hM35, hcc35, _, _, hH35⟩ := Kd.S_elem HO_6.out [] (x7_2 : Int) (of_decide_eq_true (by first | (with_reducible assumption) | assumption)) (by have h_ : (x7_2 : Int) < ((x6_3.length : Int) : Int) := of_decide_eq_true (by first | (with_reducible assumption) | assumption); first | exact h_ | (have e_ := (Kd.S_reads' HO_6.out).1; omega) | simpa using h_)
                  obtain ⟨ve35_0, rfl, ge35_0⟩ := hM35
                  have hv35 := hcc35 0 _ rfl
                  have hX35 := HX518_0.out
                  (try simp only [add_plain] at hX35)
                  (try simp only [Nat.add_zero] at hv35)
                  (try rw [show ((Kd.slice 48 (Kd.int .i16))).sz = 1 from rfl, Nat.mul_one] at hv35)
                  replace hv35 := Option.some.inj (hv35.symm.trans hX35)
                  subst hv35
                  clear hX35 hcc35 hcl35
                  have UU35 := Aside0.mk (show Kd.R (Kd.int .i16) 48 _ w.heap.size oki35 (.slice A518_0 (rd_L2 x6_3 x7_2).length c518_0) (rd_L2 x6_3 x7_2) from ge35_0)
                  have HH35 := Aside0.mk hH35
                  have HN35 := Aside0.mk (Kd.S_reads' HO_6.out).1
                  clear hH35 ge35_0
                  go_wp2_with (first | ((with_reducible refine gate_builtin (b := .append) (xs := #[.tmp 63, .tmp 68]) rfl ?_); at_builtin; refine Kd.R_append (Kd.int .i16) (w0 := w) w.heap.size rfl (.tmp 63) (.tmp 68) 47 48 (.int .i16 0) 2 rfl Try.underlying47 info48 rfl (by decide) (by omega) (.slice A518_0 (rd_L2 x6_3 x7_2).length c518_0) (rd_L2 x6_3 x7_2) ji31 [.int .i16 ji31] (fun k_ => oki35 k_ ∨ ((fun _ => True)) k_ ∧ wr.heap.size ≤ k_) (fun _ => False) rfl rfl ?aP (fun _ hk => hk.elim) ?aF ?aO ?aB ?aS ?aL ?_; (case aP => exact rfl); (case aB => exact (by repeat (first | (with_reducible first | exact HB.out | apply below_alloc | apply pw_below_drewN | apply below_drew1) | exact HB.out))); (case aF => exact (fun k_ hk => .inr ⟨trivial, hk⟩)); (case aO => exact (by (with_reducible repeat (first | apply Kd.R_alloc | apply Kd.R_drewN | apply Kd.R_drew)); exact Kd.R_mono UU35.out (fun _ hk => .inl hk))); (case aS => exact (below_size (by repeat (first | (with_reducible first | exact HB.out | apply below_alloc | apply pw_below_drewN | apply below_drew1) | exact HB.out)))); (case aL => have := LMc32.out; omega); intro v520 w36 ho hb hg hat; rw [← Ny519.out] at ho; have n0_ := Aside0.mk (hb); have n1_ := Aside0.mk (Kd.H_grown (Kd.H_widen (by repeat (first | exact HH35.out | refine Kd.H_alloc ?_ _ | refine Kd.H_drewN ?_ _ | refine Kd.H_drew ?_))) hg (fun k_ e_ => .inl (UU35.out.1 k_ e_))); have n2_ := Aside0.mk (ho); clear HB; clear HH35; clear HO_6; clear UU35; clear HL518_0; have HB := n0_; have HH35 := n1_; have HO521 := n2_; clear n0_ n1_ n2_; clear ho hb hg hat; have p33 : 0 ≤ (x7_2 : Int) := of_decide_eq_true (by first | (with_reducible assumption) | assumption); have q33 : (x7_2 : Int) < ((x6_3.length : Int) : Int) := of_decide_eq_true (by first | (with_reducible assumption) | assumption); replace p33 := eq_true p33; replace q33 := eq_true q33; obtain ⟨Ao39, co39, eo39⟩ := Kd.R_slice HO521.out; subst eo39; obtain ⟨_, _, hraw37, _, _, hcc37, _⟩ := Kd.H_raw HH35.out (of_decide_eq_true (by first | (with_reducible assumption) | assumption)) (by have h_ : (x7_2 : Int) < ((x6_3.length : Int) : Int) := of_decide_eq_true (by first | (with_reducible assumption) | assumption); first | exact h_ | (have e_ := (HN35.out); omega) | simpa using h_); obtain ⟨_, hfr37⟩ := Kd.H_at HH35.out (of_decide_eq_true (by first | (with_reducible assumption) | assumption)) (by have h_ : (x7_2 : Int) < ((x6_3.length : Int) : Int) := of_decide_eq_true (by first | (with_reducible assumption) | assumption); first | exact h_ | (have e_ := (HN35.out); omega) | simpa using h_); have hx37_0 := hcc37 0 _ rfl; have hf37_0 := hfr37 0; (try simp only [Nat.add_zero] at hx37_0 hf37_0); (try rw [show ((Kd.slice 48 (Kd.int .i16))).sz = 1 from rfl, Nat.mul_one] at hx37_0); (try rw [show ((Kd.slice 48 (Kd.int .i16))).sz = 1 from rfl, Nat.mul_one] at hf37_0); have HP37 := Kd.S_seg0 HH35.out (of_decide_eq_true (by first | (with_reducible assumption) | assumption)) (by have h_ : (x7_2 : Int) < ((x6_3.length : Int) : Int) := of_decide_eq_true (by first | (with_reducible assumption) | assumption); first | exact h_ | (have e_ := (HN35.out); omega) | simpa using h_) (seg := [.slice Ao39 y519.length co39]) (j := 0) (show 1 ≤ 1 from by decide) (x' := y519) (Kd.M_row HO521.out) (fun _ hk => hk); (try simp only [show ((Kd.slice 48 (Kd.int .i16))).sz = 1 from rfl, Nat.mul_one, Nat.add_zero] at HP37); clear hcc37 hfr37) | ((with_reducible refine gate_store (t := 47) (p := 70) rfl ?_); refine store_event (t := 47) (p := 70) (v := ?vo_w38) (w1 := (w36.setCell ⟨go35, (x7_2 : Int).toNat, none⟩ (.slice Ao39 y519.length co39))) ?hg ?ho ?hn ?hr ?_; (case ho => rfl); (case hg => rfl); (case hn => rfl); (case hr => first | (go_simp; done) | (go_simp; rfl)); intro w38 hw; have hg : w36.grownBy w38 (some go35) := (by rw [hw]; exact HP37.2); have hp_ : Kd.S (Kd.slice 48 (Kd.int .i16)) 47 w38 w.heap.size (fun _ => True) (.slice (some ⟨go35, 0, none⟩) x6_3.length co34) y522 := (by rw [hw, Ny522.out]; exact HP37.1); clear HP37; have n0_ := Aside0.mk ((by rw [hw]; exact below_set HB.out GB35.out : Below w.heap.size w w38)); have n1_ := Aside0.mk (hp_); clear HB; clear HO521; clear HH35; have HB := n0_; have HO_6 := n1_; clear n0_ n1_; clear hg hw hp_ hraw37))
                  go_roundg k3
                  case measure => have := HJ2.out; have := HK2.out; have := HK3.out; omega
                  case rel => exact ⟨(y522), (wrap64 (x8_3 + 1)), (by first | rfl | (simp; done) | (simp [*]; done)), H', ⟨by have := HJ2.out; have := HK2.out; have := HK3.out; omega⟩, ⟨by (with_reducible repeat (first | apply Kd.S_alloc | apply Kd.S_drewN | apply Kd.S_drew)); exact HO_6.out⟩, ⟨by repeat (first | (with_reducible first | exact HB.out | apply below_alloc | apply pw_below_drewN | apply below_drew1) | exact HB.out)⟩⟩
                 ·rw [if_neg c32] at H
                  exact absurd H (by simp)
                ·rw [if_neg c29] at H
                 exact absurd H (by simp)
              ·rw [if_neg c16] at H
               exact absurd H (by simp)
             ·rw [if_neg c15] at H
              have c15b0 : decide (x8_3 < ((rd_L2 l0 x7_2).length : Int)) = false := decide_eq_false c15
              clear c15
              have H' := Aside0.mk H
              clear H
              have p510 : 0 ≤ (x7_2 : Int) := of_decide_eq_true (by first | (with_reducible assumption) | assumption)
              have q510 : x7_2 < (l0.length : Int) := of_decide_eq_true (by first | (with_reducible assumption) | assumption)
              obtain ⟨ad510, A510_0, c510_0, e510, hx510_0, hl510_0, hi510_0⟩ := at_L2 HR0.out x7_2 p510 q510
              cases e510
              replace hx510_0 := (HB.out.cell (World.block_lt_of_cell? w _ hx510_0)).trans hx510_0
              have HR510_0 := Aside0.mk hi510_0
              have HC510_0 := Aside0.mk hl510_0
              clear hi510_0 hl510_0
              replace p510 := eq_true p510
              replace q510 := eq_true q510
              go_wp2
              go_roundg k3
              case measure => have := HJ2.out; have := HK2.out; have := HK3.out; omega
              case rel => exact ⟨(x6_3), (wrap64 (x7_2 + 1)), (by first | rfl | (simp; done) | (simp [*]; done)), H', ⟨by have := HJ2.out; have := HK2.out; have := HK3.out; omega⟩, ⟨by (with_reducible repeat (first | apply Kd.S_alloc | apply Kd.S_drewN | apply Kd.S_drew)); exact HO_6.out⟩, ⟨by repeat (first | (with_reducible first | exact HB.out | apply below_alloc | apply pw_below_drewN | apply below_drew1) | exact HB.out)⟩⟩
            ·rw [if_neg c14] at H
             exact absurd H (by simp)
           ·rw [if_neg c13] at H
            exact absurd H (by simp)
        ·rw [if_neg c12] at H
         have c12b0 : decide (x7_2 < (l0.length : Int)) = false := decide_eq_false c12
         clear c12
         simp only [Option.some.injEq, Prod.mk.injEq] at H
         obtain ⟨rfl, rfl⟩ := H
         go_wp2
         go_ret2
         exact ⟨_, by first | rfl | (simp [errW_none, errW_some] <;> rfl) | (simp [*, errW_none, errW_some] <;> rfl), by (with_reducible repeat (first | apply Kd.S_alloc | apply Kd.S_drewN | apply Kd.S_drew)); exact HO_6.out, by repeat (first | (with_reducible first | exact HB.out | apply below_alloc | apply pw_below_drewN | apply below_drew1) | exact HB.out)⟩
     ·rw [if_neg c9] at H
      exact absurd H (by simp)
    ·rw [if_neg c8] at H
     exact absurd H (by simp)

end Go.Proofs.Ytjcjbbcamkkeiaa.P
