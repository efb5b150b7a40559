-- Written by this session's own program (wip/tools/myprint.py), which runs the kit's print with turns of its own: not a text of the kit's print.sh.
import Derived.Test.YtjcjbbcamkkeiaaPx0
import Derived.Test.YtjcjbbcamkkeiaaPx15
namespace Go.Proofs.Ytjcjbbcamkkeiaa.P
open Go.RowKit Go.Proofs.YtjcjbbcamkkeiaaW.PrintWords Go.Proofs.YtjcjbbcamkkeiaaW.PrintLast Go.Proofs.YtjcjbbcamkkeiaaW.PrintMore
attribute [local go_sem] max2_int min2_int max_two min_two max_three min_three max_four min_four   -- for this text's walks alone
set_option linter.unusedVariables false
set_option linter.unusedSimpArgs false

/-! ### loudness_Gated: function 20 -/
mutual
def loudness_Gated.l0 : Nat → List Int → Int → Int → List Int → Int → Int → Option (List Int × Int)
 | 0, _, _, _, _, _, _ => none
 | k + 1, x4, x6, x7, x21, x22, x23 => if x23 < x22 then (if 0 ≤ x23 then (if x23 < (x21.length : Int) then (if (rd x21 x23) ≥ 30720 then (loudness_Gated.l0 k x4 (wrap64 (x6 + (rd x21 x23))) (wrap64 (x7 + 1)) x21 x22 (wrap64 (x23 + 1))) else (loudness_Gated.l0 k x4 x6 x7 x21 x22 (wrap64 (x23 + 1)))) else (none)) else (none)) else (loudness_Gated.l1 k x6 x7 ([] : List Int) x4 (x4.length : Int) 0)
def loudness_Gated.l1 : Nat → Int → Int → List Int → List Int → Int → Int → Option (List Int × Int)
 | 0, _, _, _, _, _, _ => none
 | k + 1, x6, x7, x10, x35, x36, x37 => if x37 < x36 then (if 0 ≤ x37 then (if x37 < (x35.length : Int) then (if (rd x35 x37) ≥ 30720 then (if (wrap64 ((wrap64 (10 * (rd x35 x37))) * x7)) ≥ x6 then (if x10.length < 17592186044416 then (loudness_Gated.l1 k x6 x7 (x10 ++ [x37]) x35 x36 (wrap64 (x37 + 1))) else (none)) else (loudness_Gated.l1 k x6 x7 x10 x35 x36 (wrap64 (x37 + 1)))) else (loudness_Gated.l1 k x6 x7 x10 x35 x36 (wrap64 (x37 + 1)))) else (none)) else (none)) else (some (x10, 0))
end
def loudness_Gated.f (k : Nat) (l0 : List (List Int)) : Option (List Int × Int) := (loudness_Powers.f k l0).bind fun bt161 => (if bt161.2 = 0 then (loudness_Gated.l0 k bt161.1 0 0 bt161.1 (bt161.1.length : Int) 0) else (some (([] : List Int), bt161.2)))
theorem loudness_Gated.mono_l : ∀ k, (∀ y0 y1 y2 y3 y4 y5, LeO (loudness_Gated.l0 k y0 y1 y2 y3 y4 y5) (loudness_Gated.l0 (k + 1) y0 y1 y2 y3 y4 y5)) ∧ (∀ y0 y1 y2 y3 y4 y5, LeO (loudness_Gated.l1 k y0 y1 y2 y3 y4 y5) (loudness_Gated.l1 (k + 1) y0 y1 y2 y3 y4 y5))
 | 0 => ⟨fun _ _ _ _ _ _ r h => by simp [loudness_Gated.l0] at h, fun _ _ _ _ _ _ r h => by simp [loudness_Gated.l1] at h⟩
 | k + 1 => by
  obtain ⟨ih0, ih1⟩ := loudness_Gated.mono_l k
  refine ⟨?_, ?_⟩
  ·intro y0 y1 y2 y3 y4 y5
   unfold loudness_Gated.l0
   repeat' first
   | (with_reducible exact ih0 _ _ _ _ _ _)
   | (with_reducible exact ih1 _ _ _ _ _ _)
   | (with_reducible exact loudness_Powers.mono _ _)
   | (with_reducible exact LeO.refl _)
   | (with_reducible exact LeO.none _)
   | (with_reducible refine LeO.ite ?_ ?_)
   | (with_reducible refine LeO.bind ?_ (fun _ => ?_))
   | exact ih0 _ _ _ _ _ _
   | exact ih1 _ _ _ _ _ _
   | exact loudness_Powers.mono _ _
   | exact LeO.none _
   | refine LeO.ite ?_ ?_
   | refine LeO.bind ?_ (fun _ => ?_)
  ·intro y0 y1 y2 y3 y4 y5
   unfold loudness_Gated.l1
   repeat' first
   | (with_reducible exact ih0 _ _ _ _ _ _)
   | (with_reducible exact ih1 _ _ _ _ _ _)
   | (with_reducible exact loudness_Powers.mono _ _)
   | (with_reducible exact LeO.refl _)
   | (with_reducible exact LeO.none _)
   | (with_reducible refine LeO.ite ?_ ?_)
   | (with_reducible refine LeO.bind ?_ (fun _ => ?_))
   | exact ih0 _ _ _ _ _ _
   | exact ih1 _ _ _ _ _ _
   | exact loudness_Powers.mono _ _
   | exact LeO.none _
   | refine LeO.ite ?_ ?_
   | refine LeO.bind ?_ (fun _ => ?_)
theorem loudness_Gated.mono : ∀ a0 k, LeO (loudness_Gated.f k a0) (loudness_Gated.f (k + 1) a0) := by
 intro a0 k
 obtain ⟨ih0, ih1⟩ := loudness_Gated.mono_l k
 unfold loudness_Gated.f
 repeat' first
   | (with_reducible exact ih0 _ _ _ _ _ _)
   | (with_reducible exact ih1 _ _ _ _ _ _)
   | (with_reducible exact loudness_Powers.mono _ _)
   | (with_reducible exact LeO.refl _)
   | (with_reducible exact LeO.none _)
   | (with_reducible refine LeO.ite ?_ ?_)
   | (with_reducible refine LeO.bind ?_ (fun _ => ?_))
   | exact ih0 _ _ _ _ _ _
   | exact ih1 _ _ _ _ _ _
   | exact loudness_Powers.mono _ _
   | exact LeO.none _
   | refine LeO.ite ?_ ?_
   | refine LeO.bind ?_ (fun _ => ?_)
set_option maxHeartbeats 8000000 in
set_option maxRecDepth 100000 in
theorem loudness_Gated.calls (k : Nat) (A0 : Option Addr) (c0 : Nat) (l0 : List (List Int)) (r1 : List Int) (r2 : Int) (w : World) (hr0 : Kd.C (Kd.slice 48 (Kd.int .i16)) w A0 l0.length l0) (hc0 : l0.length ≤ c0) (h : loudness_Gated.f k l0 = some (r1, r2)) :
  Calls Try.prog 20 #[.slice A0 l0.length c0] w fun e w' => ∃ v0_ : Value, e = .returned (.tuple #[v0_, .int .i64 r2]) ∧ Kd.R (Kd.int .i64) 3 w' w.heap.size (fun _ => True) v0_ r1 ∧ Below w.heap.size w w' := by
 have HR0 := Aside0.mk hr0
 have HC0 := Aside0.mk hc0
 clear hr0 hc0
 have HB := Aside0.mk (Below.refl w.heap.size w)
 have H : ((loudness_Powers.f k l0).bind fun bt161 => (if bt161.2 = 0 then (loudness_Gated.l0 k bt161.1 0 0 bt161.1 (bt161.1.length : Int) 0) else (some (([] : List Int), bt161.2)))) = some (r1, r2) := h
 clear h
 replace H := Option.bind_eq_some_iff.mp H
 obtain ⟨⟨t161, t162⟩, A20, H⟩ := H
 replace H : (if t162 = 0 then (loudness_Gated.l0 k t161 0 0 t161 (t161.length : Int) 0) else (some (([] : List Int), t162))) = some (r1, r2) := H
 have A2 := Aside0.mk A20
 clear A20
 by_cases c3 : t162 = 0
 ·rw [if_pos c3] at H
  have c3b0 : (t162 == 0) = true := beq_iff_eq.mpr c3
  have c3b1 : (t162 != 0) = false := bne_eq_false_iff_eq.mpr c3
  clear c3
  have H' := Aside0.mk H
  clear H
  go_enter Try.func20, Try.ntmps20
  go_wp2_with (first | ((with_reducible refine gate_callee (f := 14) rfl ?_); refine goesL_ (some 15) rfl rfl Try.func14 (by kernel_rfl) rfl #[.slice A0 l0.length c0] rfl (by (try simp only [List.map_toArray, List.map_cons, List.map_nil]); first | done | rfl | (simp only [List.length_drop, List.length_take]; rfl)) ?_; (with_reducible refine (loudness_Powers.calls k _ _ l0 t161 t162 _ ?side1 ?side2 A2.out).mono ?_); (case side1 => repeat (first | exact HR0.out | (with_reducible refine Kd.C_alloc ?_ _) | (with_reducible refine Kd.C_drewN ?_ _) | (with_reducible refine Kd.C_drew ?_))); (case side2 => exact HC0.out); rintro e w4 ⟨v163, rfl, ho0, hb⟩; refine ⟨_, rfl, ?_⟩; have n0_ := Aside0.mk (Kd.R_lower ho0 (below_size (by repeat (first | (with_reducible first | exact HB.out | apply below_alloc | apply pw_below_drewN | apply below_drew1) | exact HB.out)))); have n1_ := Aside0.mk (below_step (by repeat (first | (with_reducible first | exact HB.out | apply below_alloc | apply pw_below_drewN | apply below_drew1) | exact HB.out)) hb); clear HB; have HO164 := n0_; have HB := n1_; clear n0_ n1_; (try clear hb); (try clear hb2); (try clear hk); (try clear hi); (try clear ho0); obtain ⟨Ao5, co5, eo5⟩ := Kd.R_slice HO164.out; subst eo5))
  go_loopg [6, 7, 23] k (fun kq v6 v7 v23 w' => ∃ (x6_1 : Int) (x7_1 : Int) (x23_1 : Int), v6 = .int .i64 x6_1 ∧ v7 = .int .i64 x7_1 ∧ v23 = .int .i64 x23_1 ∧ Aside0 (loudness_Gated.l0 kq t161 x6_1 x7_1 t161 (t161.length : Int) x23_1 = some (r1, r2)) ∧ Aside0 (kq ≤ k) ∧ Aside0 (Kd.R (Kd.int .i64) 2 w' w.heap.size (fun _ => True) (.slice Ao5 t161.length co5) t161) ∧ Aside0 (Kd.R (Kd.int .i64) 2 w' w.heap.size (fun _ => True) (.slice Ao5 t161.length co5) t161) ∧ Aside0 (Below w.heap.size w w'))
  case atStart => exact ⟨(0), (0), (0), (by first | rfl | (simp; done) | (simp [*]; done)), (by first | rfl | (simp; done) | (simp [*]; done)), (by first | rfl | (simp; done) | (simp [*]; done)), H', ⟨Nat.le_refl _⟩, ⟨by (with_reducible repeat (first | apply Kd.R_alloc | apply Kd.R_drewN | apply Kd.R_drew)); exact HO164.out⟩, ⟨by (with_reducible repeat (first | apply Kd.R_alloc | apply Kd.R_drewN | apply Kd.R_drew)); exact HO164.out⟩, ⟨by repeat (first | (with_reducible first | exact HB.out | apply below_alloc | apply pw_below_drewN | apply below_drew1) | exact HB.out)⟩⟩
  case round =>
   clear H'
   (try clear c1);(try clear c2);(try clear p2);(try clear c3);(try clear c3b0);(try clear c3b1)
   obtain ⟨x6_1, x7_1, x23_1, rfl, rfl, rfl, HA, HK1, HO_4, HO_21, HB⟩ := hrel
   cases gk with
   | zero => exact absurd HA.out (by simp [loudness_Gated.l0])
   | succ k1 =>
    have H := HA.out
    clear HA
    simp only [loudness_Gated.l0] at H
    by_cases c6 : x23_1 < (t161.length : Int)
    ·rw [if_pos c6] at H
     have c6b0 : decide (x23_1 < (t161.length : Int)) = true := decide_eq_true c6
     clear c6
     by_cases c7 : 0 ≤ x23_1
     ·rw [if_pos c7] at H
      have c7b0 : decide (0 ≤ x23_1) = true := decide_eq_true c7
      clear c7
      by_cases c8 : x23_1 < (t161.length : Int)
      ·rw [if_pos c8] at H
       have c8b0 : decide (x23_1 < (t161.length : Int)) = true := decide_eq_true c8
       clear c8
       by_cases c9 : (rd t161 x23_1) ≥ 30720
       ·rw [if_pos c9] at H
        have c9b0 : decide (30720 ≤ (rd t161 x23_1)) = true := decide_eq_true c9
        clear c9
        have H' := Aside0.mk H
        clear H
        have p165 : 0 ≤ (x23_1 : Int) := of_decide_eq_true (by first | (with_reducible assumption) | assumption)
        have q165 : x23_1 < (t161.length : Int) := of_decide_eq_true (by first | (with_reducible assumption) | assumption)
        obtain ⟨ad165, e165, hx165_0⟩ := Kd.at_int (Kd.R_reads' HO_21.out).2.2 x23_1 p165 q165
        cases e165
        replace p165 := eq_true p165
        replace q165 := eq_true q165
        go_wp2
        go_roundg k1
        case measure => have := HK1.out; omega
        case rel => exact ⟨(wrap64 (x6_1 + (rd t161 x23_1))), (wrap64 (x7_1 + 1)), (wrap64 (x23_1 + 1)), (by first | rfl | (simp; done) | (simp [*]; done)), (by first | rfl | (simp; done) | (simp [*]; done)), (by first | rfl | (simp; done) | (simp [*]; done)), H', ⟨by have := HK1.out; omega⟩, ⟨by (with_reducible repeat (first | apply Kd.R_alloc | apply Kd.R_drewN | apply Kd.R_drew)); exact HO_4.out⟩, ⟨by (with_reducible repeat (first | apply Kd.R_alloc | apply Kd.R_drewN | apply Kd.R_drew)); exact HO_21.out⟩, ⟨by repeat (first | (with_reducible first | exact HB.out | apply below_alloc | apply pw_below_drewN | apply below_drew1) | exact HB.out)⟩⟩
       ·rw [if_neg c9] at H
        have c9b0 : decide (30720 ≤ (rd t161 x23_1)) = false := decide_eq_false c9
        clear c9
        have H' := Aside0.mk H
        clear H
        have p165 : 0 ≤ (x23_1 : Int) := of_decide_eq_true (by first | (with_reducible assumption) | assumption)
        have q165 : x23_1 < (t161.length : Int) := of_decide_eq_true (by first | (with_reducible assumption) | assumption)
        obtain ⟨ad165, e165, hx165_0⟩ := Kd.at_int (Kd.R_reads' HO_21.out).2.2 x23_1 p165 q165
        cases e165
        replace p165 := eq_true p165
        replace q165 := eq_true q165
        go_wp2
        go_roundg k1
        case measure => have := HK1.out; omega
        case rel => exact ⟨(x6_1), (x7_1), (wrap64 (x23_1 + 1)), (by first | rfl | (simp; done) | (simp [*]; done)), (by first | rfl | (simp; done) | (simp [*]; done)), (by first | rfl | (simp; done) | (simp [*]; done)), H', ⟨by have := HK1.out; omega⟩, ⟨by (with_reducible repeat (first | apply Kd.R_alloc | apply Kd.R_drewN | apply Kd.R_drew)); exact HO_4.out⟩, ⟨by (with_reducible repeat (first | apply Kd.R_alloc | apply Kd.R_drewN | apply Kd.R_drew)); exact HO_21.out⟩, ⟨by repeat (first | (with_reducible first | exact HB.out | apply below_alloc | apply pw_below_drewN | apply below_drew1) | exact HB.out)⟩⟩
      ·rw [if_neg c8] at H
       exact absurd H (by simp)
     ·rw [if_neg c7] at H
      exact absurd H (by simp)
    ·rw [if_neg c6] at H
     have c6b0 : decide (x23_1 < (t161.length : Int)) = false := decide_eq_false c6
     clear c6
     have H' := Aside0.mk H
     clear H
     go_wp2
     go_loopg [10, 37] k1 (fun kq v10 v37 w' => ∃ (x10_2 : List Int) (x37_2 : Int), v37 = .int .i64 x37_2 ∧ Aside0 (loudness_Gated.l1 kq x6_1 x7_1 x10_2 t161 (t161.length : Int) x37_2 = some (r1, r2)) ∧ Aside0 (kq ≤ k1) ∧ Aside0 (Kd.R (Kd.int .i64) 3 w' w.heap.size (fun _ => True) v10 x10_2) ∧ Aside0 (Kd.R (Kd.int .i64) 2 w' w.heap.size (fun _ => True) (.slice Ao5 t161.length co5) t161) ∧ Aside0 (Below w.heap.size w w'))
     case atStart => exact ⟨(([] : List Int)), (0), (by first | rfl | (simp; done) | (simp [*]; done)), H', ⟨Nat.le_refl _⟩, ⟨by first | exact Kd.R_nil _ _ _ _ _ | exact Kd.N_nil _ _ _ _ _ | exact Kd.V_nil _ _ _ _ _ | exact Kd.Q_nil _ _ _ _ _ | exact Kd.S_nil _ _ _ _ _⟩, ⟨by (with_reducible repeat (first | apply Kd.R_alloc | apply Kd.R_drewN | apply Kd.R_drew)); exact HO_4.out⟩, ⟨by repeat (first | (with_reducible first | exact HB.out | apply below_alloc | apply pw_below_drewN | apply below_drew1) | exact HB.out)⟩⟩
     case round =>
      clear H'
      (try clear c1);(try clear p1);(try clear q1);(try clear hx1);(try clear c2);(try clear p2);(try clear c3);(try clear c3b0);(try clear c3b1);(try clear c6);(try clear c6b0);(try clear p6);(try clear c7);(try clear c7b0);(try clear c8);(try clear c8b0);(try clear c9);(try clear c9b0);(try clear hx165_0);(try clear p165);(try clear p2);(try clear q165)
      obtain ⟨x10_2, x37_2, rfl, HA, HK2, HO_10, HO_35, HB⟩ := hrel
      cases gk with
      | zero => exact absurd HA.out (by simp [loudness_Gated.l1])
      | succ k2 =>
       have H := HA.out
       clear HA
       simp only [loudness_Gated.l1] at H
       by_cases c10 : x37_2 < (t161.length : Int)
       ·rw [if_pos c10] at H
        have c10b0 : decide (x37_2 < (t161.length : Int)) = true := decide_eq_true c10
        clear c10
        by_cases c11 : 0 ≤ x37_2
        ·rw [if_pos c11] at H
         have c11b0 : decide (0 ≤ x37_2) = true := decide_eq_true c11
         clear c11
         by_cases c12 : x37_2 < (t161.length : Int)
         ·rw [if_pos c12] at H
          have c12b0 : decide (x37_2 < (t161.length : Int)) = true := decide_eq_true c12
          clear c12
          by_cases c13 : (rd t161 x37_2) ≥ 30720
          ·rw [if_pos c13] at H
           have c13b0 : decide (30720 ≤ (rd t161 x37_2)) = true := decide_eq_true c13
           clear c13
           by_cases c14 : (wrap64 ((wrap64 (10 * (rd t161 x37_2))) * x7_1)) ≥ x6_1
           ·rw [if_pos c14] at H
            have c14b0 : decide (x6_1 ≤ (wrap64 ((wrap64 (10 * (rd t161 x37_2))) * x7_1))) = true := decide_eq_true c14
            clear c14
            by_cases c15 : x10_2.length < 17592186044416
            ·rw [if_pos c15] at H
             have LMc15 := Aside0.mk c15
             clear c15
             obtain ⟨y167, hy167⟩ : ∃ y_ : List Int, y_ = (x10_2 ++ [x37_2]) := ⟨_, rfl⟩
             replace H : (loudness_Gated.l1 k2 x6_1 x7_1 y167 t161 (t161.length : Int) (wrap64 (x37_2 + 1))) = some (r1, r2) := by first | (rw [hy167]; with_reducible exact H) | (have H2_ := (Option.bind_some _ _).symm.trans H; rw [hy167]; with_reducible exact H2_) | (have H2_ := (Option.bind_some _ _).symm.trans H; with_reducible exact H2_) | with_reducible exact H | (rw [hy167]; exact H) | exact H
             have Ny167 := Aside0.mk hy167
             clear hy167
             have H' := Aside0.mk H
             clear H
             have p166 : 0 ≤ (x37_2 : Int) := of_decide_eq_true (by first | (with_reducible assumption) | assumption)
             have q166 : x37_2 < (t161.length : Int) := of_decide_eq_true (by first | (with_reducible assumption) | assumption)
             obtain ⟨ad166, e166, hx166_0⟩ := Kd.at_int (Kd.R_reads' HO_35.out).2.2 x37_2 p166 q166
             cases e166
             replace p166 := eq_true p166
             replace q166 := eq_true q166
             go_wp2_with (first | ((with_reducible refine gate_builtin (b := .append) (xs := #[.tmp 52, .tmp 54]) rfl ?_); at_builtin; refine Kd.R_append (Kd.int .i64) (w0 := w) w.heap.size rfl (.tmp 52) (.tmp 54) 23 3 (.int .i64 0) 8 rfl Try.underlying23 info3 rfl (by decide) (by omega) u10 x10_2 x37_2 [.int .i64 x37_2] (fun _ => True) (fun _ => False) rfl rfl ?aP (fun _ hk => hk.elim) ?aF ?aO ?aB ?aS ?aL ?_; (case aP => exact rfl); (case aB => exact (by repeat (first | (with_reducible first | exact HB.out | apply below_alloc | apply pw_below_drewN | apply below_drew1) | exact HB.out))); (case aF => exact (fun _ _ => trivial)); (case aO => exact (by (with_reducible repeat (first | apply Kd.R_alloc | apply Kd.R_drewN | apply Kd.R_drew)); exact HO_10.out)); (case aS => exact (below_size (by repeat (first | (with_reducible first | exact HB.out | apply below_alloc | apply pw_below_drewN | apply below_drew1) | exact HB.out)))); (case aL => have := LMc15.out; omega); intro v168 w16 ho hb hg hat; rw [← Ny167.out] at ho; have n0_ := Aside0.mk (Kd.R_over' (by (with_reducible repeat (first | apply Kd.R_alloc | apply Kd.R_drewN | apply Kd.R_drew)); exact HO_35.out) (Kd.R_typed (by (with_reducible repeat (first | apply Kd.R_alloc | apply Kd.R_drewN | apply Kd.R_drew)); exact HO_10.out)) (by decide) hg); have n1_ := Aside0.mk (hb); have n2_ := Aside0.mk (ho); clear HO_35; clear HB; clear HO_10; have HO_35 := n0_; have HB := n1_; have HO169 := n2_; clear n0_ n1_ n2_; clear ho hb hg hat))
             go_roundg k2
             case measure => have := HK1.out; have := HK2.out; omega
             case rel => exact ⟨(y167), (wrap64 (x37_2 + 1)), (by first | rfl | (simp; done) | (simp [*]; done)), H', ⟨by have := HK1.out; have := HK2.out; omega⟩, ⟨by (with_reducible repeat (first | apply Kd.R_alloc | apply Kd.R_drewN | apply Kd.R_drew)); exact HO169.out⟩, ⟨by (with_reducible repeat (first | apply Kd.R_alloc | apply Kd.R_drewN | apply Kd.R_drew)); exact HO_35.out⟩, ⟨by repeat (first | (with_reducible first | exact HB.out | apply below_alloc | apply pw_below_drewN | apply below_drew1) | exact HB.out)⟩⟩
            ·rw [if_neg c15] at H
             exact absurd H (by simp)
           ·rw [if_neg c14] at H
            have c14b0 : decide (x6_1 ≤ (wrap64 ((wrap64 (10 * (rd t161 x37_2))) * x7_1))) = false := decide_eq_false c14
            clear c14
            have H' := Aside0.mk H
            clear H
            have p166 : 0 ≤ (x37_2 : Int) := of_decide_eq_true (by first | (with_reducible assumption) | assumption)
            have q166 : x37_2 < (t161.length : Int) := of_decide_eq_true (by first | (with_reducible assumption) | assumption)
            obtain ⟨ad166, e166, hx166_0⟩ := Kd.at_int (Kd.R_reads' HO_35.out).2.2 x37_2 p166 q166
            cases e166
            replace p166 := eq_true p166
            replace q166 := eq_true q166
            go_wp2
            go_roundg k2
            case measure => have := HK1.out; have := HK2.out; omega
            case rel => exact ⟨(x10_2), (wrap64 (x37_2 + 1)), (by first | rfl | (simp; done) | (simp [*]; done)), H', ⟨by have := HK1.out; have := HK2.out; omega⟩, ⟨by (with_reducible repeat (first | apply Kd.R_alloc | apply Kd.R_drewN | apply Kd.R_drew)); exact HO_10.out⟩, ⟨by (with_reducible repeat (first | apply Kd.R_alloc | apply Kd.R_drewN | apply Kd.R_drew)); exact HO_35.out⟩, ⟨by repeat (first | (with_reducible first | exact HB.out | apply below_alloc | apply pw_below_drewN | apply below_drew1) | exact HB.out)⟩⟩
          ·rw [if_neg c13] at H
           have c13b0 : decide (30720 ≤ (rd t161 x37_2)) = false := decide_eq_false c13
           clear c13
           have H' := Aside0.mk H
           clear H
           have p166 : 0 ≤ (x37_2 : Int) := of_decide_eq_true (by first | (with_reducible assumption) | assumption)
           have q166 : x37_2 < (t161.length : Int) := of_decide_eq_true (by first | (with_reducible assumption) | assumption)
           obtain ⟨ad166, e166, hx166_0⟩ := Kd.at_int (Kd.R_reads' HO_35.out).2.2 x37_2 p166 q166
           cases e166
           replace p166 := eq_true p166
           replace q166 := eq_true q166
           go_wp2
           go_roundg k2
           case measure => have := HK1.out; have := HK2.out; omega
           case rel => exact ⟨(x10_2), (wrap64 (x37_2 + 1)), (by first | rfl | (simp; done) | (simp [*]; done)), H', ⟨by have := HK1.out; have := HK2.out; omega⟩, ⟨by (with_reducible repeat (first | apply Kd.R_alloc | apply Kd.R_drewN | apply Kd.R_drew)); exact HO_10.out⟩, ⟨by (with_reducible repeat (first | apply Kd.R_alloc | apply Kd.R_drewN | apply Kd.R_drew)); exact HO_35.out⟩, ⟨by repeat (first | (with_reducible first | exact HB.out | apply below_alloc | apply pw_below_drewN | apply below_drew1) | exact HB.out)⟩⟩
         ·rw [if_neg c12] at H
          exact absurd H (by simp)
        ·rw [if_neg c11] at H
         exact absurd H (by simp)
       ·rw [if_neg c10] at H
        have c10b0 : decide (x37_2 < (t161.length : Int)) = false := decide_eq_false c10
        clear c10
        simp only [Option.some.injEq, Prod.mk.injEq] at H
        obtain ⟨rfl, rfl⟩ := H
        go_wp2
        go_ret2
        exact ⟨_, by first | rfl | (simp [errW_none, errW_some] <;> rfl) | (simp [*, errW_none, errW_some] <;> rfl), by (with_reducible repeat (first | apply Kd.R_alloc | apply Kd.R_drewN | apply Kd.R_drew)); exact HO_10.out, by repeat (first | (with_reducible first | exact HB.out | apply below_alloc | apply pw_below_drewN | apply below_drew1) | exact HB.out)⟩
 ·rw [if_neg c3] at H
  have c3b0 : (t162 == 0) = false := beq_eq_false_iff_ne.mpr c3
  have c3b1 : (t162 != 0) = true := bne_iff_ne.mpr c3
  simp only [Option.some.injEq, Prod.mk.injEq] at H
  obtain ⟨rfl, rfl⟩ := H
  go_enter Try.func20, Try.ntmps20
  go_wp2_with (first | ((with_reducible refine gate_callee (f := 14) rfl ?_); refine goesL_ (some 15) rfl rfl Try.func14 (by kernel_rfl) rfl #[.slice A0 l0.length c0] rfl (by (try simp only [List.map_toArray, List.map_cons, List.map_nil]); first | done | rfl | (simp only [List.length_drop, List.length_take]; rfl)) ?_; (with_reducible refine (loudness_Powers.calls k _ _ l0 t161 t162 _ ?side1 ?side2 A2.out).mono ?_); (case side1 => repeat (first | exact HR0.out | (with_reducible refine Kd.C_alloc ?_ _) | (with_reducible refine Kd.C_drewN ?_ _) | (with_reducible refine Kd.C_drew ?_))); (case side2 => exact HC0.out); rintro e w17 ⟨v163, rfl, ho0, hb⟩; refine ⟨_, rfl, ?_⟩; have n0_ := Aside0.mk (Kd.R_lower ho0 (below_size (by repeat (first | (with_reducible first | exact HB.out | apply below_alloc | apply pw_below_drewN | apply below_drew1) | exact HB.out)))); have n1_ := Aside0.mk (below_step (by repeat (first | (with_reducible first | exact HB.out | apply below_alloc | apply pw_below_drewN | apply below_drew1) | exact HB.out)) hb); clear HB; have HO164 := n0_; have HB := n1_; clear n0_ n1_; (try clear hb); (try clear hb2); (try clear hk); (try clear hi); (try clear ho0)))
  go_ret2
  exact ⟨_, by first | rfl | (simp [errW_none, errW_some] <;> rfl) | (simp [*, errW_none, errW_some] <;> rfl), by first | exact Kd.R_nil _ _ _ _ _ | exact Kd.N_nil _ _ _ _ _ | exact Kd.V_nil _ _ _ _ _ | exact Kd.Q_nil _ _ _ _ _ | exact Kd.S_nil _ _ _ _ _, by repeat (first | (with_reducible first | exact HB.out | apply below_alloc | apply pw_below_drewN | apply below_drew1) | exact HB.out)⟩

end Go.Proofs.Ytjcjbbcamkkeiaa.P
