-- Written by this session's own program (wip/tools/myprint.py), which runs the kit's print with turns of its own: not a text of the kit's print.sh.
import Derived.Test.YtcofjbbflcnaaaaPx0
namespace Go.Proofs.Ytcofjbbflcnaaaa.P
open Go.RowKit Go.Proofs.YtcofjbbflcnaaaaW.PrintWords Go.Proofs.YtcofjbbflcnaaaaW.PrintLast Go.Proofs.YtcofjbbflcnaaaaW.PrintMore
open List renaming setIfInBounds_toArray → sA, set_cons_zero → sZ, set_cons_succ → sS
open Bool renaming true → T', false → F'
open Go.Proofs.YtcofjbbflcnaaaaW.PrintWords renaming below_alloc → zA, pw_below_drewN → zN, below_drew1 → zD, blk_drewN → yN, blk_drew → yD, blk_alloc → yA, below_size → zS, below_step → zT, blk_below → yB, below_set → zP, cell_far → xF, add_block → xB, gate_callee → xC, gate_dst → xD
attribute [local go_sem] max2_int min2_int max_two min_two max_three min_three max_four min_four   -- for this text's walks alone
set_option linter.unusedVariables false
set_option linter.unusedSimpArgs false

/-! ### cadence_side: function 77 -/
def cadence_side.f (a0 : Int) (a1 : Int) : Option (Bool) := if a0 ≥ 16 then (if a0 ≤ a1 then (some ((Int.tmod a0 16) == 0)) else (some false)) else (some false)
set_option maxHeartbeats 8000000 in
set_option maxRecDepth 100000 in
theorem cadence_side.calls (a0 : Int) (a1 : Int) (r : Bool) (w : World) (h : cadence_side.f a0 a1 = some r) :
    Calls Try.prog 77 #[.int .i64 a0, .int .i64 a1] w fun e w' => e = .returned (.bool r) ∧ Drawn0 w w' := by
  have H : (if a0 ≥ 16 then (if a0 ≤ a1 then (some ((Int.tmod a0 16) == 0)) else (some false)) else (some false)) = some r := h
  clear h
  by_cases c3 : a0 ≥ 16
  · rw [if_pos c3] at H
    have c3b0 : decide (16 ≤ a0) = true := decide_eq_true c3
    clear c3
    by_cases c4 : a0 ≤ a1
    · rw [if_pos c4] at H
      have c4b0 : decide (a0 ≤ a1) = true := decide_eq_true c4
      clear c4
      obtain rfl := Option.some.inj H
      go_enter Try.func77, Try.ntmps77
      go_wp2
      go_ret
      exact ⟨by first | rfl | (simp; done) | (simp [*]; done), by repeat (first | exact Drawn0.refl _ | apply Drawn0.step)⟩
    · rw [if_neg c4] at H
      have c4b0 : decide (a0 ≤ a1) = false := decide_eq_false c4
      clear c4
      obtain rfl := Option.some.inj H
      go_enter Try.func77, Try.ntmps77
      go_wp2
      go_ret
      exact ⟨by first | rfl | (simp; done) | (simp [*]; done), by repeat (first | exact Drawn0.refl _ | apply Drawn0.step)⟩
  · rw [if_neg c3] at H
    have c3b0 : decide (16 ≤ a0) = false := decide_eq_false c3
    clear c3
    obtain rfl := Option.some.inj H
    go_enter Try.func77, Try.ntmps77
    go_wp2
    go_ret
    exact ⟨by first | rfl | (simp; done) | (simp [*]; done), by repeat (first | exact Drawn0.refl _ | apply Drawn0.step)⟩

/-! ### cadence_valid: function 71 -/
def cadence_valid.f (a0_0 : Int) (a0_1 : Int) (l0_2 : List Int) (l0_3 : List Int) (l0_4 : List Int) : Option (Bool) := (cadence_side.f a0_0 64).bind fun t222 => (if t222 = true then ((cadence_side.f a0_1 64).bind fun t223 => (if t223 = true then (if (l0_2.length : Int) = (wrap64 (a0_0 * a0_1)) then (if (l0_3.length : Int) = (wrap64 ((wrap64 (Int.tdiv a0_0 2)) * (wrap64 (Int.tdiv a0_1 2)))) then (some ((l0_4.length : Int) == (wrap64 ((wrap64 (Int.tdiv a0_0 2)) * (wrap64 (Int.tdiv a0_1 2)))))) else (some false)) else (some false)) else (some false))) else (some false))
set_option maxHeartbeats 8000000 in
set_option maxRecDepth 100000 in
theorem cadence_valid.calls (a0_0 : Int) (a0_1 : Int) (A0_2 : Option Addr) (c0_2 : Nat) (l0_2 : List Int) (A0_3 : Option Addr) (c0_3 : Nat) (l0_3 : List Int) (A0_4 : Option Addr) (c0_4 : Nat) (l0_4 : List Int) (r : Bool) (w : World) (hr0_2 : Kd.C (Kd.int .u8) w A0_2 l0_2.length l0_2) (hc0_2 : l0_2.length ≤ c0_2) (hr0_3 : Kd.C (Kd.int .u8) w A0_3 l0_3.length l0_3) (hc0_3 : l0_3.length ≤ c0_3) (hr0_4 : Kd.C (Kd.int .u8) w A0_4 l0_4.length l0_4) (hc0_4 : l0_4.length ≤ c0_4) (h : cadence_valid.f a0_0 a0_1 l0_2 l0_3 l0_4 = some r) :
  Calls Try.prog 71 #[.agg #[.int .i64 a0_0, .int .i64 a0_1, .slice A0_2 l0_2.length c0_2, .slice A0_3 l0_3.length c0_3, .slice A0_4 l0_4.length c0_4]] w fun e w' => e = .returned (.bool r) ∧ Below w.heap.size w w' := by
 have hu52 := Try.underlying52
 have HR0_2 := Aside0.mk hr0_2
 have HC0_2 := Aside0.mk hc0_2
 clear hr0_2 hc0_2
 have HR0_3 := Aside0.mk hr0_3
 have HC0_3 := Aside0.mk hc0_3
 clear hr0_3 hc0_3
 have HR0_4 := Aside0.mk hr0_4
 have HC0_4 := Aside0.mk hc0_4
 clear hr0_4 hc0_4
 have HB := Aside0.mk (Below.refl w.heap.size w)
 have H : ((cadence_side.f a0_0 64).bind fun t222 => (if t222 = true then ((cadence_side.f a0_1 64).bind fun t223 => (if t223 = true then (if (l0_2.length : Int) = (wrap64 (a0_0 * a0_1)) then (if (l0_3.length : Int) = (wrap64 ((wrap64 (Int.tdiv a0_0 2)) * (wrap64 (Int.tdiv a0_1 2)))) then (some ((l0_4.length : Int) == (wrap64 ((wrap64 (Int.tdiv a0_0 2)) * (wrap64 (Int.tdiv a0_1 2)))))) else (some false)) else (some false)) else (some false))) else (some false))) = some r := h
 clear h
 replace H := Option.bind_eq_some_iff.mp H
 obtain ⟨t222, A20, H⟩ := H
 replace H : (if t222 = true then ((cadence_side.f a0_1 64).bind fun t223 => (if t223 = true then (if (l0_2.length : Int) = (wrap64 (a0_0 * a0_1)) then (if (l0_3.length : Int) = (wrap64 ((wrap64 (Int.tdiv a0_0 2)) * (wrap64 (Int.tdiv a0_1 2)))) then (some ((l0_4.length : Int) == (wrap64 ((wrap64 (Int.tdiv a0_0 2)) * (wrap64 (Int.tdiv a0_1 2)))))) else (some false)) else (some false)) else (some false))) else (some false)) = some r := H
 have A2 := Aside0.mk A20
 clear A20
 by_cases c3 : t222 = true
 ·subst c3
  have H1 : ((cadence_side.f a0_1 64).bind fun t223 => (if t223 = true then (if (l0_2.length : Int) = (wrap64 (a0_0 * a0_1)) then (if (l0_3.length : Int) = (wrap64 ((wrap64 (Int.tdiv a0_0 2)) * (wrap64 (Int.tdiv a0_1 2)))) then (some ((l0_4.length : Int) == (wrap64 ((wrap64 (Int.tdiv a0_0 2)) * (wrap64 (Int.tdiv a0_1 2)))))) else (some false)) else (some false)) else (some false))) = some r := by rw [if_pos rfl] at H; exact H
  clear H
  have H := H1
  clear H1
  replace H := Option.bind_eq_some_iff.mp H
  obtain ⟨t223, A40, H⟩ := H
  replace H : (if t223 = true then (if (l0_2.length : Int) = (wrap64 (a0_0 * a0_1)) then (if (l0_3.length : Int) = (wrap64 ((wrap64 (Int.tdiv a0_0 2)) * (wrap64 (Int.tdiv a0_1 2)))) then (some ((l0_4.length : Int) == (wrap64 ((wrap64 (Int.tdiv a0_0 2)) * (wrap64 (Int.tdiv a0_1 2)))))) else (some false)) else (some false)) else (some false)) = some r := H
  have A4 := Aside0.mk A40
  clear A40
  by_cases c5 : t223 = true
  ·subst c5
   have H1 : (if (l0_2.length : Int) = (wrap64 (a0_0 * a0_1)) then (if (l0_3.length : Int) = (wrap64 ((wrap64 (Int.tdiv a0_0 2)) * (wrap64 (Int.tdiv a0_1 2)))) then (some ((l0_4.length : Int) == (wrap64 ((wrap64 (Int.tdiv a0_0 2)) * (wrap64 (Int.tdiv a0_1 2)))))) else (some false)) else (some false)) = some r := by rw [if_pos rfl] at H; exact H
   clear H
   have H := H1
   clear H1
   by_cases c6 : (l0_2.length : Int) = (wrap64 (a0_0 * a0_1))
   ·rw [if_pos c6] at H
    have c6b0 : ((l0_2.length : Int) == (wrap64 (a0_0 * a0_1))) = true := beq_iff_eq.mpr c6
    have c6b1 : ((l0_2.length : Int) != (wrap64 (a0_0 * a0_1))) = false := bne_eq_false_iff_eq.mpr c6
    clear c6
    by_cases c7 : (l0_3.length : Int) = (wrap64 ((wrap64 (Int.tdiv a0_0 2)) * (wrap64 (Int.tdiv a0_1 2))))
    ·rw [if_pos c7] at H
     have c7b0 : ((l0_3.length : Int) == (wrap64 ((wrap64 (Int.tdiv a0_0 2)) * (wrap64 (Int.tdiv a0_1 2))))) = true := beq_iff_eq.mpr c7
     have c7b1 : ((l0_3.length : Int) != (wrap64 ((wrap64 (Int.tdiv a0_0 2)) * (wrap64 (Int.tdiv a0_1 2))))) = false := bne_eq_false_iff_eq.mpr c7
     clear c7
     obtain rfl := Option.some.inj H
     go_enter Try.func71, Try.ntmps71
     go_wp2_with (first | ((with_reducible refine xD (N := 1) rfl ?_); (try (refine gate_guard (by rfl) ?_; dsimp only)); refine box_event ?hg (N := 1) ?hd (cs := #[.int .i64 a0_0, .int .i64 a0_1, .slice A0_2 l0_2.length c0_2, .slice A0_3 l0_3.length c0_3, .slice A0_4 l0_4.length c0_4]) (t := 52) ?hr ?_; (case hd => rfl); (case hg => rfl); (case hr => first | (go_simp; done) | (go_simp; rfl)); intro gb221 hg w8 hbox hb; have n0_ := Aside0.mk (zT (by repeat (first | (with_reducible first | exact HB.out | apply zA | apply zN | apply zD) | exact HB.out)) hb); have n1_ := Aside0.mk (hbox); have n2_ := Aside0.mk ((by rw [hg]; exact (zS (by repeat (first | (with_reducible first | exact HB.out | apply zA | apply zN | apply zD) | exact HB.out))) : w.heap.size ≤ gb221)); have n3_ := n2_; clear HB; have HB := n0_; have BK221 := n1_; have GW221 := n2_; have GE221 := n3_; clear n0_ n1_ n2_ n3_; clear hb hbox hg; have hcz9_0 : w8.cell? ⟨gb221, 0, none⟩ = some (.int .i64 a0_0) := (blk_cell BK221.out 0).trans rfl; have hcz9_1 : w8.cell? ⟨gb221, 1, none⟩ = some (.int .i64 a0_1) := (blk_cell BK221.out 1).trans rfl; have hcz9_2 : w8.cell? ⟨gb221, 2, none⟩ = some (.slice A0_2 l0_2.length c0_2) := (blk_cell BK221.out 2).trans rfl; have hcz9_3 : w8.cell? ⟨gb221, 3, none⟩ = some (.slice A0_3 l0_3.length c0_3) := (blk_cell BK221.out 3).trans rfl; have hcz9_4 : w8.cell? ⟨gb221, 4, none⟩ = some (.slice A0_4 l0_4.length c0_4) := (blk_cell BK221.out 4).trans rfl; have hfz9_0 := blk_frozen BK221.out 0; have hfz9_1 := blk_frozen BK221.out 1; have hfz9_2 := blk_frozen BK221.out 2; have hfz9_3 := blk_frozen BK221.out 3; have hfz9_4 := blk_frozen BK221.out 4) | ((with_reducible refine xC (f := 77) rfl ?_); refine goesL_ (some 13) rfl rfl Try.func77 (by kernel_rfl) rfl #[.int .i64 a0_0, .int .i64 64] rfl (by (try simp only [List.map_toArray, List.map_cons, List.map_nil]); first | done | rfl | (simp only [List.length_drop, List.length_take]; rfl)) ?_; (with_reducible refine (cadence_side.calls a0_0 64 true _ A2.out).mono ?_); rintro e w' ⟨rfl, ⟨nd, rfl⟩⟩; refine ⟨_, rfl, ?_⟩) | (go_at_call 77; (with_reducible refine (cadence_side.calls a0_1 64 true _ A4.out).mono ?_); rintro e w' ⟨rfl, ⟨nd, rfl⟩⟩))
     go_ret
     exact ⟨by first | rfl | (simp [errW_none, errW_some] <;> rfl) | (simp [*, errW_none, errW_some] <;> rfl), by repeat (first | (with_reducible first | exact HB.out | apply zA | apply zN | apply zD | refine zP ?_ GE221.out) | exact HB.out)⟩
    ·rw [if_neg c7] at H
     have c7b0 : ((l0_3.length : Int) == (wrap64 ((wrap64 (Int.tdiv a0_0 2)) * (wrap64 (Int.tdiv a0_1 2))))) = false := beq_eq_false_iff_ne.mpr c7
     have c7b1 : ((l0_3.length : Int) != (wrap64 ((wrap64 (Int.tdiv a0_0 2)) * (wrap64 (Int.tdiv a0_1 2))))) = true := bne_iff_ne.mpr c7
     obtain rfl := Option.some.inj H
     go_enter Try.func71, Try.ntmps71
     go_wp2_with (first | ((with_reducible refine xD (N := 1) rfl ?_); (try (refine gate_guard (by rfl) ?_; dsimp only)); refine box_event ?hg (N := 1) ?hd (cs := #[.int .i64 a0_0, .int .i64 a0_1, .slice A0_2 l0_2.length c0_2, .slice A0_3 l0_3.length c0_3, .slice A0_4 l0_4.length c0_4]) (t := 52) ?hr ?_; (case hd => rfl); (case hg => rfl); (case hr => first | (go_simp; done) | (go_simp; rfl)); intro gb221 hg w10 hbox hb; have n0_ := Aside0.mk (zT (by repeat (first | (with_reducible first | exact HB.out | apply zA | apply zN | apply zD) | exact HB.out)) hb); have n1_ := Aside0.mk (hbox); have n2_ := Aside0.mk ((by rw [hg]; exact (zS (by repeat (first | (with_reducible first | exact HB.out | apply zA | apply zN | apply zD) | exact HB.out))) : w.heap.size ≤ gb221)); have n3_ := n2_; clear HB; have HB := n0_; have BK221 := n1_; have GW221 := n2_; have GE221 := n3_; clear n0_ n1_ n2_ n3_; clear hb hbox hg; have hcz11_0 : w10.cell? ⟨gb221, 0, none⟩ = some (.int .i64 a0_0) := (blk_cell BK221.out 0).trans rfl; have hcz11_1 : w10.cell? ⟨gb221, 1, none⟩ = some (.int .i64 a0_1) := (blk_cell BK221.out 1).trans rfl; have hcz11_2 : w10.cell? ⟨gb221, 2, none⟩ = some (.slice A0_2 l0_2.length c0_2) := (blk_cell BK221.out 2).trans rfl; have hcz11_3 : w10.cell? ⟨gb221, 3, none⟩ = some (.slice A0_3 l0_3.length c0_3) := (blk_cell BK221.out 3).trans rfl; have hcz11_4 : w10.cell? ⟨gb221, 4, none⟩ = some (.slice A0_4 l0_4.length c0_4) := (blk_cell BK221.out 4).trans rfl; have hfz11_0 := blk_frozen BK221.out 0; have hfz11_1 := blk_frozen BK221.out 1; have hfz11_2 := blk_frozen BK221.out 2; have hfz11_3 := blk_frozen BK221.out 3; have hfz11_4 := blk_frozen BK221.out 4) | ((with_reducible refine xC (f := 77) rfl ?_); refine goesL_ (some 13) rfl rfl Try.func77 (by kernel_rfl) rfl #[.int .i64 a0_0, .int .i64 64] rfl (by (try simp only [List.map_toArray, List.map_cons, List.map_nil]); first | done | rfl | (simp only [List.length_drop, List.length_take]; rfl)) ?_; (with_reducible refine (cadence_side.calls a0_0 64 true _ A2.out).mono ?_); rintro e w' ⟨rfl, ⟨nd, rfl⟩⟩; refine ⟨_, rfl, ?_⟩) | (go_at_call 77; (with_reducible refine (cadence_side.calls a0_1 64 true _ A4.out).mono ?_); rintro e w' ⟨rfl, ⟨nd, rfl⟩⟩))
     go_ret
     exact ⟨by first | rfl | (simp [errW_none, errW_some] <;> rfl) | (simp [*, errW_none, errW_some] <;> rfl), by repeat (first | (with_reducible first | exact HB.out | apply zA | apply zN | apply zD | refine zP ?_ GE221.out) | exact HB.out)⟩
   ·rw [if_neg c6] at H
    have c6b0 : ((l0_2.length : Int) == (wrap64 (a0_0 * a0_1))) = false := beq_eq_false_iff_ne.mpr c6
    have c6b1 : ((l0_2.length : Int) != (wrap64 (a0_0 * a0_1))) = true := bne_iff_ne.mpr c6
    obtain rfl := Option.some.inj H
    go_enter Try.func71, Try.ntmps71
    go_wp2_with (first | ((with_reducible refine xD (N := 1) rfl ?_); (try (refine gate_guard (by rfl) ?_; dsimp only)); refine box_event ?hg (N := 1) ?hd (cs := #[.int .i64 a0_0, .int .i64 a0_1, .slice A0_2 l0_2.length c0_2, .slice A0_3 l0_3.length c0_3, .slice A0_4 l0_4.length c0_4]) (t := 52) ?hr ?_; (case hd => rfl); (case hg => rfl); (case hr => first | (go_simp; done) | (go_simp; rfl)); intro gb221 hg w12 hbox hb; have n0_ := Aside0.mk (zT (by repeat (first | (with_reducible first | exact HB.out | apply zA | apply zN | apply zD) | exact HB.out)) hb); have n1_ := Aside0.mk (hbox); have n2_ := Aside0.mk ((by rw [hg]; exact (zS (by repeat (first | (with_reducible first | exact HB.out | apply zA | apply zN | apply zD) | exact HB.out))) : w.heap.size ≤ gb221)); have n3_ := n2_; clear HB; have HB := n0_; have BK221 := n1_; have GW221 := n2_; have GE221 := n3_; clear n0_ n1_ n2_ n3_; clear hb hbox hg; have hcz13_0 : w12.cell? ⟨gb221, 0, none⟩ = some (.int .i64 a0_0) := (blk_cell BK221.out 0).trans rfl; have hcz13_1 : w12.cell? ⟨gb221, 1, none⟩ = some (.int .i64 a0_1) := (blk_cell BK221.out 1).trans rfl; have hcz13_2 : w12.cell? ⟨gb221, 2, none⟩ = some (.slice A0_2 l0_2.length c0_2) := (blk_cell BK221.out 2).trans rfl; have hcz13_3 : w12.cell? ⟨gb221, 3, none⟩ = some (.slice A0_3 l0_3.length c0_3) := (blk_cell BK221.out 3).trans rfl; have hcz13_4 : w12.cell? ⟨gb221, 4, none⟩ = some (.slice A0_4 l0_4.length c0_4) := (blk_cell BK221.out 4).trans rfl; have hfz13_0 := blk_frozen BK221.out 0; have hfz13_1 := blk_frozen BK221.out 1; have hfz13_2 := blk_frozen BK221.out 2; have hfz13_3 := blk_frozen BK221.out 3; have hfz13_4 := blk_frozen BK221.out 4) | ((with_reducible refine xC (f := 77) rfl ?_); refine goesL_ (some 13) rfl rfl Try.func77 (by kernel_rfl) rfl #[.int .i64 a0_0, .int .i64 64] rfl (by (try simp only [List.map_toArray, List.map_cons, List.map_nil]); first | done | rfl | (simp only [List.length_drop, List.length_take]; rfl)) ?_; (with_reducible refine (cadence_side.calls a0_0 64 true _ A2.out).mono ?_); rintro e w' ⟨rfl, ⟨nd, rfl⟩⟩; refine ⟨_, rfl, ?_⟩) | (go_at_call 77; (with_reducible refine (cadence_side.calls a0_1 64 true _ A4.out).mono ?_); rintro e w' ⟨rfl, ⟨nd, rfl⟩⟩))
    go_ret
    exact ⟨by first | rfl | (simp [errW_none, errW_some] <;> rfl) | (simp [*, errW_none, errW_some] <;> rfl), by repeat (first | (with_reducible first | exact HB.out | apply zA | apply zN | apply zD | refine zP ?_ GE221.out) | exact HB.out)⟩
  ·replace c5 := Bool.eq_false_iff.mpr c5
   subst c5
   have H1 : (some false) = some r := by rw [if_neg (show ¬ (false = true) by decide)] at H; exact H
   clear H
   have H := H1
   clear H1
   obtain rfl := Option.some.inj H
   go_enter Try.func71, Try.ntmps71
   go_wp2_with (first | ((with_reducible refine xD (N := 1) rfl ?_); (try (refine gate_guard (by rfl) ?_; dsimp only)); refine box_event ?hg (N := 1) ?hd (cs := #[.int .i64 a0_0, .int .i64 a0_1, .slice A0_2 l0_2.length c0_2, .slice A0_3 l0_3.length c0_3, .slice A0_4 l0_4.length c0_4]) (t := 52) ?hr ?_; (case hd => rfl); (case hg => rfl); (case hr => first | (go_simp; done) | (go_simp; rfl)); intro gb221 hg w14 hbox hb; have n0_ := Aside0.mk (zT (by repeat (first | (with_reducible first | exact HB.out | apply zA | apply zN | apply zD) | exact HB.out)) hb); have n1_ := Aside0.mk (hbox); have n2_ := Aside0.mk ((by rw [hg]; exact (zS (by repeat (first | (with_reducible first | exact HB.out | apply zA | apply zN | apply zD) | exact HB.out))) : w.heap.size ≤ gb221)); have n3_ := n2_; clear HB; have HB := n0_; have BK221 := n1_; have GW221 := n2_; have GE221 := n3_; clear n0_ n1_ n2_ n3_; clear hb hbox hg; have hcz15_0 : w14.cell? ⟨gb221, 0, none⟩ = some (.int .i64 a0_0) := (blk_cell BK221.out 0).trans rfl; have hcz15_1 : w14.cell? ⟨gb221, 1, none⟩ = some (.int .i64 a0_1) := (blk_cell BK221.out 1).trans rfl; have hcz15_2 : w14.cell? ⟨gb221, 2, none⟩ = some (.slice A0_2 l0_2.length c0_2) := (blk_cell BK221.out 2).trans rfl; have hcz15_3 : w14.cell? ⟨gb221, 3, none⟩ = some (.slice A0_3 l0_3.length c0_3) := (blk_cell BK221.out 3).trans rfl; have hcz15_4 : w14.cell? ⟨gb221, 4, none⟩ = some (.slice A0_4 l0_4.length c0_4) := (blk_cell BK221.out 4).trans rfl; have hfz15_0 := blk_frozen BK221.out 0; have hfz15_1 := blk_frozen BK221.out 1; have hfz15_2 := blk_frozen BK221.out 2; have hfz15_3 := blk_frozen BK221.out 3; have hfz15_4 := blk_frozen BK221.out 4) | ((with_reducible refine xC (f := 77) rfl ?_); refine goesL_ (some 13) rfl rfl Try.func77 (by kernel_rfl) rfl #[.int .i64 a0_0, .int .i64 64] rfl (by (try simp only [List.map_toArray, List.map_cons, List.map_nil]); first | done | rfl | (simp only [List.length_drop, List.length_take]; rfl)) ?_; (with_reducible refine (cadence_side.calls a0_0 64 true _ A2.out).mono ?_); rintro e w' ⟨rfl, ⟨nd, rfl⟩⟩; refine ⟨_, rfl, ?_⟩) | (go_at_call 77; (with_reducible refine (cadence_side.calls a0_1 64 false _ A4.out).mono ?_); rintro e w' ⟨rfl, ⟨nd, rfl⟩⟩))
   go_ret
   exact ⟨by first | rfl | (simp [errW_none, errW_some] <;> rfl) | (simp [*, errW_none, errW_some] <;> rfl), by repeat (first | (with_reducible first | exact HB.out | apply zA | apply zN | apply zD | refine zP ?_ GE221.out) | exact HB.out)⟩
 ·replace c3 := Bool.eq_false_iff.mpr c3
  subst c3
  have H1 : (some false) = some r := by rw [if_neg (show ¬ (false = true) by decide)] at H; exact H
  clear H
  have H := H1
  clear H1
  obtain rfl := Option.some.inj H
  go_enter Try.func71, Try.ntmps71
  go_wp2_with (first | ((with_reducible refine xD (N := 1) rfl ?_); (try (refine gate_guard (by rfl) ?_; dsimp only)); refine box_event ?hg (N := 1) ?hd (cs := #[.int .i64 a0_0, .int .i64 a0_1, .slice A0_2 l0_2.length c0_2, .slice A0_3 l0_3.length c0_3, .slice A0_4 l0_4.length c0_4]) (t := 52) ?hr ?_; (case hd => rfl); (case hg => rfl); (case hr => first | (go_simp; done) | (go_simp; rfl)); intro gb221 hg w16 hbox hb; have n0_ := Aside0.mk (zT (by repeat (first | (with_reducible first | exact HB.out | apply zA | apply zN | apply zD) | exact HB.out)) hb); have n1_ := Aside0.mk (hbox); have n2_ := Aside0.mk ((by rw [hg]; exact (zS (by repeat (first | (with_reducible first | exact HB.out | apply zA | apply zN | apply zD) | exact HB.out))) : w.heap.size ≤ gb221)); have n3_ := n2_; clear HB; have HB := n0_; have BK221 := n1_; have GW221 := n2_; have GE221 := n3_; clear n0_ n1_ n2_ n3_; clear hb hbox hg; have hcz17_0 : w16.cell? ⟨gb221, 0, none⟩ = some (.int .i64 a0_0) := (blk_cell BK221.out 0).trans rfl; have hcz17_1 : w16.cell? ⟨gb221, 1, none⟩ = some (.int .i64 a0_1) := (blk_cell BK221.out 1).trans rfl; have hcz17_2 : w16.cell? ⟨gb221, 2, none⟩ = some (.slice A0_2 l0_2.length c0_2) := (blk_cell BK221.out 2).trans rfl; have hcz17_3 : w16.cell? ⟨gb221, 3, none⟩ = some (.slice A0_3 l0_3.length c0_3) := (blk_cell BK221.out 3).trans rfl; have hcz17_4 : w16.cell? ⟨gb221, 4, none⟩ = some (.slice A0_4 l0_4.length c0_4) := (blk_cell BK221.out 4).trans rfl; have hfz17_0 := blk_frozen BK221.out 0; have hfz17_1 := blk_frozen BK221.out 1; have hfz17_2 := blk_frozen BK221.out 2; have hfz17_3 := blk_frozen BK221.out 3; have hfz17_4 := blk_frozen BK221.out 4) | ((with_reducible refine xC (f := 77) rfl ?_); refine goesL_ (some 13) rfl rfl Try.func77 (by kernel_rfl) rfl #[.int .i64 a0_0, .int .i64 64] rfl (by (try simp only [List.map_toArray, List.map_cons, List.map_nil]); first | done | rfl | (simp only [List.length_drop, List.length_take]; rfl)) ?_; (with_reducible refine (cadence_side.calls a0_0 64 false _ A2.out).mono ?_); rintro e w' ⟨rfl, ⟨nd, rfl⟩⟩; refine ⟨_, rfl, ?_⟩))
  go_ret
  exact ⟨by first | rfl | (simp [errW_none, errW_some] <;> rfl) | (simp [*, errW_none, errW_some] <;> rfl), by repeat (first | (with_reducible first | exact HB.out | apply zA | apply zN | apply zD | refine zP ?_ GE221.out) | exact HB.out)⟩

end Go.Proofs.Ytcofjbbflcnaaaa.P
