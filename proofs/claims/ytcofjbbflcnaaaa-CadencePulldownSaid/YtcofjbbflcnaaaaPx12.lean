-- Written by this session's own program (wip/tools/myprint.py), which runs the kit's print with turns of its own: not a text of the kit's print.sh.
import Derived.Test.YtcofjbbflcnaaaaPx0
import Derived.Test.YtcofjbbflcnaaaaPx22
import Derived.Test.YtcofjbbflcnaaaaPx30
namespace Go.Proofs.Ytcofjbbflcnaaaa.P
open Go.RowKit Go.Proofs.YtcofjbbflcnaaaaW.PrintWords Go.Proofs.YtcofjbbflcnaaaaW.PrintLast Go.Proofs.YtcofjbbflcnaaaaW.PrintMore
attribute [local go_sem] max2_int min2_int max_two min_two max_three min_three max_four min_four   -- for this text's walks alone
set_option linter.unusedVariables false
set_option linter.unusedSimpArgs false

/-! ### cutroomlaw20_CadencePulldown: function 11 -/
def cutroomlaw20_CadencePulldown.j0 : Nat → Int → Bool → Option (Bool)
  | 0, _, _ => none
  | k + 1, x0, x12 => if x12 = true then ((cutroomlaw20_awake.f k).bind fun t271 => (some t271)) else ((cadence_Fields.f k x0 24000 1001 30000 1001).bind fun bt272 => ((cadence_Fields.f k x0 24 1 30 1).bind fun bt274 => (if bt272.2 = 0 then (if bt274.2 = 0 then (if bt272.1 = (wrap64 (2 + (Int.tmod x0 2))) then (if bt274.1 = bt272.1 then ((cutroomlaw20_awake.f k).bind fun t276 => (some t276)) else (some false)) else (some false)) else (some false)) else (some false))))
def cutroomlaw20_CadencePulldown.f (k : Nat) (a0 : Int) : Option (Bool) := if a0 < 0 then (cutroomlaw20_CadencePulldown.j0 k a0 true) else (cutroomlaw20_CadencePulldown.j0 k a0 (decide (a0 > 2147483646)))
theorem cutroomlaw20_CadencePulldown.mono_l : ∀ k, (∀ y0 y1, LeO (cutroomlaw20_CadencePulldown.j0 k y0 y1) (cutroomlaw20_CadencePulldown.j0 (k + 1) y0 y1))
  | 0 => fun _ _ r h => by simp [cutroomlaw20_CadencePulldown.j0] at h
  | k + 1 => by
    have ih0 := cutroomlaw20_CadencePulldown.mono_l k
    · intro y0 y1
      unfold cutroomlaw20_CadencePulldown.j0
      repeat' first
      | (with_reducible exact ih0 _ _)
      | (with_reducible exact cadence_Fields.mono _ _ _ _ _ _)
      | (with_reducible exact cutroomlaw20_awake.mono _)
      | (with_reducible exact LeO.refl _)
      | (with_reducible exact LeO.none _)
      | (with_reducible refine LeO.ite ?_ ?_)
      | (with_reducible refine LeO.bind ?_ (fun _ => ?_))
      | exact ih0 _ _
      | exact cadence_Fields.mono _ _ _ _ _ _
      | exact cutroomlaw20_awake.mono _
      | exact LeO.none _
      | refine LeO.ite ?_ ?_
      | refine LeO.bind ?_ (fun _ => ?_)
theorem cutroomlaw20_CadencePulldown.mono : ∀ a0 k, LeO (cutroomlaw20_CadencePulldown.f k a0) (cutroomlaw20_CadencePulldown.f (k + 1) a0) := by
  intro a0 k
  have ih0 := cutroomlaw20_CadencePulldown.mono_l k
  unfold cutroomlaw20_CadencePulldown.f
  repeat' first
      | (with_reducible exact ih0 _ _)
      | (with_reducible exact cadence_Fields.mono _ _ _ _ _ _)
      | (with_reducible exact cutroomlaw20_awake.mono _)
      | (with_reducible exact LeO.refl _)
      | (with_reducible exact LeO.none _)
      | (with_reducible refine LeO.ite ?_ ?_)
      | (with_reducible refine LeO.bind ?_ (fun _ => ?_))
      | exact ih0 _ _
      | exact cadence_Fields.mono _ _ _ _ _ _
      | exact cutroomlaw20_awake.mono _
      | exact LeO.none _
      | refine LeO.ite ?_ ?_
      | refine LeO.bind ?_ (fun _ => ?_)
set_option maxHeartbeats 8000000 in
set_option maxRecDepth 100000 in
theorem cutroomlaw20_CadencePulldown.calls (k : Nat) (a0 : Int) (r : Bool) (w : World) (h : cutroomlaw20_CadencePulldown.f k a0 = some r) :
    Calls Try.prog 11 #[.int .i64 a0] w fun e w' => e = .returned (.bool r) ∧ Below w.heap.size w w' := by
  have hu23 := Try.underlying23
  have HB := Aside0.mk (Below.refl w.heap.size w)
  have H : (if a0 < 0 then (cutroomlaw20_CadencePulldown.j0 k a0 true) else (cutroomlaw20_CadencePulldown.j0 k a0 (decide (a0 > 2147483646)))) = some r := h
  clear h
  have HC2 := Aside0.mk H
  clear H
  go_enter Try.func11, Try.ntmps11
  go_upto_region 1 with (fail)
  go_cut [12] (fun v12 wc => ∃ (kq : Nat) (x12_1 : Bool), v12 = .bool x12_1 ∧ Aside0 (cutroomlaw20_CadencePulldown.j0 kq a0 x12_1 = some r) ∧ Aside0 (kq ≤ k) ∧ Aside0 (Below w.heap.size w wc))
  case first =>
    have H := HC2.out
    clear HC2
    by_cases c3 : a0 < 0
    · rw [if_pos c3] at H
      have c3b0 : decide (a0 < 0) = true := decide_eq_true c3
      clear c3
      (first | rw [c3b0] | (simp only [i64_w, i32_w]; rw [c3b0]) | skip)
      have H' := Aside0.mk H
      clear H
      go_wp2
      go_meet
      case rel => exact ⟨_, (true), (by first | rfl | (simp; done) | (simp [*]; done)), H', ⟨by first | omega | exact Nat.le_refl _⟩, ⟨by repeat (first | (with_reducible first | exact HB.out | apply below_alloc | apply pw_below_drewN | apply below_drew1) | exact HB.out)⟩⟩
    · rw [if_neg c3] at H
      have c3b0 : decide (a0 < 0) = false := decide_eq_false c3
      clear c3
      (first | rw [c3b0] | (simp only [i64_w, i32_w]; rw [c3b0]) | skip)
      have H' := Aside0.mk H
      clear H
      go_wp2
      go_meet
      case rel => exact ⟨_, (decide (a0 > 2147483646)), (by first | rfl | (simp; done) | (simp [*]; done)), H', ⟨by first | omega | exact Nat.le_refl _⟩, ⟨by repeat (first | (with_reducible first | exact HB.out | apply below_alloc | apply pw_below_drewN | apply below_drew1) | exact HB.out)⟩⟩
  case rest =>
    clear HC2
    try clear c1
    try clear p2
    try clear c3
    try clear c3b0
    obtain ⟨kq, x12_1, rfl, HA, HJ1, HB⟩ := hcut
    cases kq with
    | zero => exact absurd HA.out (by simp [cutroomlaw20_CadencePulldown.j0])
    | succ kj1 =>
      have H := HA.out
      clear HA
      simp only [cutroomlaw20_CadencePulldown.j0] at H
      by_cases c4 : x12_1 = true
      · subst c4
        have H1 : ((cutroomlaw20_awake.f kj1).bind fun t271 => (some t271)) = some r := by rw [if_pos rfl] at H; exact H
        clear H
        have H := H1
        clear H1
        replace H := Option.bind_eq_some_iff.mp H
        obtain ⟨t271, A50, H⟩ := H
        replace H : (some t271) = some r := H
        have A5 := Aside0.mk A50
        clear A50
        obtain rfl := Option.some.inj H
        go_wp2_with (first | ((with_reducible refine gate_callee (f := 21) rfl ?_); refine goesL_ (some 13) rfl rfl Try.func21 (by kernel_rfl) rfl #[] rfl (by (try simp only [List.map_toArray, List.map_cons, List.map_nil]); first | done | rfl | (simp only [List.length_drop, List.length_take]; rfl)) ?_; (with_reducible refine (cutroomlaw20_awake.calls kj1  t271 _ A5.out).mono ?_); rintro e w6 ⟨rfl, hb⟩; refine ⟨_, rfl, ?_⟩; have n0_ := Aside0.mk (below_step (by repeat (first | (with_reducible first | exact HB.out | apply below_alloc | apply pw_below_drewN | apply below_drew1) | exact HB.out)) hb); clear HB; have HB := n0_; clear n0_; (try clear hb); (try clear hb2); (try clear hk); (try clear hi)))
        go_ret
        exact ⟨by first | rfl | (simp [errW_none, errW_some] <;> rfl) | (simp [*, errW_none, errW_some] <;> rfl), by repeat (first | (with_reducible first | exact HB.out | apply below_alloc | apply pw_below_drewN | apply below_drew1) | exact HB.out)⟩
      · replace c4 := Bool.eq_false_iff.mpr c4
        subst c4
        have H1 : ((cadence_Fields.f kj1 a0 24000 1001 30000 1001).bind fun bt272 => ((cadence_Fields.f kj1 a0 24 1 30 1).bind fun bt274 => (if bt272.2 = 0 then (if bt274.2 = 0 then (if bt272.1 = (wrap64 (2 + (Int.tmod a0 2))) then (if bt274.1 = bt272.1 then ((cutroomlaw20_awake.f kj1).bind fun t276 => (some t276)) else (some false)) else (some false)) else (some false)) else (some false)))) = some r := by rw [if_neg (show ¬ (false = true) by decide)] at H; exact H
        clear H
        have H := H1
        clear H1
        replace H := Option.bind_eq_some_iff.mp H
        obtain ⟨⟨t272, t273⟩, A70, H⟩ := H
        replace H : ((cadence_Fields.f kj1 a0 24 1 30 1).bind fun bt274 => (if t273 = 0 then (if bt274.2 = 0 then (if t272 = (wrap64 (2 + (Int.tmod a0 2))) then (if bt274.1 = t272 then ((cutroomlaw20_awake.f kj1).bind fun t276 => (some t276)) else (some false)) else (some false)) else (some false)) else (some false))) = some r := H
        have A7 := Aside0.mk A70
        clear A70
        replace H := Option.bind_eq_some_iff.mp H
        obtain ⟨⟨t274, t275⟩, A80, H⟩ := H
        replace H : (if t273 = 0 then (if t275 = 0 then (if t272 = (wrap64 (2 + (Int.tmod a0 2))) then (if t274 = t272 then ((cutroomlaw20_awake.f kj1).bind fun t276 => (some t276)) else (some false)) else (some false)) else (some false)) else (some false)) = some r := H
        have A8 := Aside0.mk A80
        clear A80
        by_cases c9 : t273 = 0
        · rw [if_pos c9] at H
          have c9b0 : (t273 == 0) = true := beq_iff_eq.mpr c9
          have c9b1 : (t273 != 0) = false := bne_eq_false_iff_eq.mpr c9
          clear c9
          by_cases c10 : t275 = 0
          · rw [if_pos c10] at H
            have c10b0 : (t275 == 0) = true := beq_iff_eq.mpr c10
            have c10b1 : (t275 != 0) = false := bne_eq_false_iff_eq.mpr c10
            clear c10
            by_cases c11 : t272 = (wrap64 (2 + (Int.tmod a0 2)))
            · rw [if_pos c11] at H
              have c11b0 : (t272 == (wrap64 (2 + (Int.tmod a0 2)))) = true := beq_iff_eq.mpr c11
              have c11b1 : (t272 != (wrap64 (2 + (Int.tmod a0 2)))) = false := bne_eq_false_iff_eq.mpr c11
              clear c11
              by_cases c12 : t274 = t272
              · rw [if_pos c12] at H
                have c12b0 : (t274 == t272) = true := beq_iff_eq.mpr c12
                have c12b1 : (t274 != t272) = false := bne_eq_false_iff_eq.mpr c12
                clear c12
                replace H := Option.bind_eq_some_iff.mp H
                obtain ⟨t276, A130, H⟩ := H
                replace H : (some t276) = some r := H
                have A13 := Aside0.mk A130
                clear A130
                obtain rfl := Option.some.inj H
                go_wp2_with (first | ((with_reducible refine gate_callee (f := 29) rfl ?_); refine goesL_ (some 18) rfl rfl Try.func29 (by kernel_rfl) rfl #[.int .i64 a0, .agg #[.int .i64 24000, .int .i64 1001], .agg #[.int .i64 30000, .int .i64 1001]] rfl (by (try simp only [List.map_toArray, List.map_cons, List.map_nil]); first | done | rfl | (simp only [List.length_drop, List.length_take]; rfl)) ?_; (with_reducible refine (cadence_Fields.calls kj1 a0 24000 1001 30000 1001 t272 t273 _ A7.out).mono ?_); rintro e w14 ⟨rfl, hb⟩; refine ⟨_, rfl, ?_⟩; have n0_ := Aside0.mk (below_step (by repeat (first | (with_reducible first | exact HB.out | apply below_alloc | apply pw_below_drewN | apply below_drew1) | exact HB.out)) hb); clear HB; have HB := n0_; clear n0_; (try clear hb); (try clear hb2); (try clear hk); (try clear hi)) | ((with_reducible refine gate_callee (f := 29) rfl ?_); refine goesL_ (some 25) rfl rfl Try.func29 (by kernel_rfl) rfl #[.int .i64 a0, .agg #[.int .i64 24, .int .i64 1], .agg #[.int .i64 30, .int .i64 1]] rfl (by (try simp only [List.map_toArray, List.map_cons, List.map_nil]); first | done | rfl | (simp only [List.length_drop, List.length_take]; rfl)) ?_; (with_reducible refine (cadence_Fields.calls kj1 a0 24 1 30 1 t274 t275 _ A8.out).mono ?_); rintro e w15 ⟨rfl, hb⟩; refine ⟨_, rfl, ?_⟩; have n0_ := Aside0.mk (below_step (by repeat (first | (with_reducible first | exact HB.out | apply below_alloc | apply pw_below_drewN | apply below_drew1) | exact HB.out)) hb); clear HB; have HB := n0_; clear n0_; (try clear hb); (try clear hb2); (try clear hk); (try clear hi)) | (go_at_call 21; (with_reducible refine (cutroomlaw20_awake.calls kj1  t276 _ A13.out).mono ?_); rintro e w16 ⟨rfl, hb⟩; have n0_ := Aside0.mk (below_step (by repeat (first | (with_reducible first | exact HB.out | apply below_alloc | apply pw_below_drewN | apply below_drew1) | exact HB.out)) hb); clear HB; have HB := n0_; clear n0_; (try clear hb); (try clear hb2); (try clear hk); (try clear hi)))
                go_ret
                exact ⟨by first | rfl | (simp [errW_none, errW_some] <;> rfl) | (simp [*, errW_none, errW_some] <;> rfl), by repeat (first | (with_reducible first | exact HB.out | apply below_alloc | apply pw_below_drewN | apply below_drew1) | exact HB.out)⟩
              · rw [if_neg c12] at H
                have c12b0 : (t274 == t272) = false := beq_eq_false_iff_ne.mpr c12
                have c12b1 : (t274 != t272) = true := bne_iff_ne.mpr c12
                obtain rfl := Option.some.inj H
                go_wp2_with (first | ((with_reducible refine gate_callee (f := 29) rfl ?_); refine goesL_ (some 18) rfl rfl Try.func29 (by kernel_rfl) rfl #[.int .i64 a0, .agg #[.int .i64 24000, .int .i64 1001], .agg #[.int .i64 30000, .int .i64 1001]] rfl (by (try simp only [List.map_toArray, List.map_cons, List.map_nil]); first | done | rfl | (simp only [List.length_drop, List.length_take]; rfl)) ?_; (with_reducible refine (cadence_Fields.calls kj1 a0 24000 1001 30000 1001 t272 t273 _ A7.out).mono ?_); rintro e w17 ⟨rfl, hb⟩; refine ⟨_, rfl, ?_⟩; have n0_ := Aside0.mk (below_step (by repeat (first | (with_reducible first | exact HB.out | apply below_alloc | apply pw_below_drewN | apply below_drew1) | exact HB.out)) hb); clear HB; have HB := n0_; clear n0_; (try clear hb); (try clear hb2); (try clear hk); (try clear hi)) | ((with_reducible refine gate_callee (f := 29) rfl ?_); refine goesL_ (some 25) rfl rfl Try.func29 (by kernel_rfl) rfl #[.int .i64 a0, .agg #[.int .i64 24, .int .i64 1], .agg #[.int .i64 30, .int .i64 1]] rfl (by (try simp only [List.map_toArray, List.map_cons, List.map_nil]); first | done | rfl | (simp only [List.length_drop, List.length_take]; rfl)) ?_; (with_reducible refine (cadence_Fields.calls kj1 a0 24 1 30 1 t274 t275 _ A8.out).mono ?_); rintro e w18 ⟨rfl, hb⟩; refine ⟨_, rfl, ?_⟩; have n0_ := Aside0.mk (below_step (by repeat (first | (with_reducible first | exact HB.out | apply below_alloc | apply pw_below_drewN | apply below_drew1) | exact HB.out)) hb); clear HB; have HB := n0_; clear n0_; (try clear hb); (try clear hb2); (try clear hk); (try clear hi)))
                go_ret
                exact ⟨by first | rfl | (simp [errW_none, errW_some] <;> rfl) | (simp [*, errW_none, errW_some] <;> rfl), by repeat (first | (with_reducible first | exact HB.out | apply below_alloc | apply pw_below_drewN | apply below_drew1) | exact HB.out)⟩
            · rw [if_neg c11] at H
              have c11b0 : (t272 == (wrap64 (2 + (Int.tmod a0 2)))) = false := beq_eq_false_iff_ne.mpr c11
              have c11b1 : (t272 != (wrap64 (2 + (Int.tmod a0 2)))) = true := bne_iff_ne.mpr c11
              obtain rfl := Option.some.inj H
              go_wp2_with (first | ((with_reducible refine gate_callee (f := 29) rfl ?_); refine goesL_ (some 18) rfl rfl Try.func29 (by kernel_rfl) rfl #[.int .i64 a0, .agg #[.int .i64 24000, .int .i64 1001], .agg #[.int .i64 30000, .int .i64 1001]] rfl (by (try simp only [List.map_toArray, List.map_cons, List.map_nil]); first | done | rfl | (simp only [List.length_drop, List.length_take]; rfl)) ?_; (with_reducible refine (cadence_Fields.calls kj1 a0 24000 1001 30000 1001 t272 t273 _ A7.out).mono ?_); rintro e w19 ⟨rfl, hb⟩; refine ⟨_, rfl, ?_⟩; have n0_ := Aside0.mk (below_step (by repeat (first | (with_reducible first | exact HB.out | apply below_alloc | apply pw_below_drewN | apply below_drew1) | exact HB.out)) hb); clear HB; have HB := n0_; clear n0_; (try clear hb); (try clear hb2); (try clear hk); (try clear hi)) | ((with_reducible refine gate_callee (f := 29) rfl ?_); refine goesL_ (some 25) rfl rfl Try.func29 (by kernel_rfl) rfl #[.int .i64 a0, .agg #[.int .i64 24, .int .i64 1], .agg #[.int .i64 30, .int .i64 1]] rfl (by (try simp only [List.map_toArray, List.map_cons, List.map_nil]); first | done | rfl | (simp only [List.length_drop, List.length_take]; rfl)) ?_; (with_reducible refine (cadence_Fields.calls kj1 a0 24 1 30 1 t274 t275 _ A8.out).mono ?_); rintro e w20 ⟨rfl, hb⟩; refine ⟨_, rfl, ?_⟩; have n0_ := Aside0.mk (below_step (by repeat (first | (with_reducible first | exact HB.out | apply below_alloc | apply pw_below_drewN | apply below_drew1) | exact HB.out)) hb); clear HB; have HB := n0_; clear n0_; (try clear hb); (try clear hb2); (try clear hk); (try clear hi)))
              go_ret
              exact ⟨by first | rfl | (simp [errW_none, errW_some] <;> rfl) | (simp [*, errW_none, errW_some] <;> rfl), by repeat (first | (with_reducible first | exact HB.out | apply below_alloc | apply pw_below_drewN | apply below_drew1) | exact HB.out)⟩
          · rw [if_neg c10] at H
            have c10b0 : (t275 == 0) = false := beq_eq_false_iff_ne.mpr c10
            have c10b1 : (t275 != 0) = true := bne_iff_ne.mpr c10
            obtain rfl := Option.some.inj H
            go_wp2_with (first | ((with_reducible refine gate_callee (f := 29) rfl ?_); refine goesL_ (some 18) rfl rfl Try.func29 (by kernel_rfl) rfl #[.int .i64 a0, .agg #[.int .i64 24000, .int .i64 1001], .agg #[.int .i64 30000, .int .i64 1001]] rfl (by (try simp only [List.map_toArray, List.map_cons, List.map_nil]); first | done | rfl | (simp only [List.length_drop, List.length_take]; rfl)) ?_; (with_reducible refine (cadence_Fields.calls kj1 a0 24000 1001 30000 1001 t272 t273 _ A7.out).mono ?_); rintro e w21 ⟨rfl, hb⟩; refine ⟨_, rfl, ?_⟩; have n0_ := Aside0.mk (below_step (by repeat (first | (with_reducible first | exact HB.out | apply below_alloc | apply pw_below_drewN | apply below_drew1) | exact HB.out)) hb); clear HB; have HB := n0_; clear n0_; (try clear hb); (try clear hb2); (try clear hk); (try clear hi)) | ((with_reducible refine gate_callee (f := 29) rfl ?_); refine goesL_ (some 25) rfl rfl Try.func29 (by kernel_rfl) rfl #[.int .i64 a0, .agg #[.int .i64 24, .int .i64 1], .agg #[.int .i64 30, .int .i64 1]] rfl (by (try simp only [List.map_toArray, List.map_cons, List.map_nil]); first | done | rfl | (simp only [List.length_drop, List.length_take]; rfl)) ?_; (with_reducible refine (cadence_Fields.calls kj1 a0 24 1 30 1 t274 t275 _ A8.out).mono ?_); rintro e w22 ⟨rfl, hb⟩; refine ⟨_, rfl, ?_⟩; have n0_ := Aside0.mk (below_step (by repeat (first | (with_reducible first | exact HB.out | apply below_alloc | apply pw_below_drewN | apply below_drew1) | exact HB.out)) hb); clear HB; have HB := n0_; clear n0_; (try clear hb); (try clear hb2); (try clear hk); (try clear hi)))
            go_ret
            exact ⟨by first | rfl | (simp [errW_none, errW_some] <;> rfl) | (simp [*, errW_none, errW_some] <;> rfl), by repeat (first | (with_reducible first | exact HB.out | apply below_alloc | apply pw_below_drewN | apply below_drew1) | exact HB.out)⟩
        · rw [if_neg c9] at H
          have c9b0 : (t273 == 0) = false := beq_eq_false_iff_ne.mpr c9
          have c9b1 : (t273 != 0) = true := bne_iff_ne.mpr c9
          obtain rfl := Option.some.inj H
          go_wp2_with (first | ((with_reducible refine gate_callee (f := 29) rfl ?_); refine goesL_ (some 18) rfl rfl Try.func29 (by kernel_rfl) rfl #[.int .i64 a0, .agg #[.int .i64 24000, .int .i64 1001], .agg #[.int .i64 30000, .int .i64 1001]] rfl (by (try simp only [List.map_toArray, List.map_cons, List.map_nil]); first | done | rfl | (simp only [List.length_drop, List.length_take]; rfl)) ?_; (with_reducible refine (cadence_Fields.calls kj1 a0 24000 1001 30000 1001 t272 t273 _ A7.out).mono ?_); rintro e w23 ⟨rfl, hb⟩; refine ⟨_, rfl, ?_⟩; have n0_ := Aside0.mk (below_step (by repeat (first | (with_reducible first | exact HB.out | apply below_alloc | apply pw_below_drewN | apply below_drew1) | exact HB.out)) hb); clear HB; have HB := n0_; clear n0_; (try clear hb); (try clear hb2); (try clear hk); (try clear hi)) | ((with_reducible refine gate_callee (f := 29) rfl ?_); refine goesL_ (some 25) rfl rfl Try.func29 (by kernel_rfl) rfl #[.int .i64 a0, .agg #[.int .i64 24, .int .i64 1], .agg #[.int .i64 30, .int .i64 1]] rfl (by (try simp only [List.map_toArray, List.map_cons, List.map_nil]); first | done | rfl | (simp only [List.length_drop, List.length_take]; rfl)) ?_; (with_reducible refine (cadence_Fields.calls kj1 a0 24 1 30 1 t274 t275 _ A8.out).mono ?_); rintro e w24 ⟨rfl, hb⟩; refine ⟨_, rfl, ?_⟩; have n0_ := Aside0.mk (below_step (by repeat (first | (with_reducible first | exact HB.out | apply below_alloc | apply pw_below_drewN | apply below_drew1) | exact HB.out)) hb); clear HB; have HB := n0_; clear n0_; (try clear hb); (try clear hb2); (try clear hk); (try clear hi)))
          go_ret
          exact ⟨by first | rfl | (simp [errW_none, errW_some] <;> rfl) | (simp [*, errW_none, errW_some] <;> rfl), by repeat (first | (with_reducible first | exact HB.out | apply below_alloc | apply pw_below_drewN | apply below_drew1) | exact HB.out)⟩

/-- THE ONE PURE STATEMENT of cutroomlaw20_CadencePulldown: yours. -/
def cutroomlaw20_CadencePulldown.Pure : Prop := ∀ (a0 : Int), (Lit.int .i64 a0).wf = true → ∃ k, cutroomlaw20_CadencePulldown.f k a0 = some true
theorem cutroomlaw20_CadencePulldown.walk (P : cutroomlaw20_CadencePulldown.Pure) (a0 : Int) (w : World) (w0 : (Lit.int .i64 a0).wf = true) :
    Calls Try.prog 11 #[.int .i64 a0] w fun e w' => e = .returned (.bool true) ∧ Below w.heap.size w w' := by
  obtain ⟨k, h⟩ := P a0 w0
  refine (cutroomlaw20_CadencePulldown.calls k a0 true w h).mono ?_
  rintro e w' ⟨rfl, hd⟩
  exact ⟨rfl, hd⟩

end Go.Proofs.Ytcofjbbflcnaaaa.P
