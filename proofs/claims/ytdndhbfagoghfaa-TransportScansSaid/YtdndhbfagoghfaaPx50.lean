-- Written by this session's own program (wip/tools/myprint.py), which runs the kit's print with turns of its own: not a text of the kit's print.sh.
import Derived.Test.YtdndhbfagoghfaaPx0
namespace Go.Proofs.Ytdndhbfagoghfaa.P
open Go.RowKit Go.Proofs.YtdndhbfagoghfaaW.PrintWords Go.Proofs.YtdndhbfagoghfaaW.PrintLast Go.Proofs.YtdndhbfagoghfaaW.PrintMore
attribute [local go_sem] max2_int min2_int max_two min_two max_three min_three max_four min_four   -- for this text's walks alone
set_option linter.unusedVariables false
set_option linter.unusedSimpArgs false

/-! ### cutroomref02_Bits: function 49 -/
def cutroomref02_Bits.l0 : Nat → Int → List Int → Int → Option (List Int)
  | 0, _, _, _ => none
  | k + 1, x0, x5, x6 => if x6 ≥ 0 then (if 0 ≤ (IntKind.u64.wrap (x6)) then (if x5.length < 140737488355328 then (cutroomref02_Bits.l0 k x0 (x5 ++ [(Go.bits .and .u32 (shr .u32 x0 (IntKind.u64.wrap (x6))) 1) % 256]) (wrap64 (x6 - 1))) else (none)) else (none)) else (some x5)
def cutroomref02_Bits.f (k : Nat) (a0 : Int) (a1 : Int) : Option (List Int) := cutroomref02_Bits.l0 k a0 ([] : List Int) (wrap64 (a1 - 1))
theorem cutroomref02_Bits.mono_l : ∀ k, (∀ y0 y1 y2, LeO (cutroomref02_Bits.l0 k y0 y1 y2) (cutroomref02_Bits.l0 (k + 1) y0 y1 y2))
  | 0 => fun _ _ _ r h => by simp [cutroomref02_Bits.l0] at h
  | k + 1 => by
    have ih0 := cutroomref02_Bits.mono_l k
    · intro y0 y1 y2
      unfold cutroomref02_Bits.l0
      repeat' first
      | (with_reducible exact ih0 _ _ _)
      | (with_reducible exact LeO.refl _)
      | (with_reducible exact LeO.none _)
      | (with_reducible refine LeO.ite ?_ ?_)
      | (with_reducible refine LeO.bind ?_ (fun _ => ?_))
      | exact ih0 _ _ _
      | exact LeO.none _
      | refine LeO.ite ?_ ?_
      | refine LeO.bind ?_ (fun _ => ?_)
theorem cutroomref02_Bits.mono : ∀ a0 a1 k, LeO (cutroomref02_Bits.f k a0 a1) (cutroomref02_Bits.f (k + 1) a0 a1) := by
  intro a0 a1 k
  have ih0 := cutroomref02_Bits.mono_l k
  unfold cutroomref02_Bits.f
  repeat' first
      | (with_reducible exact ih0 _ _ _)
      | (with_reducible exact LeO.refl _)
      | (with_reducible exact LeO.none _)
      | (with_reducible refine LeO.ite ?_ ?_)
      | (with_reducible refine LeO.bind ?_ (fun _ => ?_))
      | exact ih0 _ _ _
      | exact LeO.none _
      | refine LeO.ite ?_ ?_
      | refine LeO.bind ?_ (fun _ => ?_)
set_option maxHeartbeats 8000000 in
set_option maxRecDepth 100000 in
theorem cutroomref02_Bits.calls (k : Nat) (a0 : Int) (a1 : Int) (r : List Int) (w : World) (h : cutroomref02_Bits.f k a0 a1 = some r) :
    Calls Try.prog 49 #[.int .u32 a0, .int .i64 a1] w fun e w' => ∃ v0_ : Value, e = .returned (v0_) ∧ Kd.R (Kd.int .u8) 5 w' w.heap.size (fun _ => True) v0_ r ∧ Below w.heap.size w w' := by
  have HB := Aside0.mk (Below.refl w.heap.size w)
  have H : (cutroomref02_Bits.l0 k a0 ([] : List Int) (wrap64 (a1 - 1))) = some r := h
  clear h
  have H' := Aside0.mk H
  clear H
  go_enter Try.func49, Try.ntmps49
  go_wp2
  go_loopg [5, 6] k (fun kq v5 v6 w' => ∃ (x5_1 : List Int) (x6_1 : Int), v6 = .int .i64 x6_1 ∧ Aside0 (cutroomref02_Bits.l0 kq a0 x5_1 x6_1 = some r) ∧ Aside0 (kq ≤ k) ∧ Aside0 (Kd.R (Kd.int .u8) 5 w' w.heap.size (fun _ => True) v5 x5_1) ∧ Aside0 (Below w.heap.size w w'))
  case atStart => exact ⟨(([] : List Int)), (wrap64 (a1 - 1)), (by first | rfl | (simp; done) | (simp [*]; done)), H', ⟨Nat.le_refl _⟩, ⟨by first | exact Kd.R_nil _ _ _ _ _ | exact Kd.N_nil _ _ _ _ _ | exact Kd.V_nil _ _ _ _ _ | exact Kd.Q_nil _ _ _ _ _ | exact Kd.S_nil _ _ _ _ _⟩, ⟨by repeat (first | (with_reducible first | exact HB.out | apply below_alloc | apply pw_below_drewN | apply below_drew1) | exact HB.out)⟩⟩
  case round =>
    clear H'
    try clear p2
    obtain ⟨x5_1, x6_1, rfl, HA, HK1, HO_5, HB⟩ := hrel
    cases gk with
    | zero => exact absurd HA.out (by simp [cutroomref02_Bits.l0])
    | succ k1 =>
      have H := HA.out
      clear HA
      simp only [cutroomref02_Bits.l0] at H
      by_cases c3 : x6_1 ≥ 0
      · rw [if_pos c3] at H
        have c3b0 : decide (0 ≤ x6_1) = true := decide_eq_true c3
        clear c3
        obtain ⟨ji4, hji4⟩ : ∃ j_ : Int, (IntKind.u64.wrap (x6_1)) = j_ := ⟨_, rfl⟩
        replace H : (if 0 ≤ (ji4) then (if x5_1.length < 140737488355328 then (cutroomref02_Bits.l0 k1 a0 (x5_1 ++ [(Go.bits .and .u32 (shr .u32 a0 (ji4)) 1) % 256]) (wrap64 (x6_1 - 1))) else (none)) else (none)) = some r := by first | (rw [hji4] at H; exact H) | (simp only [hji4] at H ⊢; exact H)
        by_cases c5 : 0 ≤ (ji4)
        · rw [if_pos c5] at H
          have c5b0 := eq_true c5
          have c5b1 : decide (0 ≤ (ji4)) = true := decide_eq_true c5
          clear c5
          obtain ⟨ji6, hji6⟩ : ∃ j_ : Int, (shr .u32 a0 (ji4)) = j_ := ⟨_, rfl⟩
          replace H : (if x5_1.length < 140737488355328 then (cutroomref02_Bits.l0 k1 a0 (x5_1 ++ [(Go.bits .and .u32 (ji6) 1) % 256]) (wrap64 (x6_1 - 1))) else (none)) = some r := by first | (rw [hji6] at H; exact H) | (simp only [hji6] at H ⊢; exact H)
          have hji6_ : (a0 / 2 ^ min (ji4).toNat 32) = ji6 := hji6
          have hji6z : (ji4) ≤ 32 → (a0 / 2 ^ (ji4).toNat) = ji6 := shr_small hji6
          by_cases c7 : x5_1.length < 140737488355328
          · rw [if_pos c7] at H
            have LMc7 := Aside0.mk c7
            clear c7
            obtain ⟨y159, hy159⟩ : ∃ y_ : List Int, y_ = (x5_1 ++ [(Go.bits .and .u32 (ji6) 1) % 256]) := ⟨_, rfl⟩
            replace H : (cutroomref02_Bits.l0 k1 a0 y159 (wrap64 (x6_1 - 1))) = some r := by first | (rw [hy159]; with_reducible exact H) | (have H2_ := (Option.bind_some _ _).symm.trans H; rw [hy159]; with_reducible exact H2_) | (have H2_ := (Option.bind_some _ _).symm.trans H; with_reducible exact H2_) | with_reducible exact H | (rw [hy159]; exact H) | exact H
            have Ny159 := Aside0.mk hy159
            clear hy159
            have H' := Aside0.mk H
            clear H
            go_wp2_with (first | ((with_reducible refine gate_builtin (b := .append) (xs := #[.tmp 13, .tmp 20]) rfl ?_); at_builtin; refine Kd.R_append (Kd.int .u8) (w0 := w) w.heap.size rfl (.tmp 13) (.tmp 20) 22 5 (.int .u8 0) 1 rfl Try.underlying22 info5 rfl (by decide) (by omega) u5 x5_1 ((Go.bits .and .u32 (ji6) 1) % 256) [.int .u8 ((Go.bits .and .u32 (ji6) 1) % 256)] (fun _ => True) (fun _ => False) rfl rfl ?aP (fun _ hk => hk.elim) ?aF ?aO ?aB ?aS ?aL ?_; (case aP => exact rfl); (case aB => exact (by repeat (first | (with_reducible first | exact HB.out | apply below_alloc | apply pw_below_drewN | apply below_drew1) | exact HB.out))); (case aF => exact (fun _ _ => trivial)); (case aO => exact (by (with_reducible repeat (first | apply Kd.R_alloc | apply Kd.R_drewN | apply Kd.R_drew)); exact HO_5.out)); (case aS => exact (below_size (by repeat (first | (with_reducible first | exact HB.out | apply below_alloc | apply pw_below_drewN | apply below_drew1) | exact HB.out)))); (case aL => have := LMc7.out; omega); intro v160 w8 ho hb hg hat; rw [← Ny159.out] at ho; have n0_ := Aside0.mk (hb); have n1_ := Aside0.mk (ho); clear HB; clear HO_5; have HB := n0_; have HO161 := n1_; clear n0_ n1_; clear ho hb hg hat))
            go_roundg k1
            case measure => have := HK1.out; omega
            case rel => exact ⟨(y159), (wrap64 (x6_1 - 1)), (by first | rfl | (simp; done) | (simp [*]; done)), H', ⟨by have := HK1.out; omega⟩, ⟨by (with_reducible repeat (first | apply Kd.R_alloc | apply Kd.R_drewN | apply Kd.R_drew)); exact HO161.out⟩, ⟨by repeat (first | (with_reducible first | exact HB.out | apply below_alloc | apply pw_below_drewN | apply below_drew1) | exact HB.out)⟩⟩
          · rw [if_neg c7] at H
            exact absurd H (by simp)
        · rw [if_neg c5] at H
          exact absurd H (by simp)
      · rw [if_neg c3] at H
        have c3b0 : decide (0 ≤ x6_1) = false := decide_eq_false c3
        clear c3
        obtain rfl := Option.some.inj H
        go_wp2
        go_ret
        exact ⟨_, by first | rfl | (simp [errW_none, errW_some] <;> rfl) | (simp [*, errW_none, errW_some] <;> rfl), by (with_reducible repeat (first | apply Kd.R_alloc | apply Kd.R_drewN | apply Kd.R_drew)); exact HO_5.out, by repeat (first | (with_reducible first | exact HB.out | apply below_alloc | apply pw_below_drewN | apply below_drew1) | exact HB.out)⟩

/-! ### cutroomref02_Payload: function 50 -/
def cutroomref02_Payload.l0 : Nat → List Int → List Int → Int → Option (List Int)
 | 0, _, _, _ => none
 | k + 1, x0, x3, x4 => if x4 ≤ (x0.length : Int) then (if x4 = (x0.length : Int) then (if 0 ≤ (wrap64 (Int.tdiv x4 8)) then (if (wrap64 (Int.tdiv x4 8)) < (x3.length : Int) then (if 0 ≤ (IntKind.u64.wrap (Int.tmod x4 8)) then (cutroomref02_Payload.l0 k x0 (x3.set ((wrap64 (Int.tdiv x4 8)) : Int).toNat (Go.bits .or .u8 (rd x3 (wrap64 (Int.tdiv x4 8))) (shr .u8 128 (IntKind.u64.wrap (Int.tmod x4 8))))) (wrap64 (x4 + 1))) else (none)) else (none)) else (none)) else (if 0 ≤ x4 then (if x4 < (x0.length : Int) then (if (rd x0 x4) = 1 then (if 0 ≤ (wrap64 (Int.tdiv x4 8)) then (if (wrap64 (Int.tdiv x4 8)) < (x3.length : Int) then (if 0 ≤ (IntKind.u64.wrap (Int.tmod x4 8)) then (cutroomref02_Payload.l0 k x0 (x3.set ((wrap64 (Int.tdiv x4 8)) : Int).toNat (Go.bits .or .u8 (rd x3 (wrap64 (Int.tdiv x4 8))) (shr .u8 128 (IntKind.u64.wrap (Int.tmod x4 8))))) (wrap64 (x4 + 1))) else (none)) else (none)) else (none)) else (cutroomref02_Payload.l0 k x0 x3 (wrap64 (x4 + 1)))) else (none)) else (none))) else (some x3)
def cutroomref02_Payload.f (k : Nat) (l0 : List Int) : Option (List Int) := if 0 ≤ (wrap64 ((wrap64 ((l0.length : Int) / 8)) + 1)) then (if (wrap64 ((wrap64 ((l0.length : Int) / 8)) + 1) : Int).toNat ≤ 281474976710656 then (cutroomref02_Payload.l0 k l0 (List.replicate (wrap64 ((wrap64 ((l0.length : Int) / 8)) + 1) : Int).toNat 0) 0) else (none)) else (none)
theorem cutroomref02_Payload.mono_l : ∀ k, (∀ y0 y1 y2, LeO (cutroomref02_Payload.l0 k y0 y1 y2) (cutroomref02_Payload.l0 (k + 1) y0 y1 y2))
 | 0 => fun _ _ _ r h => by simp [cutroomref02_Payload.l0] at h
 | k + 1 => by
  have ih0 := cutroomref02_Payload.mono_l k
  ·intro y0 y1 y2
   unfold cutroomref02_Payload.l0
   repeat' first
   | (with_reducible exact ih0 _ _ _)
   | (with_reducible exact LeO.refl _)
   | (with_reducible exact LeO.none _)
   | (with_reducible refine LeO.ite ?_ ?_)
   | (with_reducible refine LeO.bind ?_ (fun _ => ?_))
   | exact ih0 _ _ _
   | exact LeO.none _
   | refine LeO.ite ?_ ?_
   | refine LeO.bind ?_ (fun _ => ?_)
theorem cutroomref02_Payload.mono : ∀ a0 k, LeO (cutroomref02_Payload.f k a0) (cutroomref02_Payload.f (k + 1) a0) := by
 intro a0 k
 have ih0 := cutroomref02_Payload.mono_l k
 unfold cutroomref02_Payload.f
 repeat' first
   | (with_reducible exact ih0 _ _ _)
   | (with_reducible exact LeO.refl _)
   | (with_reducible exact LeO.none _)
   | (with_reducible refine LeO.ite ?_ ?_)
   | (with_reducible refine LeO.bind ?_ (fun _ => ?_))
   | exact ih0 _ _ _
   | exact LeO.none _
   | refine LeO.ite ?_ ?_
   | refine LeO.bind ?_ (fun _ => ?_)
set_option maxHeartbeats 8000000 in
set_option maxRecDepth 100000 in
theorem cutroomref02_Payload.calls (k : Nat) (A0 : Option Addr) (c0 : Nat) (l0 : List Int) (r : List Int) (w : World) (hr0 : Kd.C (Kd.int .u8) w A0 l0.length l0) (hc0 : l0.length ≤ c0) (h : cutroomref02_Payload.f k l0 = some r) :
  Calls Try.prog 50 #[.slice A0 l0.length c0] w fun e w' => ∃ v0_ : Value, e = .returned (v0_) ∧ Kd.R (Kd.int .u8) 5 w' w.heap.size (fun _ => True) v0_ r ∧ Below w.heap.size w w' := by
 have HR0 := Aside0.mk hr0
 have HC0 := Aside0.mk hc0
 clear hr0 hc0
 have HB := Aside0.mk (Below.refl w.heap.size w)
 have H : (if 0 ≤ (wrap64 ((wrap64 ((l0.length : Int) / 8)) + 1)) then (if (wrap64 ((wrap64 ((l0.length : Int) / 8)) + 1) : Int).toNat ≤ 281474976710656 then (cutroomref02_Payload.l0 k l0 (List.replicate (wrap64 ((wrap64 ((l0.length : Int) / 8)) + 1) : Int).toNat 0) 0) else (none)) else (none)) = some r := h
 clear h
 obtain ⟨ji2, hji2⟩ : ∃ j_ : Int, (wrap64 ((wrap64 ((l0.length : Int) / 8)) + 1)) = j_ := ⟨_, rfl⟩
 replace H : (if 0 ≤ (ji2) then (if (ji2 : Int).toNat ≤ 281474976710656 then (cutroomref02_Payload.l0 k l0 (List.replicate (ji2 : Int).toNat 0) 0) else (none)) else (none)) = some r := by first | (rw [hji2] at H; exact H) | (simp only [hji2] at H ⊢; exact H)
 have hji2w : (IntKind.i64.wrap ((wrap64 ((l0.length : Int) / 8)) + 1)) = ji2 := (i64_w _).trans hji2
 by_cases c3 : 0 ≤ (ji2)
 ·rw [if_pos c3] at H
  have c3b0 := eq_true c3
  have c3b1 : decide (0 ≤ (ji2)) = true := decide_eq_true c3
  clear c3
  by_cases c4 : (ji2 : Int).toNat ≤ 281474976710656
  ·rw [if_pos c4] at H
   have c4b0 := eq_true c4
   have c4b1 : decide ((ji2 : Int).toNat ≤ 281474976710656) = true := decide_eq_true c4
   clear c4
   obtain ⟨y162, hy162⟩ : ∃ y_ : List Int, y_ = (List.replicate (ji2 : Int).toNat 0) := ⟨_, rfl⟩
   replace H : (cutroomref02_Payload.l0 k l0 y162 0) = some r := by first | (rw [hy162]; with_reducible exact H) | (have H2_ := (Option.bind_some _ _).symm.trans H; rw [hy162]; with_reducible exact H2_) | (have H2_ := (Option.bind_some _ _).symm.trans H; with_reducible exact H2_) | with_reducible exact H | (rw [hy162]; exact H) | exact H
   have Ny162 := Aside0.mk hy162
   clear hy162
   have H' := Aside0.mk H
   clear H
   go_enter Try.func50, Try.ntmps50
   go_wp2_with (first | ((with_reducible refine gate_dst (N := 9) rfl ?_); refine Kd.R_make (Kd.int .u8) _ 5 rfl (N := 9) rfl 22 _ _ rfl ji2 rfl rfl Try.underlying22 (.int .u8 0) 1 info5 rfl (by decide) (by omega) 0 (ok := fun _ => True) (okp := fun _ => True) rfl (fun _ hk => hk) trivial (of_decide_eq_true (by first | (with_reducible assumption) | assumption)) (Nat.le_trans (Nat.mul_le_mul_right _ (of_decide_eq_true (by first | (with_reducible assumption) | assumption) : ji2.toNat ≤ 281474976710656)) (by omega)) (Below.refl _ _) (Nat.le_refl _) ?_; intro v163 w5 ho6 hb hg_ hnew_; clear hg_ hnew_; (first | rw [← Ny162.out] at ho6 | (simp only [Int.reduceToNat] at ho6; rw [← Ny162.out] at ho6)); have n0_ := Aside0.mk (Kd.R_lower ho6 (below_size (by repeat (first | (with_reducible first | exact HB.out | apply below_alloc | apply pw_below_drewN | apply below_drew1) | exact HB.out)))); have n1_ := Aside0.mk (below_step (by repeat (first | (with_reducible first | exact HB.out | apply below_alloc | apply pw_below_drewN | apply below_drew1) | exact HB.out)) hb); clear HB; have HO164 := n0_; have HB := n1_; clear n0_ n1_; clear hb ho6))
   go_loopg [4] k (fun kq v4 w' => ∃ (x3_1 : List Int) (x4_1 : Int), v4 = .int .i64 x4_1 ∧ Aside0 (cutroomref02_Payload.l0 kq l0 x3_1 x4_1 = some r) ∧ Aside0 (kq ≤ k) ∧ Aside0 (Kd.R (Kd.int .u8) 5 w' w.heap.size (fun _ => True) v163 x3_1) ∧ Aside0 (Below w.heap.size w w'))
   case atStart => exact ⟨(y162), (0), (by first | rfl | (simp; done) | (simp [*]; done)), H', ⟨Nat.le_refl _⟩, ⟨by (with_reducible repeat (first | apply Kd.R_alloc | apply Kd.R_drewN | apply Kd.R_drew)); exact HO164.out⟩, ⟨by repeat (first | (with_reducible first | exact HB.out | apply below_alloc | apply pw_below_drewN | apply below_drew1) | exact HB.out)⟩⟩
   case round =>
    clear H'
    (try clear p2);(try clear c3);(try clear c3b0);(try clear c3b1);(try clear c4);(try clear c4b0);(try clear c4b1);(try clear c5);(try clear p6)
    obtain ⟨x3_1, x4_1, rfl, HA, HK1, HO_3, HB⟩ := hrel
    cases gk with
    | zero => exact absurd HA.out (by simp [cutroomref02_Payload.l0])
    | succ k1 =>
     have H := HA.out
     clear HA
     simp only [cutroomref02_Payload.l0] at H
     by_cases c7 : x4_1 ≤ (l0.length : Int)
     ·rw [if_pos c7] at H
      have c7b0 : decide (x4_1 ≤ (l0.length : Int)) = true := decide_eq_true c7
      clear c7
      by_cases c8 : x4_1 = (l0.length : Int)
      ·rw [if_pos c8] at H
       have c8b0 : (x4_1 == (l0.length : Int)) = true := beq_iff_eq.mpr c8
       have c8b1 : (x4_1 != (l0.length : Int)) = false := bne_eq_false_iff_eq.mpr c8
       clear c8
       obtain ⟨ji9, hji9⟩ : ∃ j_ : Int, (wrap64 (Int.tdiv x4_1 8)) = j_ := ⟨_, rfl⟩
       replace H : (if 0 ≤ (ji9) then (if (ji9) < (x3_1.length : Int) then (if 0 ≤ (IntKind.u64.wrap (Int.tmod x4_1 8)) then (cutroomref02_Payload.l0 k1 l0 (x3_1.set ((ji9) : Int).toNat (Go.bits .or .u8 (rd x3_1 (ji9)) (shr .u8 128 (IntKind.u64.wrap (Int.tmod x4_1 8))))) (wrap64 (x4_1 + 1))) else (none)) else (none)) else (none)) = some r := by first | (rw [hji9] at H; exact H) | (simp only [hji9] at H ⊢; exact H)
       have hji9w : (IntKind.i64.wrap (Int.tdiv x4_1 8)) = ji9 := (i64_w _).trans hji9
       by_cases c10 : 0 ≤ (ji9)
       ·rw [if_pos c10] at H
        have c10b0 : decide (0 ≤ (ji9)) = true := decide_eq_true c10
        clear c10
        by_cases c11 : (ji9) < (x3_1.length : Int)
        ·rw [if_pos c11] at H
         have c11b0 : decide ((ji9) < (x3_1.length : Int)) = true := decide_eq_true c11
         clear c11
         obtain ⟨ji12, hji12⟩ : ∃ j_ : Int, (IntKind.u64.wrap (Int.tmod x4_1 8)) = j_ := ⟨_, rfl⟩
         replace H : (if 0 ≤ (ji12) then (cutroomref02_Payload.l0 k1 l0 (x3_1.set ((ji9) : Int).toNat (Go.bits .or .u8 (rd x3_1 (ji9)) (shr .u8 128 (ji12)))) (wrap64 (x4_1 + 1))) else (none)) = some r := by first | (rw [hji12] at H; exact H) | (simp only [hji12] at H ⊢; exact H)
         by_cases c13 : 0 ≤ (ji12)
         ·rw [if_pos c13] at H
          have c13b0 := eq_true c13
          have c13b1 : decide (0 ≤ (ji12)) = true := decide_eq_true c13
          clear c13
          obtain ⟨ji14, hji14⟩ : ∃ j_ : Int, (shr .u8 128 (ji12)) = j_ := ⟨_, rfl⟩
          replace H : (cutroomref02_Payload.l0 k1 l0 (x3_1.set ((ji9) : Int).toNat (Go.bits .or .u8 (rd x3_1 (ji9)) (ji14))) (wrap64 (x4_1 + 1))) = some r := by first | (rw [hji14] at H; exact H) | (simp only [hji14] at H ⊢; exact H)
          have hji14_ : (128 / 2 ^ min (ji12).toNat 8) = ji14 := hji14
          have hji14z : (ji12) ≤ 8 → (128 / 2 ^ (ji12).toNat) = ji14 := shr_small hji14
          obtain ⟨y166, hy166⟩ : ∃ y_ : List Int, y_ = (x3_1.set ((ji9) : Int).toNat (Go.bits .or .u8 (rd x3_1 (ji9)) (ji14))) := ⟨_, rfl⟩
          replace H : (cutroomref02_Payload.l0 k1 l0 y166 (wrap64 (x4_1 + 1))) = some r := by first | (rw [hy166]; with_reducible exact H) | (have H2_ := (Option.bind_some _ _).symm.trans H; rw [hy166]; with_reducible exact H2_) | (have H2_ := (Option.bind_some _ _).symm.trans H; with_reducible exact H2_) | with_reducible exact H | (rw [hy166]; exact H) | exact H
          have Ny166 := Aside0.mk hy166
          clear hy166
          have H' := Aside0.mk H
          clear H
          obtain ⟨Ao16, co16, eo16⟩ := Kd.R_slice HO_3.out
          subst eo16
          have p165 : 0 ≤ ((ji9) : Int) := of_decide_eq_true (by first | (with_reducible assumption) | assumption)
          have q165 : (ji9) < (x3_1.length : Int) := of_decide_eq_true (by first | (with_reducible assumption) | assumption)
          obtain ⟨ad165, e165, hx165_0⟩ := Kd.at_int (Kd.R_reads' HO_3.out).2.2 (ji9) p165 q165
          cases e165
          replace p165 := eq_true p165
          replace q165 := eq_true q165
          have p15 : 0 ≤ ((ji9) : Int) := of_decide_eq_true (by first | (with_reducible assumption) | assumption)
          have q15 : ((ji9) : Int) < ((x3_1.length : Int) : Int) := of_decide_eq_true (by first | (with_reducible assumption) | assumption)
          obtain ⟨go15, co15, eo15, gb15, gl15, cl15, HG15⟩ := Kd.R_form HO_3.out (by omega)
          (first | cases eo15 | (injection eo15 with ea_ en_ ec_; (first | subst ea_ | (injection ea_ with ea_; subst ea_)); subst ec_; clear en_))
          have GB15 := Aside0.mk gb15
          have GG15 := Aside0.mk HG15
          clear gb15 gl15 HG15
          (first | simp only [add_plain] at hx165_0 | skip)
          obtain ⟨hx15_0, hf15_0⟩ := Kd.R_celln 0 HO_3.out ((ji9) : Int) p15 q15
          replace p15 := eq_true p15
          replace q15 := eq_true q15
          have HP17 := Kd.R_putg HO_3.out ((ji9) : Int) (Go.bits .or .u8 (rd x3_1 (ji9)) (ji14))
          go_wp2_with (first | ((with_reducible refine gate_store (t := 5) (p := 37) rfl ?_); refine store_event (t := 5) (p := 37) (v := ?vo_w18) (w1 := (wr.setCell ⟨go15, ((ji9) : Int).toNat, none⟩ (.int .u8 (Go.bits .or .u8 (rd x3_1 (ji9)) (ji14))))) ?hg ?ho ?hn ?hr ?_; (case ho => rfl); (case hg => rfl); (case hn => rfl); (case hr => first | (go_simp; done) | (go_simp; rfl)); intro w18 hw; have hg : wr.grownBy w18 (some go15) := (by rw [hw]; exact HP17.2); have hp_ : Kd.R (Kd.int .u8) 5 w18 w.heap.size (fun _ => True) (.slice (some ⟨go15, 0, none⟩) x3_1.length co16) y166 := (by rw [hw, Ny166.out]; exact HP17.1); clear HP17; have n0_ := Aside0.mk (hp_); have n1_ := Aside0.mk ((by rw [hw]; exact below_set (HB.out) GB15.out : Below w.heap.size w w18)); clear HO_3; clear HB; have HO_3 := n0_; have HB := n1_; clear n0_ n1_; clear hg hw hp_))
          go_roundg k1
          case measure => have := HK1.out; omega
          case rel => exact ⟨(y166), (wrap64 (x4_1 + 1)), (by first | rfl | (simp; done) | (simp [*]; done)), H', ⟨by have := HK1.out; omega⟩, ⟨by (with_reducible repeat (first | apply Kd.R_alloc | apply Kd.R_drewN | apply Kd.R_drew)); exact HO_3.out⟩, ⟨by repeat (first | (with_reducible first | exact HB.out | apply below_alloc | apply pw_below_drewN | apply below_drew1) | exact HB.out)⟩⟩
         ·rw [if_neg c13] at H
          exact absurd H (by simp)
        ·rw [if_neg c11] at H
         exact absurd H (by simp)
       ·rw [if_neg c10] at H
        exact absurd H (by simp)
      ·rw [if_neg c8] at H
       have c8b0 : (x4_1 == (l0.length : Int)) = false := beq_eq_false_iff_ne.mpr c8
       have c8b1 : (x4_1 != (l0.length : Int)) = true := bne_iff_ne.mpr c8
       by_cases c19 : 0 ≤ x4_1
       ·rw [if_pos c19] at H
        have c19b0 : decide (0 ≤ x4_1) = true := decide_eq_true c19
        clear c19
        by_cases c20 : x4_1 < (l0.length : Int)
        ·rw [if_pos c20] at H
         have c20b0 : decide (x4_1 < (l0.length : Int)) = true := decide_eq_true c20
         clear c20
         by_cases c21 : (rd l0 x4_1) = 1
         ·rw [if_pos c21] at H
          have c21b0 : ((rd l0 x4_1) == 1) = true := beq_iff_eq.mpr c21
          have c21b1 : ((rd l0 x4_1) != 1) = false := bne_eq_false_iff_eq.mpr c21
          clear c21
          obtain ⟨ji22, hji22⟩ : ∃ j_ : Int, (wrap64 (Int.tdiv x4_1 8)) = j_ := ⟨_, rfl⟩
          replace H : (if 0 ≤ (ji22) then (if (ji22) < (x3_1.length : Int) then (if 0 ≤ (IntKind.u64.wrap (Int.tmod x4_1 8)) then (cutroomref02_Payload.l0 k1 l0 (x3_1.set ((ji22) : Int).toNat (Go.bits .or .u8 (rd x3_1 (ji22)) (shr .u8 128 (IntKind.u64.wrap (Int.tmod x4_1 8))))) (wrap64 (x4_1 + 1))) else (none)) else (none)) else (none)) = some r := by first | (rw [hji22] at H; exact H) | (simp only [hji22] at H ⊢; exact H)
          have hji22w : (IntKind.i64.wrap (Int.tdiv x4_1 8)) = ji22 := (i64_w _).trans hji22
          by_cases c23 : 0 ≤ (ji22)
          ·rw [if_pos c23] at H
           have c23b0 : decide (0 ≤ (ji22)) = true := decide_eq_true c23
           clear c23
           by_cases c24 : (ji22) < (x3_1.length : Int)
           ·rw [if_pos c24] at H
            have c24b0 : decide ((ji22) < (x3_1.length : Int)) = true := decide_eq_true c24
            clear c24
            obtain ⟨ji25, hji25⟩ : ∃ j_ : Int, (IntKind.u64.wrap (Int.tmod x4_1 8)) = j_ := ⟨_, rfl⟩
            replace H : (if 0 ≤ (ji25) then (cutroomref02_Payload.l0 k1 l0 (x3_1.set ((ji22) : Int).toNat (Go.bits .or .u8 (rd x3_1 (ji22)) (shr .u8 128 (ji25)))) (wrap64 (x4_1 + 1))) else (none)) = some r := by first | (rw [hji25] at H; exact H) | (simp only [hji25] at H ⊢; exact H)
            by_cases c26 : 0 ≤ (ji25)
            ·rw [if_pos c26] at H
             have c26b0 := eq_true c26
             have c26b1 : decide (0 ≤ (ji25)) = true := decide_eq_true c26
             clear c26
             obtain ⟨ji27, hji27⟩ : ∃ j_ : Int, (shr .u8 128 (ji25)) = j_ := ⟨_, rfl⟩
             replace H : (cutroomref02_Payload.l0 k1 l0 (x3_1.set ((ji22) : Int).toNat (Go.bits .or .u8 (rd x3_1 (ji22)) (ji27))) (wrap64 (x4_1 + 1))) = some r := by first | (rw [hji27] at H; exact H) | (simp only [hji27] at H ⊢; exact H)
             have hji27_ : (128 / 2 ^ min (ji25).toNat 8) = ji27 := hji27
             have hji27z : (ji25) ≤ 8 → (128 / 2 ^ (ji25).toNat) = ji27 := shr_small hji27
             obtain ⟨y169, hy169⟩ : ∃ y_ : List Int, y_ = (x3_1.set ((ji22) : Int).toNat (Go.bits .or .u8 (rd x3_1 (ji22)) (ji27))) := ⟨_, rfl⟩
             replace H : (cutroomref02_Payload.l0 k1 l0 y169 (wrap64 (x4_1 + 1))) = some r := by first | (rw [hy169]; with_reducible exact H) | (have H2_ := (Option.bind_some _ _).symm.trans H; rw [hy169]; with_reducible exact H2_) | (have H2_ := (Option.bind_some _ _).symm.trans H; with_reducible exact H2_) | with_reducible exact H | (rw [hy169]; exact H) | exact H
             have Ny169 := Aside0.mk hy169
             clear hy169
             have H' := Aside0.mk H
             clear H
             have p167 : 0 ≤ (x4_1 : Int) := of_decide_eq_true (by first | (with_reducible assumption) | assumption)
             have q167 : x4_1 < (l0.length : Int) := of_decide_eq_true (by first | (with_reducible assumption) | assumption)
             obtain ⟨ad167, e167, hx167_0⟩ := Kd.at_int HR0.out x4_1 p167 q167
             cases e167
             replace hx167_0 := (HB.out.cell (World.block_lt_of_cell? w _ hx167_0)).trans hx167_0
             replace p167 := eq_true p167
             replace q167 := eq_true q167
             obtain ⟨Ao29, co29, eo29⟩ := Kd.R_slice HO_3.out
             subst eo29
             have p168 : 0 ≤ ((ji22) : Int) := of_decide_eq_true (by first | (with_reducible assumption) | assumption)
             have q168 : (ji22) < (x3_1.length : Int) := of_decide_eq_true (by first | (with_reducible assumption) | assumption)
             obtain ⟨ad168, e168, hx168_0⟩ := Kd.at_int (Kd.R_reads' HO_3.out).2.2 (ji22) p168 q168
             cases e168
             replace p168 := eq_true p168
             replace q168 := eq_true q168
             have p28 : 0 ≤ ((ji22) : Int) := of_decide_eq_true (by first | (with_reducible assumption) | assumption)
             have q28 : ((ji22) : Int) < ((x3_1.length : Int) : Int) := of_decide_eq_true (by first | (with_reducible assumption) | assumption)
             obtain ⟨go28, co28, eo28, gb28, gl28, cl28, HG28⟩ := Kd.R_form HO_3.out (by omega)
             (first | cases eo28 | (injection eo28 with ea_ en_ ec_; (first | subst ea_ | (injection ea_ with ea_; subst ea_)); subst ec_; clear en_))
             have GB28 := Aside0.mk gb28
             have GG28 := Aside0.mk HG28
             clear gb28 gl28 HG28
             (first | simp only [add_plain] at hx168_0 | skip)
             obtain ⟨hx28_0, hf28_0⟩ := Kd.R_celln 0 HO_3.out ((ji22) : Int) p28 q28
             replace p28 := eq_true p28
             replace q28 := eq_true q28
             have HP30 := Kd.R_putg HO_3.out ((ji22) : Int) (Go.bits .or .u8 (rd x3_1 (ji22)) (ji27))
             go_wp2_with (first | ((with_reducible refine gate_store (t := 5) (p := 37) rfl ?_); refine store_event (t := 5) (p := 37) (v := ?vo_w31) (w1 := (wr.setCell ⟨go28, ((ji22) : Int).toNat, none⟩ (.int .u8 (Go.bits .or .u8 (rd x3_1 (ji22)) (ji27))))) ?hg ?ho ?hn ?hr ?_; (case ho => rfl); (case hg => rfl); (case hn => rfl); (case hr => first | (go_simp; done) | (go_simp; rfl)); intro w31 hw; have hg : wr.grownBy w31 (some go28) := (by rw [hw]; exact HP30.2); have hp_ : Kd.R (Kd.int .u8) 5 w31 w.heap.size (fun _ => True) (.slice (some ⟨go28, 0, none⟩) x3_1.length co29) y169 := (by rw [hw, Ny169.out]; exact HP30.1); clear HP30; have n0_ := Aside0.mk (hp_); have n1_ := Aside0.mk ((by rw [hw]; exact below_set (HB.out) GB28.out : Below w.heap.size w w31)); clear HO_3; clear HB; have HO_3 := n0_; have HB := n1_; clear n0_ n1_; clear hg hw hp_))
             go_roundg k1
             case measure => have := HK1.out; omega
             case rel => exact ⟨(y169), (wrap64 (x4_1 + 1)), (by first | rfl | (simp; done) | (simp [*]; done)), H', ⟨by have := HK1.out; omega⟩, ⟨by (with_reducible repeat (first | apply Kd.R_alloc | apply Kd.R_drewN | apply Kd.R_drew)); exact HO_3.out⟩, ⟨by repeat (first | (with_reducible first | exact HB.out | apply below_alloc | apply pw_below_drewN | apply below_drew1) | exact HB.out)⟩⟩
            ·rw [if_neg c26] at H
             exact absurd H (by simp)
           ·rw [if_neg c24] at H
            exact absurd H (by simp)
          ·rw [if_neg c23] at H
           exact absurd H (by simp)
         ·rw [if_neg c21] at H
          have c21b0 : ((rd l0 x4_1) == 1) = false := beq_eq_false_iff_ne.mpr c21
          have c21b1 : ((rd l0 x4_1) != 1) = true := bne_iff_ne.mpr c21
          have H' := Aside0.mk H
          clear H
          have p167 : 0 ≤ (x4_1 : Int) := of_decide_eq_true (by first | (with_reducible assumption) | assumption)
          have q167 : x4_1 < (l0.length : Int) := of_decide_eq_true (by first | (with_reducible assumption) | assumption)
          obtain ⟨ad167, e167, hx167_0⟩ := Kd.at_int HR0.out x4_1 p167 q167
          cases e167
          replace hx167_0 := (HB.out.cell (World.block_lt_of_cell? w _ hx167_0)).trans hx167_0
          replace p167 := eq_true p167
          replace q167 := eq_true q167
          go_wp2
          go_roundg k1
          case measure => have := HK1.out; omega
          case rel => exact ⟨(x3_1), (wrap64 (x4_1 + 1)), (by first | rfl | (simp; done) | (simp [*]; done)), H', ⟨by have := HK1.out; omega⟩, ⟨by (with_reducible repeat (first | apply Kd.R_alloc | apply Kd.R_drewN | apply Kd.R_drew)); exact HO_3.out⟩, ⟨by repeat (first | (with_reducible first | exact HB.out | apply below_alloc | apply pw_below_drewN | apply below_drew1) | exact HB.out)⟩⟩
        ·rw [if_neg c20] at H
         exact absurd H (by simp)
       ·rw [if_neg c19] at H
        exact absurd H (by simp)
     ·rw [if_neg c7] at H
      have c7b0 : decide (x4_1 ≤ (l0.length : Int)) = false := decide_eq_false c7
      clear c7
      obtain rfl := Option.some.inj H
      go_wp2
      go_ret
      exact ⟨_, by first | rfl | (simp [errW_none, errW_some] <;> rfl) | (simp only [← hji2]; first | rfl | (simp [errW_none, errW_some] <;> rfl)) | (simp [*, errW_none, errW_some] <;> rfl), by (with_reducible repeat (first | apply Kd.R_alloc | apply Kd.R_drewN | apply Kd.R_drew)); exact HO_3.out, by repeat (first | (with_reducible first | exact HB.out | apply below_alloc | apply pw_below_drewN | apply below_drew1) | exact HB.out)⟩
  ·rw [if_neg c4] at H
   exact absurd H (by simp)
 ·rw [if_neg c3] at H
  exact absurd H (by simp)

end Go.Proofs.Ytdndhbfagoghfaa.P
