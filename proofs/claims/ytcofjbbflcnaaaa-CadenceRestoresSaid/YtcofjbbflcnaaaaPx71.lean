-- Written by this session's own program (wip/tools/myprint.py), which runs the kit's print with turns of its own: not a text of the kit's print.sh.
import Derived.Test.YtcofjbbflcnaaaaPx0
import Derived.Test.YtcofjbbflcnaaaaPx58
import Derived.Test.YtcofjbbflcnaaaaPar
import Derived.Test.YtcofjbbflcnaaaaWvA
import Derived.Test.YtcofjbbflcnaaaaAbb
namespace Go.Proofs.Ytcofjbbflcnaaaa.P
open Go.RowKit Go.Proofs.YtcofjbbflcnaaaaW.PrintWords Go.Proofs.YtcofjbbflcnaaaaW.PrintLast Go.Proofs.YtcofjbbflcnaaaaW.PrintMore
open List renaming setIfInBounds_toArray → sA, set_cons_zero → sZ, set_cons_succ → sS
open Bool renaming true → T', false → F'
open Go.Proofs.YtcofjbbflcnaaaaW.PrintWords renaming below_alloc → zA, pw_below_drewN → zN, below_drew1 → zD, blk_drewN → yN, blk_drew → yD, blk_alloc → yA, below_size → zS, below_step → zT, blk_below → yB, below_set → zP, cell_far → xF, add_block → xB, gate_callee → xC, gate_dst → xD
attribute [local go_sem] max2_int min2_int max_two min_two max_three min_three max_four min_four   -- for this text's walks alone
set_option linter.unusedVariables false
set_option linter.unusedSimpArgs false

/-! ### cutroomfilm_Tape_Image: function 70 -/
mutual
def cutroomfilm_Tape_Image.l0 : Nat → Int → Int → Int → Int → Int → List Int → Int → Int → Int → List Int → List Int → List Int → Option (Int × Int × List Int × List Int × List Int × Int)
 | 0, _, _, _, _, _, _, _, _, _, _, _, _ => none
 | k + 1, x1, x8, x9, x10, x11, x1000, x1001, x172000, x172001, x172002, x172003, x172004 => if x11 < (x172002.length : Int) then (if x1 = 0 then (none) else (if 0 ≤ x11 then (cutroomfilm_Tape_Image.l0 k x1 x8 x9 x10 (wrap64 (x11 + 1)) x1000 x1001 x172000 x172001 (x172002.set (x11 : Int).toNat ((wrap64 ((wrap64 (x8 + (wrap64 ((Int.tmod x11 x1) * x9)))) + (wrap64 ((wrap64 (Int.tdiv x11 x1)) * x10)))) % 256)) x172003 x172004) else (none))) else (cutroomfilm_Tape_Image.l1 k x8 x9 x10 0 x1000 x1001 x172000 x172001 x172002 x172003 x172004)
def cutroomfilm_Tape_Image.l1 : Nat → Int → Int → Int → Int → List Int → Int → Int → Int → List Int → List Int → List Int → Option (Int × Int × List Int × List Int × List Int × Int)
 | 0, _, _, _, _, _, _, _, _, _, _, _ => none
 | k + 1, x8, x9, x10, x12, x1000, x1001, x172000, x172001, x172002, x172003, x172004 => if x12 < (x172003.length : Int) then (if 0 ≤ x12 then (if x12 < (x172004.length : Int) then (cutroomfilm_Tape_Image.l1 k x8 x9 x10 (wrap64 (x12 + 1)) x1000 x1001 x172000 x172001 x172002 (x172003.set (x12 : Int).toNat ((wrap64 ((wrap64 (128 + (wrap64 (Int.tdiv x8 4)))) + (wrap64 ((Int.tmod x12 7) * x10)))) % 256)) (x172004.set (x12 : Int).toNat ((wrap64 ((wrap64 (128 - (wrap64 (Int.tdiv x8 4)))) + (wrap64 ((Int.tmod x12 5) * x9)))) % 256))) else (none)) else (none)) else ((cutroomfilm_Tape_Next.f x1000 x1001 5).bind fun bt181 => (cutroomfilm_Tape_Image.l2 k bt181.1 x1000 bt181.2 x172000 x172001 x172002 x172003 x172004))
def cutroomfilm_Tape_Image.l2 : Nat → Int → List Int → Int → Int → Int → List Int → List Int → List Int → Option (Int × Int × List Int × List Int × List Int × Int)
 | 0, _, _, _, _, _, _, _, _ => none
 | k + 1, x13, x1000, x1001, x172000, x172001, x172002, x172003, x172004 => if x13 > 0 then ((cutroomfilm_Tape_Next.f x1000 x1001 (x172002.length : Int)).bind fun bt183 => ((cutroomfilm_Tape_Next.f x1000 bt183.2 256).bind fun bt185 => (if 0 ≤ bt183.1 then (if bt183.1 < (x172002.length : Int) then (cutroomfilm_Tape_Image.l2 k (wrap64 (x13 - 1)) x1000 bt185.2 x172000 x172001 (x172002.set (bt183.1 : Int).toNat ((bt185.1) % 256)) x172003 x172004) else (none)) else (none)))) else (some (x172000, x172001, x172002, x172003, x172004, x1001))
end
def cutroomfilm_Tape_Image.f (k : Nat) (s0_0 : List Int) (s0_1 : Int) (a1 : Int) (a2 : Int) : Option (Int × Int × List Int × List Int × List Int × Int) := if 0 ≤ (wrap64 (a1 * a2)) then (if (wrap64 (a1 * a2) : Int).toNat ≤ 281474976710656 then (if 0 ≤ (wrap64 (Int.tdiv (wrap64 (a1 * a2)) 4)) then (if (wrap64 (Int.tdiv (wrap64 (a1 * a2)) 4) : Int).toNat ≤ 281474976710656 then ((cutroomfilm_Tape_Next.f s0_0 s0_1 256).bind fun bt172 => ((cutroomfilm_Tape_Next.f s0_0 bt172.2 17).bind fun bt174 => ((cutroomfilm_Tape_Next.f s0_0 bt174.2 9).bind fun bt176 => (cutroomfilm_Tape_Image.l0 k a1 bt172.1 bt174.1 bt176.1 0 s0_0 bt176.2 a1 a2 (List.replicate (wrap64 (a1 * a2) : Int).toNat 0) (List.replicate (wrap64 (Int.tdiv (wrap64 (a1 * a2)) 4) : Int).toNat 0) (List.replicate (wrap64 (Int.tdiv (wrap64 (a1 * a2)) 4) : Int).toNat 0))))) else (none)) else (none)) else (none)) else (none)
theorem cutroomfilm_Tape_Image.mono_l : ∀ k, (∀ y0 y1 y2 y3 y4 y5 y6 y7 y8 y9 y10 y11, LeO (cutroomfilm_Tape_Image.l0 k y0 y1 y2 y3 y4 y5 y6 y7 y8 y9 y10 y11) (cutroomfilm_Tape_Image.l0 (k + 1) y0 y1 y2 y3 y4 y5 y6 y7 y8 y9 y10 y11)) ∧ (∀ y0 y1 y2 y3 y4 y5 y6 y7 y8 y9 y10, LeO (cutroomfilm_Tape_Image.l1 k y0 y1 y2 y3 y4 y5 y6 y7 y8 y9 y10) (cutroomfilm_Tape_Image.l1 (k + 1) y0 y1 y2 y3 y4 y5 y6 y7 y8 y9 y10)) ∧ (∀ y0 y1 y2 y3 y4 y5 y6 y7, LeO (cutroomfilm_Tape_Image.l2 k y0 y1 y2 y3 y4 y5 y6 y7) (cutroomfilm_Tape_Image.l2 (k + 1) y0 y1 y2 y3 y4 y5 y6 y7))
 | 0 => ⟨fun _ _ _ _ _ _ _ _ _ _ _ _ r h => by simp [cutroomfilm_Tape_Image.l0] at h, fun _ _ _ _ _ _ _ _ _ _ _ r h => by simp [cutroomfilm_Tape_Image.l1] at h, fun _ _ _ _ _ _ _ _ r h => by simp [cutroomfilm_Tape_Image.l2] at h⟩
 | k + 1 => by
  obtain ⟨ih0, ih1, ih2⟩ := cutroomfilm_Tape_Image.mono_l k
  refine ⟨?_, ?_, ?_⟩
  ·intro y0 y1 y2 y3 y4 y5 y6 y7 y8 y9 y10 y11
   unfold cutroomfilm_Tape_Image.l0
   repeat' first
   | (with_reducible exact ih0 _ _ _ _ _ _ _ _ _ _ _ _)
   | (with_reducible exact ih1 _ _ _ _ _ _ _ _ _ _ _)
   | (with_reducible exact ih2 _ _ _ _ _ _ _ _)
   | (with_reducible exact LeO.refl _)
   | (with_reducible exact LeO.none _)
   | (with_reducible refine LeO.ite ?_ ?_)
   | (with_reducible refine LeO.bind ?_ (fun _ => ?_))
   | exact ih0 _ _ _ _ _ _ _ _ _ _ _ _
   | exact ih1 _ _ _ _ _ _ _ _ _ _ _
   | exact ih2 _ _ _ _ _ _ _ _
   | exact LeO.none _
   | refine LeO.ite ?_ ?_
   | refine LeO.bind ?_ (fun _ => ?_)
  ·intro y0 y1 y2 y3 y4 y5 y6 y7 y8 y9 y10
   unfold cutroomfilm_Tape_Image.l1
   repeat' first
   | (with_reducible exact ih0 _ _ _ _ _ _ _ _ _ _ _ _)
   | (with_reducible exact ih1 _ _ _ _ _ _ _ _ _ _ _)
   | (with_reducible exact ih2 _ _ _ _ _ _ _ _)
   | (with_reducible exact LeO.refl _)
   | (with_reducible exact LeO.none _)
   | (with_reducible refine LeO.ite ?_ ?_)
   | (with_reducible refine LeO.bind ?_ (fun _ => ?_))
   | exact ih0 _ _ _ _ _ _ _ _ _ _ _ _
   | exact ih1 _ _ _ _ _ _ _ _ _ _ _
   | exact ih2 _ _ _ _ _ _ _ _
   | exact LeO.none _
   | refine LeO.ite ?_ ?_
   | refine LeO.bind ?_ (fun _ => ?_)
  ·intro y0 y1 y2 y3 y4 y5 y6 y7
   unfold cutroomfilm_Tape_Image.l2
   repeat' first
   | (with_reducible exact ih0 _ _ _ _ _ _ _ _ _ _ _ _)
   | (with_reducible exact ih1 _ _ _ _ _ _ _ _ _ _ _)
   | (with_reducible exact ih2 _ _ _ _ _ _ _ _)
   | (with_reducible exact LeO.refl _)
   | (with_reducible exact LeO.none _)
   | (with_reducible refine LeO.ite ?_ ?_)
   | (with_reducible refine LeO.bind ?_ (fun _ => ?_))
   | exact ih0 _ _ _ _ _ _ _ _ _ _ _ _
   | exact ih1 _ _ _ _ _ _ _ _ _ _ _
   | exact ih2 _ _ _ _ _ _ _ _
   | exact LeO.none _
   | refine LeO.ite ?_ ?_
   | refine LeO.bind ?_ (fun _ => ?_)
theorem cutroomfilm_Tape_Image.mono : ∀ a0 a1 a2 a3 k, LeO (cutroomfilm_Tape_Image.f k a0 a1 a2 a3) (cutroomfilm_Tape_Image.f (k + 1) a0 a1 a2 a3) := by
 intro a0 a1 a2 a3 k
 obtain ⟨ih0, ih1, ih2⟩ := cutroomfilm_Tape_Image.mono_l k
 unfold cutroomfilm_Tape_Image.f
 repeat' first
   | (with_reducible exact ih0 _ _ _ _ _ _ _ _ _ _ _ _)
   | (with_reducible exact ih1 _ _ _ _ _ _ _ _ _ _ _)
   | (with_reducible exact ih2 _ _ _ _ _ _ _ _)
   | (with_reducible exact LeO.refl _)
   | (with_reducible exact LeO.none _)
   | (with_reducible refine LeO.ite ?_ ?_)
   | (with_reducible refine LeO.bind ?_ (fun _ => ?_))
   | exact ih0 _ _ _ _ _ _ _ _ _ _ _ _
   | exact ih1 _ _ _ _ _ _ _ _ _ _ _
   | exact ih2 _ _ _ _ _ _ _ _
   | exact LeO.none _
   | refine LeO.ite ?_ ?_
   | refine LeO.bind ?_ (fun _ => ?_)
def cutroomfilm_Tape_Image.T1 : Bool × List (List Nat × List Nat) := (true, [([], []), ([], []), ([], []), ([], []), ([2, 3], [2, 3]), ([4, 4], [4]), ([], []), ([], []), ([6, 7], [6, 7]), ([8], [8]), ([9, 9], [9]), ([], []), ([], []), ([11, 12], [11, 12]), ([13], [13]), ([14, 14], [14]), ([0, 1, 5, 10, 15], [0, 1, 5, 10, 15]), ([], []), ([17, 16, 0, 1, 2, 3, 4, 5, 6, 7, 8, 9, 10, 11, 12, 13, 14, 15, 16, 17], [16, 17])])
def cutroomfilm_Tape_Image.B1 : List Nat := [0, 0, 0, 0, 12, 28, 0, 0, 192, 448, 960, 0, 0, 6144, 14336, 30720, 65535, 0, 262143]
theorem cutroomfilm_Tape_Image.tab1 : rtab .any (opsOf Try.f70 1) = cutroomfilm_Tape_Image.T1 := by kernel_rfl
theorem cutroomfilm_Tape_Image.bits1 : waitsOk cutroomfilm_Tape_Image.T1.2 cutroomfilm_Tape_Image.B1 = true := by kernel_rfl
def cutroomfilm_Tape_Image.T6 : Bool × List (List Nat × List Nat) := (true, [([], []), ([0], [0]), ([], []), ([], []), ([], []), ([], []), ([4, 5], [4, 5]), ([], []), ([6, 7], [6, 7]), ([3, 8], [3, 8]), ([], []), ([], []), ([10, 11], [10, 11]), ([], []), ([12, 13], [12, 13]), ([9, 14], [9, 14]), ([15], [15]), ([1, 2, 0, 1, 2, 3, 4, 5, 6, 7, 8, 9, 10, 11, 12, 13, 14, 15, 16], [1, 2]), ([17, 16, 0, 1, 2, 3, 4, 5, 6, 7, 8, 9, 10, 11, 12, 13, 14, 15, 16], [16, 17])])
def cutroomfilm_Tape_Image.B6 : List Nat := [0, 1, 0, 0, 0, 0, 48, 0, 240, 504, 0, 0, 3072, 0, 15360, 32760, 65528, 131071, 262143]
theorem cutroomfilm_Tape_Image.tab6 : rtab .any (opsOf Try.f70 6) = cutroomfilm_Tape_Image.T6 := by kernel_rfl
theorem cutroomfilm_Tape_Image.bits6 : waitsOk cutroomfilm_Tape_Image.T6.2 cutroomfilm_Tape_Image.B6 = true := by kernel_rfl
def cutroomfilm_Tape_Image.T15 : Bool × List (List Nat × List Nat) := (true, [([], []), ([0], [0]), ([], []), ([], []), ([3], [3]), ([4], [4]), ([2, 5], [2, 5]), ([], []), ([7, 6], [7]), ([8], [8]), ([1, 6, 0, 1, 2, 3, 4, 5, 6, 7, 8, 9], [1, 6]), ([10, 9, 8, 0, 1, 2, 3, 4, 5, 6, 7, 8, 9], [9, 10])])
def cutroomfilm_Tape_Image.B15 : List Nat := [0, 1, 0, 0, 8, 24, 60, 0, 252, 508, 1023, 2047]
theorem cutroomfilm_Tape_Image.tab15 : rtab .any (opsOf Try.f70 15) = cutroomfilm_Tape_Image.T15 := by kernel_rfl
theorem cutroomfilm_Tape_Image.bits15 : waitsOk cutroomfilm_Tape_Image.T15.2 cutroomfilm_Tape_Image.B15 = true := by kernel_rfl
set_option maxHeartbeats 8000000 in
set_option maxRecDepth 100000 in
theorem cutroomfilm_Tape_Image.calls (k : Nat) (g : Nat) (s0_0 : List Int) (s0_1 : Int) (a1 : Int) (a2 : Int) (r1 : Int) (r2 : Int) (r3 : List Int) (r4 : List Int) (r5 : List Int) (r6 : Int) (w0 w : World) (hI : IsS72 w0 w g s0_0 s0_1) (hB : Below w0.heap.size w0 w) (h : cutroomfilm_Tape_Image.f k s0_0 s0_1 a1 a2 = some (r1, r2, r3, r4, r5, r6)) :
  Calls Try.prog 70 #[.pointer (some ⟨g, 0, none⟩), .int .i64 a1, .int .i64 a2] w fun e w' => ∃ v2_ v3_ v4_ : Value, e = .returned (.agg #[.int .i64 r1, .int .i64 r2, v2_, v3_, v4_]) ∧ Kd.R (Kd.int .u8) 5 w' w.heap.size (fun k_ => some k_ ≠ (v3_ : Value).ownBlock ∧ some k_ ≠ (v4_ : Value).ownBlock) v2_ r3 ∧ Kd.R (Kd.int .u8) 5 w' w.heap.size (fun k_ => some k_ ≠ (v2_ : Value).ownBlock ∧ some k_ ≠ (v4_ : Value).ownBlock) v3_ r4 ∧ Kd.R (Kd.int .u8) 5 w' w.heap.size (fun k_ => some k_ ≠ (v2_ : Value).ownBlock ∧ some k_ ≠ (v3_ : Value).ownBlock) v4_ r5 ∧ IsS72 w0 w' g s0_0 r6 ∧ Below w0.heap.size w0 w' ∧ KeepBut w w' g none := by
 have hu52 := Try.underlying52
 have HI0 := Aside0.mk hI
 have HK := Aside0.mk (KeepBut.refl w g none)
 have HL := Aside0.mk hB.size
 clear hI
 have HW0 := Aside0.mk hB.size
 have HB := Aside0.mk hB
 clear hB
 have H : (if 0 ≤ (wrap64 (a1 * a2)) then (if (wrap64 (a1 * a2) : Int).toNat ≤ 281474976710656 then (if 0 ≤ (wrap64 (Int.tdiv (wrap64 (a1 * a2)) 4)) then (if (wrap64 (Int.tdiv (wrap64 (a1 * a2)) 4) : Int).toNat ≤ 281474976710656 then ((cutroomfilm_Tape_Next.f s0_0 s0_1 256).bind fun bt172 => ((cutroomfilm_Tape_Next.f s0_0 bt172.2 17).bind fun bt174 => ((cutroomfilm_Tape_Next.f s0_0 bt174.2 9).bind fun bt176 => (cutroomfilm_Tape_Image.l0 k a1 bt172.1 bt174.1 bt176.1 0 s0_0 bt176.2 a1 a2 (List.replicate (wrap64 (a1 * a2) : Int).toNat 0) (List.replicate (wrap64 (Int.tdiv (wrap64 (a1 * a2)) 4) : Int).toNat 0) (List.replicate (wrap64 (Int.tdiv (wrap64 (a1 * a2)) 4) : Int).toNat 0))))) else (none)) else (none)) else (none)) else (none)) = some (r1, r2, r3, r4, r5, r6) := h
 clear h
 obtain ⟨ji4, hji4⟩ : ∃ j_ : Int, (wrap64 (a1 * a2)) = j_ := ⟨_, rfl⟩
 replace H : (if 0 ≤ (ji4) then (if (ji4 : Int).toNat ≤ 281474976710656 then (if 0 ≤ (wrap64 (Int.tdiv (ji4) 4)) then (if (wrap64 (Int.tdiv (ji4) 4) : Int).toNat ≤ 281474976710656 then ((cutroomfilm_Tape_Next.f s0_0 s0_1 256).bind fun bt172 => ((cutroomfilm_Tape_Next.f s0_0 bt172.2 17).bind fun bt174 => ((cutroomfilm_Tape_Next.f s0_0 bt174.2 9).bind fun bt176 => (cutroomfilm_Tape_Image.l0 k a1 bt172.1 bt174.1 bt176.1 0 s0_0 bt176.2 a1 a2 (List.replicate (ji4 : Int).toNat 0) (List.replicate (wrap64 (Int.tdiv (ji4) 4) : Int).toNat 0) (List.replicate (wrap64 (Int.tdiv (ji4) 4) : Int).toNat 0))))) else (none)) else (none)) else (none)) else (none)) = some (r1, r2, r3, r4, r5, r6) := by first | (rw [hji4] at H; exact H) | (simp only [hji4] at H ⊢; exact H)
 have hji4w : (IntKind.i64.wrap (a1 * a2)) = ji4 := (i64_w _).trans hji4
 by_cases c5 : 0 ≤ (ji4)
 ·rw [if_pos c5] at H
  have c5b0 := eq_true c5
  have c5b1 : decide (0 ≤ (ji4)) = true := decide_eq_true c5
  clear c5
  by_cases c6 : (ji4 : Int).toNat ≤ 281474976710656
  ·rw [if_pos c6] at H
   have c6b0 := eq_true c6
   have c6b1 : decide ((ji4 : Int).toNat ≤ 281474976710656) = true := decide_eq_true c6
   clear c6
   obtain ⟨y162, hy162⟩ : ∃ y_ : List Int, y_ = (List.replicate (ji4 : Int).toNat 0) := ⟨_, rfl⟩
   replace H : (if 0 ≤ (wrap64 (Int.tdiv (ji4) 4)) then (if (wrap64 (Int.tdiv (ji4) 4) : Int).toNat ≤ 281474976710656 then ((cutroomfilm_Tape_Next.f s0_0 s0_1 256).bind fun bt172 => ((cutroomfilm_Tape_Next.f s0_0 bt172.2 17).bind fun bt174 => ((cutroomfilm_Tape_Next.f s0_0 bt174.2 9).bind fun bt176 => (cutroomfilm_Tape_Image.l0 k a1 bt172.1 bt174.1 bt176.1 0 s0_0 bt176.2 a1 a2 y162 (List.replicate (wrap64 (Int.tdiv (ji4) 4) : Int).toNat 0) (List.replicate (wrap64 (Int.tdiv (ji4) 4) : Int).toNat 0))))) else (none)) else (none)) = some (r1, r2, r3, r4, r5, r6) := by first | (rw [hy162]; with_reducible exact H) | (have H2_ := (Option.bind_some _ _).symm.trans H; rw [hy162]; with_reducible exact H2_) | (have H2_ := (Option.bind_some _ _).symm.trans H; with_reducible exact H2_) | with_reducible exact H | (rw [hy162]; exact H) | exact H
   have Ny162 := Aside0.mk hy162
   clear hy162
   obtain ⟨ji7, hji7⟩ : ∃ j_ : Int, (wrap64 (Int.tdiv (ji4) 4)) = j_ := ⟨_, rfl⟩
   replace H : (if 0 ≤ (ji7) then (if (ji7 : Int).toNat ≤ 281474976710656 then ((cutroomfilm_Tape_Next.f s0_0 s0_1 256).bind fun bt172 => ((cutroomfilm_Tape_Next.f s0_0 bt172.2 17).bind fun bt174 => ((cutroomfilm_Tape_Next.f s0_0 bt174.2 9).bind fun bt176 => (cutroomfilm_Tape_Image.l0 k a1 bt172.1 bt174.1 bt176.1 0 s0_0 bt176.2 a1 a2 y162 (List.replicate (ji7 : Int).toNat 0) (List.replicate (ji7 : Int).toNat 0))))) else (none)) else (none)) = some (r1, r2, r3, r4, r5, r6) := by first | (rw [hji7] at H; exact H) | (simp only [hji7] at H ⊢; exact H)
   have hji7w : (IntKind.i64.wrap (Int.tdiv (ji4) 4)) = ji7 := (i64_w _).trans hji7
   by_cases c8 : 0 ≤ (ji7)
   ·rw [if_pos c8] at H
    have c8b0 := eq_true c8
    have c8b1 : decide (0 ≤ (ji7)) = true := decide_eq_true c8
    clear c8
    by_cases c9 : (ji7 : Int).toNat ≤ 281474976710656
    ·rw [if_pos c9] at H
     have c9b0 := eq_true c9
     have c9b1 : decide ((ji7 : Int).toNat ≤ 281474976710656) = true := decide_eq_true c9
     clear c9
     obtain ⟨y165, hy165⟩ : ∃ y_ : List Int, y_ = (List.replicate (ji7 : Int).toNat 0) := ⟨_, rfl⟩
     replace H : ((cutroomfilm_Tape_Next.f s0_0 s0_1 256).bind fun bt172 => ((cutroomfilm_Tape_Next.f s0_0 bt172.2 17).bind fun bt174 => ((cutroomfilm_Tape_Next.f s0_0 bt174.2 9).bind fun bt176 => (cutroomfilm_Tape_Image.l0 k a1 bt172.1 bt174.1 bt176.1 0 s0_0 bt176.2 a1 a2 y162 y165 (List.replicate (ji7 : Int).toNat 0))))) = some (r1, r2, r3, r4, r5, r6) := by first | (rw [hy165]; with_reducible exact H) | (have H2_ := (Option.bind_some _ _).symm.trans H; rw [hy165]; with_reducible exact H2_) | (have H2_ := (Option.bind_some _ _).symm.trans H; with_reducible exact H2_) | with_reducible exact H | (rw [hy165]; exact H) | exact H
     have Ny165 := Aside0.mk hy165
     clear hy165
     obtain ⟨y168, hy168⟩ : ∃ y_ : List Int, y_ = (List.replicate (ji7 : Int).toNat 0) := ⟨_, rfl⟩
     replace H : ((cutroomfilm_Tape_Next.f s0_0 s0_1 256).bind fun bt172 => ((cutroomfilm_Tape_Next.f s0_0 bt172.2 17).bind fun bt174 => ((cutroomfilm_Tape_Next.f s0_0 bt174.2 9).bind fun bt176 => (cutroomfilm_Tape_Image.l0 k a1 bt172.1 bt174.1 bt176.1 0 s0_0 bt176.2 a1 a2 y162 y165 y168)))) = some (r1, r2, r3, r4, r5, r6) := by first | (rw [hy168]; with_reducible exact H) | (have H2_ := (Option.bind_some _ _).symm.trans H; rw [hy168]; with_reducible exact H2_) | (have H2_ := (Option.bind_some _ _).symm.trans H; with_reducible exact H2_) | with_reducible exact H | (rw [hy168]; exact H) | exact H
     have Ny168 := Aside0.mk hy168
     clear hy168
     replace H := Option.bind_eq_some_iff.mp H
     obtain ⟨⟨t172, t173⟩, A100, H⟩ := H
     replace H : ((cutroomfilm_Tape_Next.f s0_0 t173 17).bind fun bt174 => ((cutroomfilm_Tape_Next.f s0_0 bt174.2 9).bind fun bt176 => (cutroomfilm_Tape_Image.l0 k a1 t172 bt174.1 bt176.1 0 s0_0 bt176.2 a1 a2 y162 y165 y168))) = some (r1, r2, r3, r4, r5, r6) := H
     have A10 := Aside0.mk A100
     clear A100
     replace H := Option.bind_eq_some_iff.mp H
     obtain ⟨⟨t174, t175⟩, A110, H⟩ := H
     replace H : ((cutroomfilm_Tape_Next.f s0_0 t175 9).bind fun bt176 => (cutroomfilm_Tape_Image.l0 k a1 t172 t174 bt176.1 0 s0_0 bt176.2 a1 a2 y162 y165 y168)) = some (r1, r2, r3, r4, r5, r6) := H
     have A11 := Aside0.mk A110
     clear A110
     replace H := Option.bind_eq_some_iff.mp H
     obtain ⟨⟨t176, t177⟩, A120, H⟩ := H
     replace H : (cutroomfilm_Tape_Image.l0 k a1 t172 t174 t176 0 s0_0 t177 a1 a2 y162 y165 y168) = some (r1, r2, r3, r4, r5, r6) := H
     have A12 := Aside0.mk A120
     clear A120
     have H' := Aside0.mk H
     clear H
     go_enter Try.func70, Try.ntmps70
     try go_wp2_with (first | ((with_reducible refine xD (N := 6) rfl ?_); refine box_event ?hg (N := 6) ?hd (cs := #[.int .i64 0, .int .i64 0, .slice none 0 0, .slice none 0 0, .slice none 0 0]) (t := 52) ?hr ?_; (case hd => rfl); (case hg => rfl); (case hr => first | (go_simp; done) | (go_simp; rfl)); intro gb161 hg w13 hbox hb; have n0_ := Aside0.mk (IsS72.below (by repeat (first | (with_reducible first | exact HI0.out | apply IsS72.alloc | apply IsS72.drewN | apply IsS72.drew | apply IsS72.set_1) | exact HI0.out)) hb); have n1_ := Aside0.mk (KeepBut.trans (by repeat (first | (with_reducible first | exact HK.out | apply KeepBut.set_ | apply keep_drewN | apply keep_drew | apply keep_alloc) | exact HK.out)) (KeepBut.of_below hb g none) (.inl rfl)); have n2_ := Aside0.mk (zT (by repeat (first | (with_reducible first | exact HB.out | apply zA | apply zN | apply zD | refine zP ?_ (IsS72.ge HI0.out)) | exact HB.out)) hb); have n3_ := Aside0.mk (hbox); have n4_ := Aside0.mk ((by rw [hg]; exact (keep_size (w := w) (g := g) (row := none) (by repeat (first | (with_reducible first | exact HK.out | apply KeepBut.set_ | apply keep_drewN | apply keep_drew | apply keep_alloc) | exact HK.out))) : w.heap.size ≤ gb161)); have n5_ := Aside0.mk ((Nat.le_trans HW0.out (by rw [hg]; exact (keep_size (w := w) (g := g) (row := none) (by repeat (first | (with_reducible first | exact HK.out | apply KeepBut.set_ | apply keep_drewN | apply keep_drew | apply keep_alloc) | exact HK.out))) : w.heap.size ≤ gb161) : w0.heap.size ≤ gb161)); have n6_ := Aside0.mk ((by rw [hg]; exact Nat.ne_of_lt (IsS72.lt (show IsS72 w0 _ g s0_0 s0_1 from by repeat (first | (with_reducible first | exact HI0.out | apply IsS72.alloc | apply IsS72.drewN | apply IsS72.drew | apply IsS72.set_1) | exact HI0.out))) : g ≠ gb161)); have n7_ := Aside0.mk ((by rw [hg]; exact Nat.ne_of_gt (IsS72.lt (show IsS72 w0 _ g s0_0 s0_1 from by repeat (first | (with_reducible first | exact HI0.out | apply IsS72.alloc | apply IsS72.drewN | apply IsS72.drew | apply IsS72.set_1) | exact HI0.out))) : gb161 ≠ g)); clear HI0; clear HK; clear HB; have HI0 := n0_; have HK := n1_; have HB := n2_; have BK161 := n3_; have GW161 := n4_; have GE161 := n5_; have NB0_161 := n6_; have NB161_0 := n7_; clear n0_ n1_ n2_ n3_ n4_ n5_ n6_ n7_; clear hb hbox hg))
     have n0_ := Aside0.mk (yD BK161.out)
     have n1_ := Aside0.mk (IsS72.drew HI0.out)
     have n2_ := Aside0.mk (keep_drew HK.out)
     have n3_ := Aside0.mk (zD HB.out)
     clear BK161
     clear HI0
     clear HK
     clear HB
     have BK161 := n0_
     have HI0 := n1_
     have HK := n2_
     have HB := n3_
     clear n0_ n1_ n2_ n3_
     refine start_ (n := 19) (S := fun w' => True) (ds := []) #[false, false, false, false, false, false, false, false, false, false, false, false, false, false, false, false, false, false, false] (by kernel_rfl) rfl rfl trivial (fun hHeld => ?_); refine with_tabW cutroomfilm_Tape_Image.tab1 cutroomfilm_Tape_Image.bits1 (fun HT_ HW_ => ?_)
     generalize w13.drew = w14 at BK161 HI0 HK HB hHeld ⊢
     refine Abb.pS 0 14 #[T', F', F', F', F', F', F', F', F', F', F', F', F', F', F', F', F', F', F'] HT_ ?_
     refine Abb.pS 1 15 #[T', T', F', F', F', F', F', F', F', F', F', F', F', F', F', F', F', F', F'] HT_ ?_
     refine Abb.pS 2 16 #[T', T', T', F', F', F', F', F', F', F', F', F', F', F', F', F', F', F', F'] HT_ ?_
     refine Abb.pS 3 17 #[T', T', T', T', F', F', F', F', F', F', F', F', F', F', F', F', F', F', F'] HT_ ?_
     refine Abb.pS 4 18 #[T', T', T', T', T', F', F', F', F', F', F', F', F', F', F', F', F', F', F'] HT_ ?_
     refine Abb.pS 6 20 #[T', T', T', T', T', F', T', F', F', F', F', F', F', F', F', F', F', F', F'] HT_ ?_
     refine Abb.pS 7 21 #[T', T', T', T', T', F', T', T', F', F', F', F', F', F', F', F', F', F', F'] HT_ ?_
     refine Abb.pS 8 22 #[T', T', T', T', T', F', T', T', T', F', F', F', F', F', F', F', F', F', F'] HT_ ?_
     refine Abb.pS 9 23 #[T', T', T', T', T', F', T', T', T', T', F', F', F', F', F', F', F', F', F'] HT_ ?_
     refine Abb.pS 11 25 #[T', T', T', T', T', F', T', T', T', T', F', T', F', F', F', F', F', F', F'] HT_ ?_
     refine Abb.pS 12 26 #[T', T', T', T', T', F', T', T', T', T', F', T', T', F', F', F', F', F', F'] HT_ ?_
     refine Abb.pS 13 27 #[T', T', T', T', T', F', T', T', T', T', F', T', T', T', F', F', F', F', F'] HT_ ?_
     refine Abb.pS 14 28 #[T', T', T', T', T', F', T', T', T', T', F', T', T', T', T', F', F', F', F'] HT_ ?_
     refine join_ (σ := Value × Value × Value × Nat) 1 #[true, true, true, true, true, true, true, true, true, true, true, true, true, true, true, true, true, true, false] (fun s_ => [(19, s_.1), (24, s_.2.1), (29, s_.2.2.1), (7, .pointer (some ⟨s_.2.2.2, 0, none⟩)), (30, .agg #[.int .i64 a1, .int .i64 a2, s_.1, s_.2.1, s_.2.2.1])]) (fun s_ w' => (Kd.R (Kd.int .u8) 5 w' w.heap.size (fun k_ => some k_ ≠ (s_.2.1 : Value).ownBlock ∧ some k_ ≠ (s_.2.2.1 : Value).ownBlock) s_.1 y162) ∧ (Kd.R (Kd.int .u8) 5 w' w.heap.size (fun k_ => some k_ ≠ (s_.1 : Value).ownBlock ∧ some k_ ≠ (s_.2.2.1 : Value).ownBlock) s_.2.1 y165) ∧ (Kd.R (Kd.int .u8) 5 w' w.heap.size (fun k_ => some k_ ≠ (s_.1 : Value).ownBlock ∧ some k_ ≠ (s_.2.1 : Value).ownBlock) s_.2.2.1 y168) ∧ (w'.heap[gb161]? = some (.cells #[.int .i64 0, .int .i64 0, .slice none 0 0, .slice none 0 0, .slice none 0 0] 52 (0, 0))) ∧ (w'.heap[s_.2.2.2]? = some (.cells #[.int .i64 0, .int .i64 0, .slice none 0 0, .slice none 0 0, .slice none 0 0] 52 (0, 0))) ∧ (w.heap.size ≤ s_.2.2.2) ∧ (w0.heap.size ≤ s_.2.2.2) ∧ (g ≠ s_.2.2.2) ∧ (s_.2.2.2 ≠ g) ∧ (gb161 ≠ s_.2.2.2) ∧ (s_.2.2.2 ≠ gb161) ∧ (IsS72 w0 w' g s0_0 s0_1) ∧ (KeepBut w w' g none) ∧ (Below w0.heap.size w0 w')) ?_ ?_
     rotate_left
     ·intro hJ
      have hsz : w.heap.size ≤ w14.heap.size := HK.out.1
      have hgl : g < w14.heap.size := IsS72.lt HI0.out
      have hbl : gb161 < w14.heap.size := blk_lt BK161.out
      have mk4 := wv_makeI ji4 (by first | exact of_eq_true c5b0 | exact of_decide_eq_true c5b1) (by first | exact of_eq_true c6b0 | exact of_decide_eq_true c6b1)
      have mk7 := wv_makeI ji7 (by first | exact of_eq_true c8b0 | exact of_decide_eq_true c8b1) (by first | exact of_eq_true c9b0 | exact of_decide_eq_true c9b1)
      have u4 : ji4.toNat ≤ 281474976710656 := (by first | exact of_eq_true c6b0 | exact of_decide_eq_true c6b1)
      have u7 : ji7.toNat ≤ 281474976710656 := (by first | exact of_eq_true c9b0 | exact of_decide_eq_true c9b1)
      have hGA : ∀ (W : World) (o : Obj), (IsS72 w0 W g s0_0 s0_1 ∧ W.heap[gb161]? = some (.cells #[.int .i64 0, .int .i64 0, .slice none 0 0, .slice none 0 0, .slice none 0 0] 52 (0, 0)) ∧ KeepBut w W g none ∧ Below w0.heap.size w0 W ∧ w14.heap.size ≤ W.heap.size) → (IsS72 w0 (W.alloc o) g s0_0 s0_1 ∧ (W.alloc o).heap[gb161]? = some (.cells #[.int .i64 0, .int .i64 0, .slice none 0 0, .slice none 0 0, .slice none 0 0] 52 (0, 0)) ∧ KeepBut w (W.alloc o) g none ∧ Below w0.heap.size w0 (W.alloc o) ∧ w14.heap.size ≤ (W.alloc o).heap.size) :=
       fun W o hG => ⟨IsS72.below hG.1 (zA (Below.refl _ _) o), yA hG.2.1 o, keep_alloc hG.2.2.1 o, zA hG.2.2.2.1 o, Nat.le_trans hG.2.2.2.2 (zA (Below.refl W.heap.size W) o).size⟩
      refine Par.four_par (i := 5) (j := 10) (k := 15) (m := 17) (fuel := 2) (fun b c d e => #[true, true, true, true, true, b, true, true, true, true, c, true, true, true, true, d, false, e, false]) (fun v5 v10 v15 v17 => { tmps := #[.pointer (some ⟨g, 0, none⟩), .int .i64 a1, .int .i64 a2, undef, undef, undef, .pointer (some ⟨gb161, 0, none⟩), v17, undef, undef, undef, undef, undef, undef, .int .i64 a1, .int .i64 a2, .int .i64 a1, .int .i64 a2, .int .i64 ji4, v5, .int .i64 a1, .int .i64 a2, .int .i64 ji4, .int .i64 ji7, v10, .int .i64 a1, .int .i64 a2, .int .i64 ji4, .int .i64 ji7, v15, undef, undef, undef, undef, undef, undef, undef, undef, undef, undef, undef, undef, undef, undef, undef, undef, undef, undef, undef, undef, undef, undef, undef, undef, undef, undef, undef, undef, undef, undef, undef, undef, undef, undef, undef, undef, undef, undef, undef, undef, undef, undef, undef, undef, undef, undef, undef, undef, undef, undef, undef, undef, undef, undef, undef, undef, undef, undef, undef, undef, undef, undef, undef, undef, undef, undef, undef, undef, undef, undef, undef, undef, undef, undef, undef, undef, undef, undef, undef, undef, undef, undef, undef], defers := [] }) (wvMade ji4.toNat w14.heap.size) (wvMade ji7.toNat w14.heap.size) (wvMade ji7.toNat w14.heap.size) (wvBoxed w14.heap.size) (fun W W1 => Below W.heap.size W W1) (fun W => IsS72 w0 W g s0_0 s0_1 ∧ W.heap[gb161]? = some (.cells #[.int .i64 0, .int .i64 0, .slice none 0 0, .slice none 0 0, .slice none 0 0] 52 (0, 0)) ∧ KeepBut w W g none ∧ Below w0.heap.size w0 W ∧ w14.heap.size ≤ W.heap.size) wvBlk rfl rfl rfl rfl (by decide) (by decide) (by decide) (by decide) ?_ (fun _ _ _ => rfl) (fun _ _ _ => rfl) (fun _ _ _ => rfl) (fun _ _ _ => rfl) (fun W W1 hb => ⟨fun _ h => h.below hb, fun _ h => h.below hb, fun _ h => h.below hb, fun _ h => h.below hb⟩) (fun W v => ⟨fun h => h.lt, fun h => h.lt, fun h => h.lt, fun h => h.lt⟩) (fun _ _ => trivial)
       (fun _ _ _ => by intro u W K hG hK; refine event_step (v := .slice (some ⟨W.heap.size, 0, none⟩) ji4.toNat ji4.toNat) (w1 := W.alloc (.cells (wvCells (List.replicate ji4.toNat 0)).toArray 5)) (by rfl) (by first | (go_simp; done) | (go_simp; rfl)) ?_; exact hK.out _ _ (zA (Below.refl _ _) _) (hGA W _ hG) ⟨_, rfl, hG.2.2.2.2, blk_new _ _⟩ (Nat.le_refl _))
       (fun _ _ _ => by intro u W K hG hK; refine event_step (v := .slice (some ⟨W.heap.size, 0, none⟩) ji7.toNat ji7.toNat) (w1 := W.alloc (.cells (wvCells (List.replicate ji7.toNat 0)).toArray 5)) (by rfl) (by first | (go_simp; done) | (go_simp; rfl)) ?_; exact hK.out _ _ (zA (Below.refl _ _) _) (hGA W _ hG) ⟨_, rfl, hG.2.2.2.2, blk_new _ _⟩ (Nat.le_refl _))
       (fun _ _ _ => by intro u W K hG hK; refine event_step (v := .slice (some ⟨W.heap.size, 0, none⟩) ji7.toNat ji7.toNat) (w1 := W.alloc (.cells (wvCells (List.replicate ji7.toNat 0)).toArray 5)) (by rfl) (by first | (go_simp; done) | (go_simp; rfl)) ?_; exact hK.out _ _ (zA (Below.refl _ _) _) (hGA W _ hG) ⟨_, rfl, hG.2.2.2.2, blk_new _ _⟩ (Nat.le_refl _))
       (fun _ _ _ => by intro u W K hG hK; refine event_step (v := .pointer (some ⟨W.heap.size, 0, none⟩)) (w1 := W.alloc (.cells #[.int .i64 0, .int .i64 0, .slice none 0 0, .slice none 0 0, .slice none 0 0] 52)) (by rfl) (by first | (go_simp; done) | (go_simp; rfl)) ?_; exact hK.out _ _ (zA (Below.refl _ _) _) (hGA W _ hG) ⟨_, rfl, hG.2.2.2.2, blk_new _ _⟩ (Nat.le_refl _))
       ?_ ?_ undef undef undef undef _ ⟨HI0.out, BK161.out, HK.out, HB.out, Nat.le_refl _⟩
      ·intro b c d e h
       cases b <;> cases c <;> cases d <;> cases e <;> first | (exact absurd h (by decide)) | kernel_rfl
      ·rintro _ _ _ _ W ⟨g2, rfl, r2, h2⟩ ⟨g3, rfl, r3, h3⟩ ⟨g4, rfl, r4, h4⟩ ⟨g5, rfl, r5, h5⟩ q1 q2 q3 q4 q5 q6 hG
       clear mk4 mk7
       refine pure_ (i := 16) (N := some 30) (v := ?_) (a' := ?_) #[T', T', T', T', T', T', T', T', T', T', T', T', T', T', T', T', T', T', F'] rfl rfl (any_of HT_.out (by kernel_rfl)) (fun _ _ _ h => h) (Or.inl ⟨by rfl, ?_⟩) ?_ ?_; rotate_left; (intro w'; go_simp; with_reducible rfl); rotate_left; (simp only [Act.put, sA, sZ, sS, i64_w, i32_w]; rfl)
       exact norm_ (by first | (simp only [putAll, Act.put, List.setIfInBounds_toArray, List.set_cons_zero, List.set_cons_succ]; done) | (simp only [putAll, Act.put, List.setIfInBounds_toArray, List.set_cons_zero, List.set_cons_succ]; rfl)) (hJ (.slice (some ⟨g2, 0, none⟩) ji4.toNat ji4.toNat, .slice (some ⟨g3, 0, none⟩) ji7.toNat ji7.toNat, .slice (some ⟨g4, 0, none⟩) ji7.toNat ji7.toNat, g5) _ ⟨wv_own (by rw [Ny162.out]; exact h2) (by rw [Ny162.out]; simp) (Nat.le_trans hsz r2) (by unfold maxLen; omega) _ (by simp [Value.ownBlock]; exact ⟨q1, q2⟩), wv_own (by rw [Ny165.out]; exact h3) (by rw [Ny165.out]; simp) (Nat.le_trans hsz r3) (by unfold maxLen; omega) _ (by simp [Value.ownBlock]; exact ⟨Ne.symm q1, q4⟩), wv_own (by rw [Ny168.out]; exact h4) (by rw [Ny168.out]; simp) (Nat.le_trans hsz r4) (by unfold maxLen; omega) _ (by simp [Value.ownBlock]; exact ⟨Ne.symm q2, Ne.symm q4⟩), hG.2.1, h5, Nat.le_trans hsz r5, Nat.le_trans HW0.out (Nat.le_trans hsz r5), Nat.ne_of_lt (Nat.lt_of_lt_of_le hgl r5), Nat.ne_of_gt (Nat.lt_of_lt_of_le hgl r5), Nat.ne_of_lt (Nat.lt_of_lt_of_le hbl r5), Nat.ne_of_gt (Nat.lt_of_lt_of_le hbl r5), hG.1, hG.2.2.1, hG.2.2.2.1⟩)
      ·rintro _ _ _ um W ⟨g2, rfl, r2, h2⟩ ⟨g3, rfl, r3, h3⟩ ⟨g4, rfl, r4, h4⟩ q1 q2 q4 hG
       clear mk4 mk7
       refine pure_ (i := 16) (N := some 30) (v := ?_) (a' := ?_) #[T', T', T', T', T', T', T', T', T', T', T', T', T', T', T', T', T', F', F'] rfl rfl (any_of HT_.out (by kernel_rfl)) (fun _ _ _ h => h) (Or.inl ⟨by rfl, ?_⟩) ?_ ?_; rotate_left; (intro w'; go_simp; with_reducible rfl); rotate_left; (simp only [Act.put, sA, sZ, sS, i64_w, i32_w]; rfl)
       refine one_ (i := 17) (N := some 7) #[T', T', T', T', T', T', T', T', T', T', T', T', T', T', T', T', T', T', F'] rfl rfl (one_of HT_.out (by kernel_rfl)) (by decide) (fun K hK => ?_)
       refine event_step (v := .pointer (some ⟨W.heap.size, 0, none⟩)) (w1 := W.alloc (.cells #[.int .i64 0, .int .i64 0, .slice none 0 0, .slice none 0 0, .slice none 0 0] 52)) (by rfl) (by first | (go_simp; done) | (go_simp; rfl)) ?_
       have hG5 := hGA W (.cells #[.int .i64 0, .int .i64 0, .slice none 0 0, .slice none 0 0, .slice none 0 0] 52) hG
       have h25 := yA h2 (.cells #[.int .i64 0, .int .i64 0, .slice none 0 0, .slice none 0 0, .slice none 0 0] 52)
       have h35 := yA h3 (.cells #[.int .i64 0, .int .i64 0, .slice none 0 0, .slice none 0 0, .slice none 0 0] 52)
       have h45 := yA h4 (.cells #[.int .i64 0, .int .i64 0, .slice none 0 0, .slice none 0 0, .slice none 0 0] 52)
       have h5 := blk_new W (.cells #[.int .i64 0, .int .i64 0, .slice none 0 0, .slice none 0 0, .slice none 0 0] 52)
       have r5 : w14.heap.size ≤ W.heap.size := hG.2.2.2.2
       clear h2 h3 h4 hG
       generalize W.heap.size = g5 at h5 r5 ⊢
       generalize W.alloc (.cells #[.int .i64 0, .int .i64 0, .slice none 0 0, .slice none 0 0, .slice none 0 0] 52) = W5 at h25 h35 h45 h5 hG5 ⊢
       have h2 := h25
       have h3 := h35
       have h4 := h45
       have hG := hG5
       clear h25 h35 h45 hG5
       refine hK.out _ _ trivial (fun _ => ?_)
       clear hK K
       refine norm_ (a' := ?_) ?_ ?_
       rotate_left
       ·show Act.put _ (some 7) _ = _
        simp only [Act.put, sA, sZ, sS, i64_w, i32_w]
        rfl
       exact norm_ (by first | (simp only [putAll, Act.put, List.setIfInBounds_toArray, List.set_cons_zero, List.set_cons_succ]; done) | (simp only [putAll, Act.put, List.setIfInBounds_toArray, List.set_cons_zero, List.set_cons_succ]; rfl)) (hJ (.slice (some ⟨g2, 0, none⟩) ji4.toNat ji4.toNat, .slice (some ⟨g3, 0, none⟩) ji7.toNat ji7.toNat, .slice (some ⟨g4, 0, none⟩) ji7.toNat ji7.toNat, g5) _ ⟨wv_own (by rw [Ny162.out]; exact h2) (by rw [Ny162.out]; simp) (Nat.le_trans hsz r2) (by unfold maxLen; omega) _ (by simp [Value.ownBlock]; exact ⟨q1, q2⟩), wv_own (by rw [Ny165.out]; exact h3) (by rw [Ny165.out]; simp) (Nat.le_trans hsz r3) (by unfold maxLen; omega) _ (by simp [Value.ownBlock]; exact ⟨Ne.symm q1, q4⟩), wv_own (by rw [Ny168.out]; exact h4) (by rw [Ny168.out]; simp) (Nat.le_trans hsz r4) (by unfold maxLen; omega) _ (by simp [Value.ownBlock]; exact ⟨Ne.symm q2, Ne.symm q4⟩), hG.2.1, h5, Nat.le_trans hsz r5, Nat.le_trans HW0.out (Nat.le_trans hsz r5), Nat.ne_of_lt (Nat.lt_of_lt_of_le hgl r5), Nat.ne_of_gt (Nat.lt_of_lt_of_le hgl r5), Nat.ne_of_lt (Nat.lt_of_lt_of_le hbl r5), Nat.ne_of_gt (Nat.lt_of_lt_of_le hbl r5), hG.1, hG.2.2.1, hG.2.2.2.1⟩)
     rintro ⟨v163, v166, v169, gb171⟩ w25 ⟨h0_, h1_, h2_, h3_, h4_, h5_, h6_, h7_, h8_, h9_, h10_, h11_, h12_, h13_⟩
     have n0_ : Aside0 (Kd.R (Kd.int .u8) 5 w25 w.heap.size (fun k_ => some k_ ≠ (v166 : Value).ownBlock ∧ some k_ ≠ (v169 : Value).ownBlock) v163 y162) := ⟨h0_⟩
     have n1_ : Aside0 (Kd.R (Kd.int .u8) 5 w25 w.heap.size (fun k_ => some k_ ≠ (v163 : Value).ownBlock ∧ some k_ ≠ (v169 : Value).ownBlock) v166 y165) := ⟨h1_⟩
     have n2_ : Aside0 (Kd.R (Kd.int .u8) 5 w25 w.heap.size (fun k_ => some k_ ≠ (v163 : Value).ownBlock ∧ some k_ ≠ (v166 : Value).ownBlock) v169 y168) := ⟨h2_⟩
     have n3_ : Aside0 (w25.heap[gb161]? = some (.cells #[.int .i64 0, .int .i64 0, .slice none 0 0, .slice none 0 0, .slice none 0 0] 52 (0, 0))) := ⟨h3_⟩
     have n4_ : Aside0 (w25.heap[gb171]? = some (.cells #[.int .i64 0, .int .i64 0, .slice none 0 0, .slice none 0 0, .slice none 0 0] 52 (0, 0))) := ⟨h4_⟩
     have n5_ : Aside0 (w.heap.size ≤ gb171) := ⟨h5_⟩
     have n6_ : Aside0 (w0.heap.size ≤ gb171) := ⟨h6_⟩
     have n7_ : Aside0 (g ≠ gb171) := ⟨h7_⟩
     have n8_ : Aside0 (gb171 ≠ g) := ⟨h8_⟩
     have n9_ : Aside0 (gb161 ≠ gb171) := ⟨h9_⟩
     have n10_ : Aside0 (gb171 ≠ gb161) := ⟨h10_⟩
     have n11_ : Aside0 (IsS72 w0 w25 g s0_0 s0_1) := ⟨h11_⟩
     have n12_ : Aside0 (KeepBut w w25 g none) := ⟨h12_⟩
     have n13_ : Aside0 (Below w0.heap.size w0 w25) := ⟨h13_⟩
     clear BK161
     clear HI0
     clear HK
     clear HB
     clear h0_ h1_ h2_ h3_ h4_ h5_ h6_ h7_ h8_ h9_ h10_ h11_ h12_ h13_
     have HO164 := n0_
     have HO167 := n1_
     have HO170 := n2_
     have BK161 := n3_
     have BK171 := n4_
     have GW171 := n5_
     have GE171 := n6_
     have NB0_171 := n7_
     have NB171_0 := n8_
     have NB161_171 := n9_
     have NB171_161 := n10_
     have HI0 := n11_
     have HK := n12_
     have HB := n13_
     clear n0_ n1_ n2_ n3_ n4_ n5_ n6_ n7_ n8_ n9_ n10_ n11_ n12_ n13_
     have hHeld := trivial
     obtain ⟨Ao26, co26, eo26⟩ := Kd.R_slice HO170.out
     (first | subst eo26 | (injection eo26 with f1_ f2_ f3_; have f4_ := f1_.symm; have f5_ := f3_.symm; clear f1_ f2_ f3_; subst f4_; subst f5_))
     obtain ⟨Ao27, co27, eo27⟩ := Kd.R_slice HO167.out
     (first | subst eo27 | (injection eo27 with f1_ f2_ f3_; have f4_ := f1_.symm; have f5_ := f3_.symm; clear f1_ f2_ f3_; subst f4_; subst f5_))
     obtain ⟨Ao28, co28, eo28⟩ := Kd.R_slice HO164.out
     (first | subst eo28 | (injection eo28 with f1_ f2_ f3_; have f4_ := f1_.symm; have f5_ := f3_.symm; clear f1_ f2_ f3_; subst f4_; subst f5_))
     refine norm_ (a' := ?_) ?_ ?_
     rotate_left
     ·simp only [putAll, Act.put, List.setIfInBounds_toArray, List.set_cons_zero, List.set_cons_succ]
      rfl
     refine one_ (i := 18) (N := none) #[T', T', T', T', T', T', T', T', T', T', T', T', T', T', T', T', T', T', T'] rfl rfl (one_of HT_.out (by kernel_rfl)) (by decide) (fun K hK => ?_)
     have hs29 : w25.cell? ⟨gb171, 0, none⟩ = some (.int .i64 0) := (blk_cell BK171.out 0).trans rfl
     have hfs29 := blk_frozen BK171.out 0
     have hns29_0 := NB161_171.out
     have hms29_0 := NB171_161.out
     have hs30 : w25.cell? ⟨gb171, 1, none⟩ = some (.int .i64 0) := (blk_cell BK171.out 1).trans rfl
     have hfs30 := blk_frozen BK171.out 1
     have hns30_0 := NB161_171.out
     have hms30_0 := NB171_161.out
     have hs31 : w25.cell? ⟨gb171, 2, none⟩ = some (.slice none 0 0) := (blk_cell BK171.out 2).trans rfl
     have hfs31 := blk_frozen BK171.out 2
     have hns31_0 := NB161_171.out
     have hms31_0 := NB171_161.out
     have hs32 : w25.cell? ⟨gb171, 3, none⟩ = some (.slice none 0 0) := (blk_cell BK171.out 3).trans rfl
     have hfs32 := blk_frozen BK171.out 3
     have hns32_0 := NB161_171.out
     have hms32_0 := NB171_161.out
     have hs33 : w25.cell? ⟨gb171, 4, none⟩ = some (.slice none 0 0) := (blk_cell BK171.out 4).trans rfl
     have hfs33 := blk_frozen BK171.out 4
     have hns33_0 := NB161_171.out
     have hms33_0 := NB171_161.out
     refine skip_ (w1 := ?_) (by rfl) rfl ?_ ?_
     rotate_left
     ·go_simp
      rfl
     refine hK.out _ _ trivial (fun hHeld => ?_)
     clear hK K
     refine done_ (done_of HT_.out (by kernel_rfl)) ?_
     try go_wp2_with (first | ((with_reducible refine xC (f := 57) rfl ?_); refine goesL_ (some 32) rfl rfl Try.func57 (by kernel_rfl) rfl #[.pointer (some ⟨g, 0, none⟩), .int .i64 256] rfl (by (try simp only [List.map_toArray, List.map_cons, List.map_nil]); first | done | rfl | (simp only [List.length_drop, List.length_take]; rfl)) ?_; (with_reducible refine (cutroomfilm_Tape_Next.calls g s0_0 s0_1 256 t172 t173 w0 _ ?side1 ?side2 A10.out).mono ?_); (case side1 => repeat (first | (with_reducible first | exact HI0.out | apply IsS72.alloc | apply IsS72.drewN | apply IsS72.drew | apply IsS72.set_1 | refine IsS72.far ?_ NB0_161.out _ | refine IsS72.far ?_ NB0_171.out _) | exact HI0.out)); (case side2 => repeat (first | (with_reducible first | exact HB.out | apply zA | apply zN | apply zD | refine zP ?_ (IsS72.ge HI0.out) | refine zP ?_ GE161.out | refine zP ?_ GE171.out) | exact HB.out)); rintro e w34 ⟨rfl, hi, hb, hk⟩; refine ⟨_, rfl, ?_⟩; have n0_ := Aside0.mk (KeepBut.blk hk (g' := gb161) (o := .cells #[.int .i64 0, .int .i64 0, .slice none 0 0, .slice none 0 0, .slice none 0 0] 52 (0, 0)) (by (with_reducible repeat (first | refine yN ?_ _ | refine yD ?_ | refine yA ?_ _)); refine blk_far ?_ NB161_171.out _; (with_reducible repeat (first | refine yN ?_ _ | refine yD ?_ | refine yA ?_ _)); refine blk_far ?_ NB161_171.out _; (with_reducible repeat (first | refine yN ?_ _ | refine yD ?_ | refine yA ?_ _)); refine blk_far ?_ NB161_171.out _; (with_reducible repeat (first | refine yN ?_ _ | refine yD ?_ | refine yA ?_ _)); refine blk_far ?_ NB161_171.out _; (with_reducible repeat (first | refine yN ?_ _ | refine yD ?_ | refine yA ?_ _)); refine blk_far ?_ NB161_171.out _; (with_reducible repeat (first | refine yN ?_ _ | refine yD ?_ | refine yA ?_ _)); exact BK161.out) NB161_0.out (by simp)); have n1_ := Aside0.mk (Kd.R_mono (Kd.R_keep (IsS72.apart (show IsS72 w0 _ g s0_0 s0_1 from by repeat (first | (with_reducible first | exact HI0.out | apply IsS72.alloc | apply IsS72.drewN | apply IsS72.drew | apply IsS72.set_1 | refine IsS72.far ?_ NB0_161.out _ | refine IsS72.far ?_ NB0_171.out _) | exact HI0.out)) (by (with_reducible repeat (first | apply Kd.R_alloc | apply Kd.R_drewN | apply Kd.R_drew)); exact (Kd.R_mono (Kd.R_far (p := ⟨gb171, 4, none⟩) (Kd.R_far (p := ⟨gb171, 3, none⟩) (Kd.R_far (p := ⟨gb171, 2, none⟩) (Kd.R_far (p := ⟨gb171, 1, none⟩) (Kd.R_far (p := ⟨gb171, 0, none⟩) (Kd.R_types HO164.out BK171.out (by decide)) (fun _ hk => hk.2) (.int .i64 a1)) (fun _ hk => hk.2) (.int .i64 a2)) (fun _ hk => hk.2) (.slice Ao28 y162.length co28)) (fun _ hk => hk.2) (.slice Ao27 y165.length co27)) (fun _ hk => hk.2) (.slice Ao26 y168.length co26)) (fun _ h_ => h_.1))) (by decide)) hk (fun _ h => h.2)) (fun _ h => h.1)); have n2_ := Aside0.mk (Kd.R_mono (Kd.R_keep (IsS72.apart (show IsS72 w0 _ g s0_0 s0_1 from by repeat (first | (with_reducible first | exact HI0.out | apply IsS72.alloc | apply IsS72.drewN | apply IsS72.drew | apply IsS72.set_1 | refine IsS72.far ?_ NB0_161.out _ | refine IsS72.far ?_ NB0_171.out _) | exact HI0.out)) (by (with_reducible repeat (first | apply Kd.R_alloc | apply Kd.R_drewN | apply Kd.R_drew)); exact (Kd.R_mono (Kd.R_far (p := ⟨gb171, 4, none⟩) (Kd.R_far (p := ⟨gb171, 3, none⟩) (Kd.R_far (p := ⟨gb171, 2, none⟩) (Kd.R_far (p := ⟨gb171, 1, none⟩) (Kd.R_far (p := ⟨gb171, 0, none⟩) (Kd.R_types HO167.out BK171.out (by decide)) (fun _ hk => hk.2) (.int .i64 a1)) (fun _ hk => hk.2) (.int .i64 a2)) (fun _ hk => hk.2) (.slice Ao28 y162.length co28)) (fun _ hk => hk.2) (.slice Ao27 y165.length co27)) (fun _ hk => hk.2) (.slice Ao26 y168.length co26)) (fun _ h_ => h_.1))) (by decide)) hk (fun _ h => h.2)) (fun _ h => h.1)); have n3_ := Aside0.mk (Kd.R_mono (Kd.R_keep (IsS72.apart (show IsS72 w0 _ g s0_0 s0_1 from by repeat (first | (with_reducible first | exact HI0.out | apply IsS72.alloc | apply IsS72.drewN | apply IsS72.drew | apply IsS72.set_1 | refine IsS72.far ?_ NB0_161.out _ | refine IsS72.far ?_ NB0_171.out _) | exact HI0.out)) (by (with_reducible repeat (first | apply Kd.R_alloc | apply Kd.R_drewN | apply Kd.R_drew)); exact (Kd.R_mono (Kd.R_far (p := ⟨gb171, 4, none⟩) (Kd.R_far (p := ⟨gb171, 3, none⟩) (Kd.R_far (p := ⟨gb171, 2, none⟩) (Kd.R_far (p := ⟨gb171, 1, none⟩) (Kd.R_far (p := ⟨gb171, 0, none⟩) (Kd.R_types HO170.out BK171.out (by decide)) (fun _ hk => hk.2) (.int .i64 a1)) (fun _ hk => hk.2) (.int .i64 a2)) (fun _ hk => hk.2) (.slice Ao28 y162.length co28)) (fun _ hk => hk.2) (.slice Ao27 y165.length co27)) (fun _ hk => hk.2) (.slice Ao26 y168.length co26)) (fun _ h_ => h_.1))) (by decide)) hk (fun _ h => h.2)) (fun _ h => h.1)); have n4_ := Aside0.mk (KeepBut.blk hk (g' := gb171) (o := .cells #[.int .i64 a1, .int .i64 a2, .slice Ao28 y162.length co28, .slice Ao27 y165.length co27, .slice Ao26 y168.length co26] 52 (0, 0)) (by (with_reducible repeat (first | refine yN ?_ _ | refine yD ?_ | refine yA ?_ _)); refine blk_put (cs := #[.int .i64 a1, .int .i64 a2, .slice Ao28 y162.length co28, .slice Ao27 y165.length co27, .slice none 0 0]) ?_ 4 _ rfl; (with_reducible repeat (first | refine yN ?_ _ | refine yD ?_ | refine yA ?_ _)); refine blk_put (cs := #[.int .i64 a1, .int .i64 a2, .slice Ao28 y162.length co28, .slice none 0 0, .slice none 0 0]) ?_ 3 _ rfl; (with_reducible repeat (first | refine yN ?_ _ | refine yD ?_ | refine yA ?_ _)); refine blk_put (cs := #[.int .i64 a1, .int .i64 a2, .slice none 0 0, .slice none 0 0, .slice none 0 0]) ?_ 2 _ rfl; (with_reducible repeat (first | refine yN ?_ _ | refine yD ?_ | refine yA ?_ _)); refine blk_put (cs := #[.int .i64 a1, .int .i64 0, .slice none 0 0, .slice none 0 0, .slice none 0 0]) ?_ 1 _ rfl; (with_reducible repeat (first | refine yN ?_ _ | refine yD ?_ | refine yA ?_ _)); refine blk_put (cs := #[.int .i64 0, .int .i64 0, .slice none 0 0, .slice none 0 0, .slice none 0 0]) ?_ 0 _ rfl; (with_reducible repeat (first | refine yN ?_ _ | refine yD ?_ | refine yA ?_ _)); exact BK171.out) NB171_0.out (by simp)); have n5_ := Aside0.mk (KeepBut.trans (by repeat (first | (with_reducible first | exact HK.out | apply KeepBut.set_ | apply keep_drewN | apply keep_drew | apply keep_alloc | refine keep_far ?_ GW161.out _ | refine keep_far ?_ GW171.out _) | exact HK.out)) hk (.inl rfl)); have n6_ := Aside0.mk (hb); have n7_ := Aside0.mk (hi); clear BK161; clear HO164; clear HO167; clear HO170; clear BK171; clear HK; clear HB; clear HI0; have BK161 := n0_; have HO164 := n1_; have HO167 := n2_; have HO170 := n3_; have BK171 := n4_; have HK := n5_; have HB := n6_; have HI0 := n7_; clear n0_ n1_ n2_ n3_ n4_ n5_ n6_ n7_; (try clear hb); (try clear hb2); (try clear hk); (try clear hi)) | ((with_reducible refine xC (f := 57) rfl ?_); refine goesL_ (some 34) rfl rfl Try.func57 (by kernel_rfl) rfl #[.pointer (some ⟨g, 0, none⟩), .int .i64 17] rfl (by (try simp only [List.map_toArray, List.map_cons, List.map_nil]); first | done | rfl | (simp only [List.length_drop, List.length_take]; rfl)) ?_; (with_reducible refine (cutroomfilm_Tape_Next.calls g s0_0 t173 17 t174 t175 w0 _ ?side1 ?side2 A11.out).mono ?_); (case side1 => repeat (first | (with_reducible first | exact HI0.out | apply IsS72.alloc | apply IsS72.drewN | apply IsS72.drew | apply IsS72.set_1 | refine IsS72.far ?_ NB0_161.out _ | refine IsS72.far ?_ NB0_171.out _) | exact HI0.out)); (case side2 => repeat (first | (with_reducible first | exact HB.out | apply zA | apply zN | apply zD | refine zP ?_ (IsS72.ge HI0.out) | refine zP ?_ GE161.out | refine zP ?_ GE171.out) | exact HB.out)); rintro e w35 ⟨rfl, hi, hb, hk⟩; refine ⟨_, rfl, ?_⟩; have n0_ := Aside0.mk (KeepBut.blk hk (g' := gb161) (o := .cells #[.int .i64 0, .int .i64 0, .slice none 0 0, .slice none 0 0, .slice none 0 0] 52 (0, 0)) (by (with_reducible repeat (first | refine yN ?_ _ | refine yD ?_ | refine yA ?_ _)); exact BK161.out) NB161_0.out (by simp)); have n1_ := Aside0.mk (Kd.R_mono (Kd.R_keep (IsS72.apart (show IsS72 w0 _ g s0_0 t173 from by repeat (first | (with_reducible first | exact HI0.out | apply IsS72.alloc | apply IsS72.drewN | apply IsS72.drew | apply IsS72.set_1 | refine IsS72.far ?_ NB0_161.out _ | refine IsS72.far ?_ NB0_171.out _) | exact HI0.out)) (by (with_reducible repeat (first | apply Kd.R_alloc | apply Kd.R_drewN | apply Kd.R_drew)); exact HO164.out) (by decide)) hk (fun _ h => h.2)) (fun _ h => h.1)); have n2_ := Aside0.mk (Kd.R_mono (Kd.R_keep (IsS72.apart (show IsS72 w0 _ g s0_0 t173 from by repeat (first | (with_reducible first | exact HI0.out | apply IsS72.alloc | apply IsS72.drewN | apply IsS72.drew | apply IsS72.set_1 | refine IsS72.far ?_ NB0_161.out _ | refine IsS72.far ?_ NB0_171.out _) | exact HI0.out)) (by (with_reducible repeat (first | apply Kd.R_alloc | apply Kd.R_drewN | apply Kd.R_drew)); exact HO167.out) (by decide)) hk (fun _ h => h.2)) (fun _ h => h.1)); have n3_ := Aside0.mk (Kd.R_mono (Kd.R_keep (IsS72.apart (show IsS72 w0 _ g s0_0 t173 from by repeat (first | (with_reducible first | exact HI0.out | apply IsS72.alloc | apply IsS72.drewN | apply IsS72.drew | apply IsS72.set_1 | refine IsS72.far ?_ NB0_161.out _ | refine IsS72.far ?_ NB0_171.out _) | exact HI0.out)) (by (with_reducible repeat (first | apply Kd.R_alloc | apply Kd.R_drewN | apply Kd.R_drew)); exact HO170.out) (by decide)) hk (fun _ h => h.2)) (fun _ h => h.1)); have n4_ := Aside0.mk (KeepBut.blk hk (g' := gb171) (o := .cells #[.int .i64 a1, .int .i64 a2, .slice Ao28 y162.length co28, .slice Ao27 y165.length co27, .slice Ao26 y168.length co26] 52 (0, 0)) (by (with_reducible repeat (first | refine yN ?_ _ | refine yD ?_ | refine yA ?_ _)); exact BK171.out) NB171_0.out (by simp)); have n5_ := Aside0.mk (KeepBut.trans (by repeat (first | (with_reducible first | exact HK.out | apply KeepBut.set_ | apply keep_drewN | apply keep_drew | apply keep_alloc | refine keep_far ?_ GW161.out _ | refine keep_far ?_ GW171.out _) | exact HK.out)) hk (.inl rfl)); have n6_ := Aside0.mk (hb); have n7_ := Aside0.mk (hi); clear BK161; clear HO164; clear HO167; clear HO170; clear BK171; clear HK; clear HB; clear HI0; have BK161 := n0_; have HO164 := n1_; have HO167 := n2_; have HO170 := n3_; have BK171 := n4_; have HK := n5_; have HB := n6_; have HI0 := n7_; clear n0_ n1_ n2_ n3_ n4_ n5_ n6_ n7_; (try clear hb); (try clear hb2); (try clear hk); (try clear hi)) | ((with_reducible refine xC (f := 57) rfl ?_); refine goesL_ (some 36) rfl rfl Try.func57 (by kernel_rfl) rfl #[.pointer (some ⟨g, 0, none⟩), .int .i64 9] rfl (by (try simp only [List.map_toArray, List.map_cons, List.map_nil]); first | done | rfl | (simp only [List.length_drop, List.length_take]; rfl)) ?_; (with_reducible refine (cutroomfilm_Tape_Next.calls g s0_0 t175 9 t176 t177 w0 _ ?side1 ?side2 A12.out).mono ?_); (case side1 => repeat (first | (with_reducible first | exact HI0.out | apply IsS72.alloc | apply IsS72.drewN | apply IsS72.drew | apply IsS72.set_1 | refine IsS72.far ?_ NB0_161.out _ | refine IsS72.far ?_ NB0_171.out _) | exact HI0.out)); (case side2 => repeat (first | (with_reducible first | exact HB.out | apply zA | apply zN | apply zD | refine zP ?_ (IsS72.ge HI0.out) | refine zP ?_ GE161.out | refine zP ?_ GE171.out) | exact HB.out)); rintro e w36 ⟨rfl, hi, hb, hk⟩; refine ⟨_, rfl, ?_⟩; have n0_ := Aside0.mk (KeepBut.blk hk (g' := gb161) (o := .cells #[.int .i64 0, .int .i64 0, .slice none 0 0, .slice none 0 0, .slice none 0 0] 52 (0, 0)) (by (with_reducible repeat (first | refine yN ?_ _ | refine yD ?_ | refine yA ?_ _)); exact BK161.out) NB161_0.out (by simp)); have n1_ := Aside0.mk (Kd.R_mono (Kd.R_keep (IsS72.apart (show IsS72 w0 _ g s0_0 t175 from by repeat (first | (with_reducible first | exact HI0.out | apply IsS72.alloc | apply IsS72.drewN | apply IsS72.drew | apply IsS72.set_1 | refine IsS72.far ?_ NB0_161.out _ | refine IsS72.far ?_ NB0_171.out _) | exact HI0.out)) (by (with_reducible repeat (first | apply Kd.R_alloc | apply Kd.R_drewN | apply Kd.R_drew)); exact HO164.out) (by decide)) hk (fun _ h => h.2)) (fun _ h => h.1)); have n2_ := Aside0.mk (Kd.R_mono (Kd.R_keep (IsS72.apart (show IsS72 w0 _ g s0_0 t175 from by repeat (first | (with_reducible first | exact HI0.out | apply IsS72.alloc | apply IsS72.drewN | apply IsS72.drew | apply IsS72.set_1 | refine IsS72.far ?_ NB0_161.out _ | refine IsS72.far ?_ NB0_171.out _) | exact HI0.out)) (by (with_reducible repeat (first | apply Kd.R_alloc | apply Kd.R_drewN | apply Kd.R_drew)); exact HO167.out) (by decide)) hk (fun _ h => h.2)) (fun _ h => h.1)); have n3_ := Aside0.mk (Kd.R_mono (Kd.R_keep (IsS72.apart (show IsS72 w0 _ g s0_0 t175 from by repeat (first | (with_reducible first | exact HI0.out | apply IsS72.alloc | apply IsS72.drewN | apply IsS72.drew | apply IsS72.set_1 | refine IsS72.far ?_ NB0_161.out _ | refine IsS72.far ?_ NB0_171.out _) | exact HI0.out)) (by (with_reducible repeat (first | apply Kd.R_alloc | apply Kd.R_drewN | apply Kd.R_drew)); exact HO170.out) (by decide)) hk (fun _ h => h.2)) (fun _ h => h.1)); have n4_ := Aside0.mk (KeepBut.blk hk (g' := gb171) (o := .cells #[.int .i64 a1, .int .i64 a2, .slice Ao28 y162.length co28, .slice Ao27 y165.length co27, .slice Ao26 y168.length co26] 52 (0, 0)) (by (with_reducible repeat (first | refine yN ?_ _ | refine yD ?_ | refine yA ?_ _)); exact BK171.out) NB171_0.out (by simp)); have n5_ := Aside0.mk (KeepBut.trans (by repeat (first | (with_reducible first | exact HK.out | apply KeepBut.set_ | apply keep_drewN | apply keep_drew | apply keep_alloc | refine keep_far ?_ GW161.out _ | refine keep_far ?_ GW171.out _) | exact HK.out)) hk (.inl rfl)); have n6_ := Aside0.mk (hb); have n7_ := Aside0.mk (hi); clear BK161; clear HO164; clear HO167; clear HO170; clear BK171; clear HK; clear HB; clear HI0; have BK161 := n0_; have HO164 := n1_; have HO167 := n2_; have HO170 := n3_; have BK171 := n4_; have HK := n5_; have HB := n6_; have HI0 := n7_; clear n0_ n1_ n2_ n3_ n4_ n5_ n6_ n7_; (try clear hb); (try clear hb2); (try clear hk); (try clear hi)))
     go_loopg [11] k (fun kq v11 w' => ∃ (x11_1 : Int) (x172002_1 : List Int) (x172003_1 : List Int) (x172004_1 : List Int) (u172002 : Value) (u172003 : Value) (u172004 : Value), v11 = .int .i64 x11_1 ∧ Aside0 (cutroomfilm_Tape_Image.l0 kq a1 t172 t174 t176 x11_1 s0_0 t177 a1 a2 x172002_1 x172003_1 x172004_1 = some (r1, r2, r3, r4, r5, r6)) ∧ Aside0 (kq ≤ k) ∧ Aside0 (Kd.R (Kd.int .u8) 5 w' w.heap.size (fun k_ => some k_ ≠ (u172003 : Value).ownBlock ∧ some k_ ≠ (u172004 : Value).ownBlock) u172002 x172002_1) ∧ Aside0 (Kd.R (Kd.int .u8) 5 w' w.heap.size (fun k_ => some k_ ≠ (u172002 : Value).ownBlock ∧ some k_ ≠ (u172004 : Value).ownBlock) u172003 x172003_1) ∧ Aside0 (Kd.R (Kd.int .u8) 5 w' w.heap.size (fun k_ => some k_ ≠ (u172002 : Value).ownBlock ∧ some k_ ≠ (u172003 : Value).ownBlock) u172004 x172004_1) ∧ Aside0 (w'.heap[gb161]? = some (.cells #[.int .i64 0, .int .i64 0, (.slice none 0 0), (.slice none 0 0), (.slice none 0 0)] 52 (0, 0))) ∧ Aside0 (w'.heap[gb171]? = some (.cells #[.int .i64 a1, .int .i64 a2, u172002, u172003, u172004] 52 (0, 0))) ∧ Aside0 (IsS72 w0 w' g s0_0 t177) ∧ Aside0 (KeepBut w w' g none) ∧ Aside0 (Below w0.heap.size w0 w'))
     case atStart => exact ⟨(0), (y162), (y165), (y168), (.slice Ao28 y162.length co28), (.slice Ao27 y165.length co27), (.slice Ao26 y168.length co26), (by first | rfl | (simp; done) | (simp [*]; done)), H', ⟨Nat.le_refl _⟩, ⟨by (with_reducible repeat (first | apply Kd.R_alloc | apply Kd.R_drewN | apply Kd.R_drew)); exact HO164.out⟩, ⟨by (with_reducible repeat (first | apply Kd.R_alloc | apply Kd.R_drewN | apply Kd.R_drew)); exact HO167.out⟩, ⟨by (with_reducible repeat (first | apply Kd.R_alloc | apply Kd.R_drewN | apply Kd.R_drew)); exact HO170.out⟩, ⟨by (with_reducible repeat (first | refine yN ?_ _ | refine yD ?_ | refine yA ?_ _)); exact BK161.out⟩, ⟨by (with_reducible repeat (first | refine yN ?_ _ | refine yD ?_ | refine yA ?_ _)); exact BK171.out⟩, ⟨by repeat (first | (with_reducible first | exact HI0.out | apply IsS72.alloc | apply IsS72.drewN | apply IsS72.drew | apply IsS72.set_1 | refine IsS72.far ?_ NB0_161.out _ | refine IsS72.far ?_ NB0_171.out _) | exact HI0.out)⟩, ⟨by repeat (first | (with_reducible first | exact HK.out | apply KeepBut.set_ | apply keep_drewN | apply keep_drew | apply keep_alloc | refine keep_far ?_ GW161.out _ | refine keep_far ?_ GW171.out _) | exact HK.out)⟩, ⟨by repeat (first | (with_reducible first | exact HB.out | apply zA | apply zN | apply zD | refine zP ?_ (IsS72.ge HI0.out) | refine zP ?_ GE161.out | refine zP ?_ GE171.out) | exact HB.out)⟩⟩
     case round =>
      clear H'
      (try clear p2);(try clear c5)
      obtain ⟨x11_1, x172002_1, x172003_1, x172004_1, u172002, u172003, u172004, rfl, HA, HK1, HO_172002, HO_172003, HO_172004, BK161, BK171, HI0, HK, HB⟩ := hrel
      cases gk with
      | zero => exact absurd HA.out (by simp [cutroomfilm_Tape_Image.l0])
      | succ k1 =>
       have H := HA.out
       clear HA
       simp only [cutroomfilm_Tape_Image.l0] at H
       by_cases c37 : x11_1 < (x172002_1.length : Int)
       ·rw [if_pos c37] at H
        have c37b0 : decide (x11_1 < (x172002_1.length : Int)) = true := decide_eq_true c37
        clear c37
        by_cases c38 : a1 = 0
        ·rw [if_pos c38] at H
         exact absurd H (by simp)
        ·rw [if_neg c38] at H
         have c38b0 : (a1 == 0) = false := beq_eq_false_iff_ne.mpr c38
         have c38b1 : (a1 != 0) = true := bne_iff_ne.mpr c38
         by_cases c39 : 0 ≤ x11_1
         ·rw [if_pos c39] at H
          have c39b0 : decide (0 ≤ x11_1) = true := decide_eq_true c39
          clear c39
          obtain ⟨y178, hy178⟩ : ∃ y_ : List Int, y_ = (x172002_1.set (x11_1 : Int).toNat ((wrap64 ((wrap64 (t172 + (wrap64 ((Int.tmod x11_1 a1) * t174)))) + (wrap64 ((wrap64 (Int.tdiv x11_1 a1)) * t176)))) % 256)) := ⟨_, rfl⟩
          replace H : (cutroomfilm_Tape_Image.l0 k1 a1 t172 t174 t176 (wrap64 (x11_1 + 1)) s0_0 t177 a1 a2 y178 x172003_1 x172004_1) = some (r1, r2, r3, r4, r5, r6) := by first | (rw [hy178]; with_reducible exact H) | (have H2_ := (Option.bind_some _ _).symm.trans H; rw [hy178]; with_reducible exact H2_) | (have H2_ := (Option.bind_some _ _).symm.trans H; with_reducible exact H2_) | with_reducible exact H | (rw [hy178]; exact H) | exact H
          have Ny178 := Aside0.mk hy178
          clear hy178
          have H' := Aside0.mk H
          clear H
          have hnb41 := NB171_161.out
          have hnc41 := NB161_171.out
          have hnb42 := NB171_0.out
          have hnc42 := NB0_171.out
          have hcz43_0 : wr.cell? ⟨gb171, 0, none⟩ = some (.int .i64 a1) := (blk_cell BK171.out 0).trans rfl
          have hcz43_1 : wr.cell? ⟨gb171, 1, none⟩ = some (.int .i64 a2) := (blk_cell BK171.out 1).trans rfl
          have hcz43_2 : wr.cell? ⟨gb171, 2, none⟩ = some (u172002) := (blk_cell BK171.out 2).trans rfl
          have hcz43_3 : wr.cell? ⟨gb171, 3, none⟩ = some (u172003) := (blk_cell BK171.out 3).trans rfl
          have hcz43_4 : wr.cell? ⟨gb171, 4, none⟩ = some (u172004) := (blk_cell BK171.out 4).trans rfl
          have hfz43_0 := blk_frozen BK171.out 0
          have hfz43_1 := blk_frozen BK171.out 1
          have hfz43_2 := blk_frozen BK171.out 2
          have hfz43_3 := blk_frozen BK171.out 3
          have hfz43_4 := blk_frozen BK171.out 4
          obtain ⟨Ao44, co44, eo44⟩ := Kd.R_slice HO_172002.out
          subst eo44
          try go_wp2
          have n0_ := Aside0.mk (Kd.R_drew HO_172002.out)
          have n1_ := Aside0.mk (Kd.R_drew HO_172003.out)
          have n2_ := Aside0.mk (Kd.R_drew HO_172004.out)
          have n3_ := Aside0.mk (yD BK161.out)
          have n4_ := Aside0.mk (yD BK171.out)
          have n5_ := Aside0.mk (IsS72.drew HI0.out)
          have n6_ := Aside0.mk (keep_drew HK.out)
          have n7_ := Aside0.mk (zD HB.out)
          clear HO_172002
          clear HO_172003
          clear HO_172004
          clear BK161
          clear BK171
          clear HI0
          clear HK
          clear HB
          have HO_172002 := n0_
          have HO_172003 := n1_
          have HO_172004 := n2_
          have BK161 := n3_
          have BK171 := n4_
          have HI0 := n5_
          have HK := n6_
          have HB := n7_
          clear n0_ n1_ n2_ n3_ n4_ n5_ n6_ n7_
          have p40 : 0 ≤ (x11_1 : Int) := of_decide_eq_true (by first | (with_reducible assumption) | assumption)
          have q40 : (x11_1 : Int) < ((x172002_1.length : Int) : Int) := of_decide_eq_true (by first | (with_reducible assumption) | assumption)
          obtain ⟨go40, co40, eo40, gb40, gl40, cl40, HG40⟩ := Kd.R_form HO_172002.out (by omega)
          (first | cases eo40 | (injection eo40 with ea_ en_ ec_; (first | subst ea_ | (injection ea_ with ea_; subst ea_)); subst ec_; clear en_))
          have GB40 := Aside0.mk gb40
          have GG40 := Aside0.mk HG40
          clear gb40 gl40 HG40
          obtain ⟨hx40_0, hf40_0⟩ := Kd.R_celln 0 HO_172002.out (x11_1 : Int) p40 q40
          replace p40 := eq_true p40
          replace q40 := eq_true q40
          have HN0_go40 := Aside0.mk (show g ≠ go40 from by have h_ := IsS72.own_ne HI0.out HO_172002.out (by decide); intro e_; exact h_ (by rw [e_]; rfl))
          have HP46 := Kd.R_putn HO_172002.out (x11_1 : Int) ((wrap64 ((wrap64 (t172 + (wrap64 ((Int.tmod x11_1 a1) * t174)))) + (wrap64 ((wrap64 (Int.tdiv x11_1 a1)) * t176)))) % 256)
          rw [← Ny178.out] at HP46
          have HQ46 := Aside0.mk HP46
          clear HP46
          refine start_ (n := 19) (S := fun w' => w'.cell? ⟨gb171, 0, none⟩ = some (.int .i64 a1) ∧ w'.cell? ⟨gb171, 1, none⟩ = some (.int .i64 a2) ∧ w'.cell? ⟨gb171, 2, none⟩ = some (.slice (some ⟨go40, 0, none⟩) x172002_1.length co44) ∧ w'.cell? ⟨gb171, 3, none⟩ = some (u172003) ∧ w'.cell? ⟨gb171, 4, none⟩ = some (u172004)) (ds := [18]) #[false, false, false, false, false, false, false, false, false, false, false, false, false, false, false, false, false, false, false] (by kernel_rfl) rfl rfl ⟨(blk_cell BK171.out 0).trans rfl, (blk_cell BK171.out 1).trans rfl, (blk_cell BK171.out 2).trans rfl, (blk_cell BK171.out 3).trans rfl, (blk_cell BK171.out 4).trans rfl⟩ (fun hHeld => ?_); refine with_tabW cutroomfilm_Tape_Image.tab6 cutroomfilm_Tape_Image.bits6 (fun HT_ HW_ => ?_)
          generalize wr.drew = w45 at HO_172002 HO_172003 HO_172004 BK161 BK171 HI0 HK HB GG40 HQ46 hf40_0 hx40_0 hHeld ⊢
          refine Abb.pS 0 44 #[T', F', F', F', F', F', F', F', F', F', F', F', F', F', F', F', F', F', F'] HT_ ?_
          refine Abb.pS 2 46 #[T', F', T', F', F', F', F', F', F', F', F', F', F', F', F', F', F', F', F'] HT_ ?_
          refine Abb.pS 3 47 #[T', F', T', T', F', F', F', F', F', F', F', F', F', F', F', F', F', F', F'] HT_ ?_
          refine Abb.pS 4 48 #[T', F', T', T', T', F', F', F', F', F', F', F', F', F', F', F', F', F', F'] HT_ ?_
          refine Abb.pS 5 49 #[T', F', T', T', T', T', F', F', F', F', F', F', F', F', F', F', F', F', F'] HT_ ?_
          refine Abb.pS 6 50 #[T', F', T', T', T', T', T', F', F', F', F', F', F', F', F', F', F', F', F'] HT_ ?_
          refine Abb.pS 7 51 #[T', F', T', T', T', T', T', T', F', F', F', F', F', F', F', F', F', F', F'] HT_ ?_
          refine Abb.pS 8 52 #[T', F', T', T', T', T', T', T', T', F', F', F', F', F', F', F', F', F', F'] HT_ ?_
          refine Abb.pS 9 53 #[T', F', T', T', T', T', T', T', T', T', F', F', F', F', F', F', F', F', F'] HT_ ?_
          refine Abb.pS 10 54 #[T', F', T', T', T', T', T', T', T', T', T', F', F', F', F', F', F', F', F'] HT_ ?_
          refine Abb.pS 11 55 #[T', F', T', T', T', T', T', T', T', T', T', T', F', F', F', F', F', F', F'] HT_ ?_
          refine Abb.pS 12 56 #[T', F', T', T', T', T', T', T', T', T', T', T', T', F', F', F', F', F', F'] HT_ ?_
          refine Abb.pS 13 57 #[T', F', T', T', T', T', T', T', T', T', T', T', T', T', F', F', F', F', F'] HT_ ?_
          refine Abb.pS 14 58 #[T', F', T', T', T', T', T', T', T', T', T', T', T', T', T', F', F', F', F'] HT_ ?_
          refine Abb.pS 15 59 #[T', F', T', T', T', T', T', T', T', T', T', T', T', T', T', T', F', F', F'] HT_ ?_
          refine Abb.pS 16 60 #[T', F', T', T', T', T', T', T', T', T', T', T', T', T', T', T', T', F', F'] HT_ ?_
          refine Abb.pT 1 45 #[T', T', T', T', T', T', T', T', T', T', T', T', T', T', T', T', T', F', F'] HT_ HW_ hHeld ?_
          refine Abb.pS 17 61 #[T', T', T', T', T', T', T', T', T', T', T', T', T', T', T', T', T', T', F'] HT_ ?_
          refine last_ (i := 18) (N := none) #[T', T', T', T', T', T', T', T', T', T', T', T', T', T', T', T', T', T', T'] rfl rfl (one_of HT_.out (by kernel_rfl)) (by decide) (fun K hK => ?_)
          refine skip_ (w1 := ?_) (by rfl) rfl ?_ ?_
          rotate_left
          ·go_simp
           rfl
          refine hK.out _ _ ?_
          clear hK K
          refine done_ (done_of HT_.out (by kernel_rfl)) ?_
          try go_wp2
          go_roundg k1
          case measure => have := HK1.out; omega
          case rel => exact ⟨(wrap64 (x11_1 + 1)), (y178), (x172003_1), (x172004_1), (.slice (some ⟨go40, 0, none⟩) x172002_1.length co44), (u172003), (u172004), (by first | rfl | (simp; done) | (simp [*]; done)), H', ⟨by have := HK1.out; omega⟩, ⟨by (with_reducible repeat (first | apply Kd.R_alloc | apply Kd.R_drewN | apply Kd.R_drew)); exact HQ46.out⟩, ⟨by (with_reducible repeat (first | apply Kd.R_alloc | apply Kd.R_drewN | apply Kd.R_drew)); exact Kd.R_mono (Kd.R_far (p := ⟨go40, (x11_1 : Int).toNat, none⟩) (Kd.R_mono HO_172003.out (fun k_ hk => (⟨hk, fun e_ => hk.1 (by rw [e_]; rfl)⟩ : _ ∧ k_ ≠ go40))) (fun _ hk => hk.2) (.int .u8 ((wrap64 ((wrap64 (t172 + (wrap64 ((Int.tmod x11_1 a1) * t174)))) + (wrap64 ((wrap64 (Int.tdiv x11_1 a1)) * t176)))) % 256))) (fun _ hk => ⟨hk.1.1, hk.1.2⟩)⟩, ⟨by (with_reducible repeat (first | apply Kd.R_alloc | apply Kd.R_drewN | apply Kd.R_drew)); exact Kd.R_mono (Kd.R_far (p := ⟨go40, (x11_1 : Int).toNat, none⟩) (Kd.R_mono HO_172004.out (fun k_ hk => (⟨hk, fun e_ => hk.1 (by rw [e_]; rfl)⟩ : _ ∧ k_ ≠ go40))) (fun _ hk => hk.2) (.int .u8 ((wrap64 ((wrap64 (t172 + (wrap64 ((Int.tmod x11_1 a1) * t174)))) + (wrap64 ((wrap64 (Int.tdiv x11_1 a1)) * t176)))) % 256))) (fun _ hk => ⟨hk.1.1, hk.1.2⟩)⟩, ⟨by (with_reducible repeat (first | refine yN ?_ _ | refine yD ?_ | refine yA ?_ _)); refine blk_far ?_ (by have h_ := Kd.R_ne HO_172002.out BK161.out (by decide); intro e_; exact h_ (by rw [e_]; rfl)) _; (with_reducible repeat (first | refine yN ?_ _ | refine yD ?_ | refine yA ?_ _)); exact BK161.out⟩, ⟨by (with_reducible repeat (first | refine yN ?_ _ | refine yD ?_ | refine yA ?_ _)); refine blk_far ?_ (by have h_ := Kd.R_ne HO_172002.out BK171.out (by decide); intro e_; exact h_ (by rw [e_]; rfl)) _; (with_reducible repeat (first | refine yN ?_ _ | refine yD ?_ | refine yA ?_ _)); exact BK171.out⟩, ⟨by repeat (first | (with_reducible first | exact HI0.out | apply IsS72.alloc | apply IsS72.drewN | apply IsS72.drew | apply IsS72.set_1 | refine IsS72.far ?_ HN0_go40.out _ | refine IsS72.far ?_ NB0_161.out _ | refine IsS72.far ?_ NB0_171.out _) | exact HI0.out)⟩, ⟨by repeat (first | (with_reducible first | exact HK.out | apply KeepBut.set_ | apply keep_drewN | apply keep_drew | apply keep_alloc | refine keep_far ?_ GB40.out _ | refine keep_far ?_ GW161.out _ | refine keep_far ?_ GW171.out _) | exact HK.out)⟩, ⟨by repeat (first | (with_reducible first | exact HB.out | apply zA | apply zN | apply zD | refine zP ?_ (Nat.le_trans HL.out GB40.out) | refine zP ?_ (IsS72.ge HI0.out) | refine zP ?_ GE161.out | refine zP ?_ GE171.out) | exact HB.out)⟩⟩
         ·rw [if_neg c39] at H
          exact absurd H (by simp)
       ·rw [if_neg c37] at H
        have c37b0 : decide (x11_1 < (x172002_1.length : Int)) = false := decide_eq_false c37
        clear c37
        have H' := Aside0.mk H
        clear H
        have hnb47 := NB171_161.out
        have hnc47 := NB161_171.out
        have hnb48 := NB171_0.out
        have hnc48 := NB0_171.out
        have hcz49_0 : wr.cell? ⟨gb171, 0, none⟩ = some (.int .i64 a1) := (blk_cell BK171.out 0).trans rfl
        have hcz49_1 : wr.cell? ⟨gb171, 1, none⟩ = some (.int .i64 a2) := (blk_cell BK171.out 1).trans rfl
        have hcz49_2 : wr.cell? ⟨gb171, 2, none⟩ = some (u172002) := (blk_cell BK171.out 2).trans rfl
        have hcz49_3 : wr.cell? ⟨gb171, 3, none⟩ = some (u172003) := (blk_cell BK171.out 3).trans rfl
        have hcz49_4 : wr.cell? ⟨gb171, 4, none⟩ = some (u172004) := (blk_cell BK171.out 4).trans rfl
        have hfz49_0 := blk_frozen BK171.out 0
        have hfz49_1 := blk_frozen BK171.out 1
        have hfz49_2 := blk_frozen BK171.out 2
        have hfz49_3 := blk_frozen BK171.out 3
        have hfz49_4 := blk_frozen BK171.out 4
        obtain ⟨Ao50, co50, eo50⟩ := Kd.R_slice HO_172002.out
        subst eo50
        go_wp2
        go_loopg [12] k1 (fun kq v12 w' => ∃ (x12_2 : Int) (x172002_2 : List Int) (x172003_2 : List Int) (x172004_2 : List Int) (u172002 : Value) (u172003 : Value) (u172004 : Value), v12 = .int .i64 x12_2 ∧ Aside0 (cutroomfilm_Tape_Image.l1 kq t172 t174 t176 x12_2 s0_0 t177 a1 a2 x172002_2 x172003_2 x172004_2 = some (r1, r2, r3, r4, r5, r6)) ∧ Aside0 (kq ≤ k1) ∧ Aside0 (Kd.R (Kd.int .u8) 5 w' w.heap.size (fun k_ => some k_ ≠ (u172003 : Value).ownBlock ∧ some k_ ≠ (u172004 : Value).ownBlock) u172002 x172002_2) ∧ Aside0 (Kd.R (Kd.int .u8) 5 w' w.heap.size (fun k_ => some k_ ≠ (u172002 : Value).ownBlock ∧ some k_ ≠ (u172004 : Value).ownBlock) u172003 x172003_2) ∧ Aside0 (Kd.R (Kd.int .u8) 5 w' w.heap.size (fun k_ => some k_ ≠ (u172002 : Value).ownBlock ∧ some k_ ≠ (u172003 : Value).ownBlock) u172004 x172004_2) ∧ Aside0 (w'.heap[gb161]? = some (.cells #[.int .i64 0, .int .i64 0, (.slice none 0 0), (.slice none 0 0), (.slice none 0 0)] 52 (0, 0))) ∧ Aside0 (w'.heap[gb171]? = some (.cells #[.int .i64 a1, .int .i64 a2, u172002, u172003, u172004] 52 (0, 0))) ∧ Aside0 (IsS72 w0 w' g s0_0 t177) ∧ Aside0 (KeepBut w w' g none) ∧ Aside0 (Below w0.heap.size w0 w'))
        case atStart => exact ⟨(0), (x172002_1), (x172003_1), (x172004_1), (.slice Ao50 x172002_1.length co50), (u172003), (u172004), (by first | rfl | (simp; done) | (simp [*]; done)), H', ⟨Nat.le_refl _⟩, ⟨by (with_reducible repeat (first | apply Kd.R_alloc | apply Kd.R_drewN | apply Kd.R_drew)); exact HO_172002.out⟩, ⟨by (with_reducible repeat (first | apply Kd.R_alloc | apply Kd.R_drewN | apply Kd.R_drew)); exact HO_172003.out⟩, ⟨by (with_reducible repeat (first | apply Kd.R_alloc | apply Kd.R_drewN | apply Kd.R_drew)); exact HO_172004.out⟩, ⟨by (with_reducible repeat (first | refine yN ?_ _ | refine yD ?_ | refine yA ?_ _)); exact BK161.out⟩, ⟨by (with_reducible repeat (first | refine yN ?_ _ | refine yD ?_ | refine yA ?_ _)); exact BK171.out⟩, ⟨by repeat (first | (with_reducible first | exact HI0.out | apply IsS72.alloc | apply IsS72.drewN | apply IsS72.drew | apply IsS72.set_1 | refine IsS72.far ?_ NB0_161.out _ | refine IsS72.far ?_ NB0_171.out _) | exact HI0.out)⟩, ⟨by repeat (first | (with_reducible first | exact HK.out | apply KeepBut.set_ | apply keep_drewN | apply keep_drew | apply keep_alloc | refine keep_far ?_ GW161.out _ | refine keep_far ?_ GW171.out _) | exact HK.out)⟩, ⟨by repeat (first | (with_reducible first | exact HB.out | apply zA | apply zN | apply zD | refine zP ?_ (IsS72.ge HI0.out) | refine zP ?_ GE161.out | refine zP ?_ GE171.out) | exact HB.out)⟩⟩
        case round =>
         clear H'
         (try clear p2);(try clear c3);(try clear c4);(try clear p4);(try clear q4);(try clear hx4);(try clear hf4);(try clear c5);(try clear p6);(try clear c37);(try clear c37b0);(try clear c38);(try clear c38b0);(try clear c38b1);(try clear c39);(try clear c39b0);(try clear p40);(try clear q40);(try clear hx40);(try clear hf40);(try clear c41);(try clear c42);(try clear c47);(try clear c48);(try clear hcz43_0);(try clear hcz43_1);(try clear hcz43_2);(try clear hcz43_3);(try clear hcz43_4);(try clear hcz49_0);(try clear hcz49_1);(try clear hcz49_2);(try clear hcz49_3);(try clear hcz49_4);(try clear hfz43_0);(try clear hfz43_1);(try clear hfz43_2);(try clear hfz43_3);(try clear hfz43_4);(try clear hfz49_0);(try clear hfz49_1);(try clear hfz49_2);(try clear hfz49_3);(try clear hfz49_4);(try clear hx40_0);(try clear p2);(try clear p40);(try clear q40)
         obtain ⟨x12_2, x172002_2, x172003_2, x172004_2, u172002, u172003, u172004, rfl, HA, HK2, HO_172002, HO_172003, HO_172004, BK161, BK171, HI0, HK, HB⟩ := hrel
         cases gk with
         | zero => exact absurd HA.out (by simp [cutroomfilm_Tape_Image.l1])
         | succ k2 =>
          have H := HA.out
          clear HA
          simp only [cutroomfilm_Tape_Image.l1] at H
          by_cases c51 : x12_2 < (x172003_2.length : Int)
          ·rw [if_pos c51] at H
           have c51b0 : decide (x12_2 < (x172003_2.length : Int)) = true := decide_eq_true c51
           clear c51
           by_cases c52 : 0 ≤ x12_2
           ·rw [if_pos c52] at H
            have c52b0 : decide (0 ≤ x12_2) = true := decide_eq_true c52
            clear c52
            obtain ⟨y179, hy179⟩ : ∃ y_ : List Int, y_ = (x172003_2.set (x12_2 : Int).toNat ((wrap64 ((wrap64 (128 + (wrap64 (Int.tdiv t172 4)))) + (wrap64 ((Int.tmod x12_2 7) * t176)))) % 256)) := ⟨_, rfl⟩
            replace H : (if x12_2 < (x172004_2.length : Int) then (cutroomfilm_Tape_Image.l1 k2 t172 t174 t176 (wrap64 (x12_2 + 1)) s0_0 t177 a1 a2 x172002_2 y179 (x172004_2.set (x12_2 : Int).toNat ((wrap64 ((wrap64 (128 - (wrap64 (Int.tdiv t172 4)))) + (wrap64 ((Int.tmod x12_2 5) * t174)))) % 256))) else (none)) = some (r1, r2, r3, r4, r5, r6) := by first | (rw [hy179]; with_reducible exact H) | (have H2_ := (Option.bind_some _ _).symm.trans H; rw [hy179]; with_reducible exact H2_) | (have H2_ := (Option.bind_some _ _).symm.trans H; with_reducible exact H2_) | with_reducible exact H | (rw [hy179]; exact H) | exact H
            have Ny179 := Aside0.mk hy179
            clear hy179
            by_cases c54 : x12_2 < (x172004_2.length : Int)
            ·rw [if_pos c54] at H
             have c54b0 : decide (x12_2 < (x172004_2.length : Int)) = true := decide_eq_true c54
             clear c54
             obtain ⟨y180, hy180⟩ : ∃ y_ : List Int, y_ = (x172004_2.set (x12_2 : Int).toNat ((wrap64 ((wrap64 (128 - (wrap64 (Int.tdiv t172 4)))) + (wrap64 ((Int.tmod x12_2 5) * t174)))) % 256)) := ⟨_, rfl⟩
             replace H : (cutroomfilm_Tape_Image.l1 k2 t172 t174 t176 (wrap64 (x12_2 + 1)) s0_0 t177 a1 a2 x172002_2 y179 y180) = some (r1, r2, r3, r4, r5, r6) := by first | (rw [hy180]; with_reducible exact H) | (have H2_ := (Option.bind_some _ _).symm.trans H; rw [hy180]; with_reducible exact H2_) | (have H2_ := (Option.bind_some _ _).symm.trans H; with_reducible exact H2_) | with_reducible exact H | (rw [hy180]; exact H) | exact H
             have Ny180 := Aside0.mk hy180
             clear hy180
             have H' := Aside0.mk H
             clear H
             have hnb56 := NB171_161.out
             have hnc56 := NB161_171.out
             have hnb57 := NB171_0.out
             have hnc57 := NB0_171.out
             have hcz58_0 : wr.cell? ⟨gb171, 0, none⟩ = some (.int .i64 a1) := (blk_cell BK171.out 0).trans rfl
             have hcz58_1 : wr.cell? ⟨gb171, 1, none⟩ = some (.int .i64 a2) := (blk_cell BK171.out 1).trans rfl
             have hcz58_2 : wr.cell? ⟨gb171, 2, none⟩ = some (u172002) := (blk_cell BK171.out 2).trans rfl
             have hcz58_3 : wr.cell? ⟨gb171, 3, none⟩ = some (u172003) := (blk_cell BK171.out 3).trans rfl
             have hcz58_4 : wr.cell? ⟨gb171, 4, none⟩ = some (u172004) := (blk_cell BK171.out 4).trans rfl
             have hfz58_0 := blk_frozen BK171.out 0
             have hfz58_1 := blk_frozen BK171.out 1
             have hfz58_2 := blk_frozen BK171.out 2
             have hfz58_3 := blk_frozen BK171.out 3
             have hfz58_4 := blk_frozen BK171.out 4
             obtain ⟨Ao59, co59, eo59⟩ := Kd.R_slice HO_172003.out
             subst eo59
             have p53 : 0 ≤ (x12_2 : Int) := of_decide_eq_true (by first | (with_reducible assumption) | assumption)
             have q53 : (x12_2 : Int) < ((x172003_2.length : Int) : Int) := of_decide_eq_true (by first | (with_reducible assumption) | assumption)
             obtain ⟨go53, co53, eo53, gb53, gl53, cl53, HG53⟩ := Kd.R_form HO_172003.out (by omega)
             (first | cases eo53 | (injection eo53 with ea_ en_ ec_; (first | subst ea_ | (injection ea_ with ea_; subst ea_)); subst ec_; clear en_))
             have GB53 := Aside0.mk gb53
             have GG53 := Aside0.mk HG53
             clear gb53 gl53 HG53
             obtain ⟨hx53_0, hf53_0⟩ := Kd.R_celln 0 HO_172003.out (x12_2 : Int) p53 q53
             replace p53 := eq_true p53
             replace q53 := eq_true q53
             have HP60 := Kd.R_putg HO_172003.out (x12_2 : Int) ((wrap64 ((wrap64 (128 + (wrap64 (Int.tdiv t172 4)))) + (wrap64 ((Int.tmod x12_2 7) * t176)))) % 256)
             go_wp2_with (first | ((with_reducible refine gate_store (t := 5) (p := 81) rfl ?_); refine store_event (t := 5) (p := 81) (v := ?vo_w61) (w1 := (wr.setCell ⟨go53, (x12_2 : Int).toNat, none⟩ (.int .u8 ((wrap64 ((wrap64 (128 + (wrap64 (Int.tdiv t172 4)))) + (wrap64 ((Int.tmod x12_2 7) * t176)))) % 256)))) ?hg ?ho ?hn ?hr ?_; (case ho => rfl); (case hg => rfl); (case hn => rfl); (case hr => first | (go_simp; done) | (go_simp; rfl)); intro w61 hw; have hg : wr.grownBy w61 (some go53) := (by rw [hw]; exact HP60.2); have hp_ : Kd.R (Kd.int .u8) 5 w61 w.heap.size (fun k_ => some k_ ≠ (u172002 : Value).ownBlock ∧ some k_ ≠ (u172004 : Value).ownBlock) (.slice (some ⟨go53, 0, none⟩) x172003_2.length co59) y179 := (by rw [hw, Ny179.out]; exact HP60.1); clear HP60; have n0_ := Aside0.mk (Kd.R_after (v := (.slice (some ⟨go53, 0, none⟩) x172003_2.length co59)) (v1 := (.slice (some ⟨go53, 0, none⟩) x172003_2.length co59)) (ok := (fun k_ => some k_ ≠ (u172004 : Value).ownBlock)) (by (with_reducible repeat (first | apply Kd.R_alloc | apply Kd.R_drewN | apply Kd.R_drew)); exact Kd.R_mono HO_172002.out (fun _ hk => ⟨hk.2, hk.1⟩)) hg (.inl rfl)); have n1_ := Aside0.mk (hp_); have n2_ := Aside0.mk (Kd.R_after (v := (.slice (some ⟨go53, 0, none⟩) x172003_2.length co59)) (v1 := (.slice (some ⟨go53, 0, none⟩) x172003_2.length co59)) (ok := (fun k_ => some k_ ≠ (u172002 : Value).ownBlock)) (by (with_reducible repeat (first | apply Kd.R_alloc | apply Kd.R_drewN | apply Kd.R_drew)); exact HO_172004.out) hg (.inl rfl)); have n3_ := Aside0.mk (blk_grown (g := gb161) (o := .cells #[.int .i64 0, .int .i64 0, .slice none 0 0, .slice none 0 0, .slice none 0 0] 52 (0, 0)) (by (with_reducible repeat (first | refine yN ?_ _ | refine yD ?_ | refine yA ?_ _)); exact BK161.out) hg (Kd.R_ne HO_172003.out BK161.out (by decide))); have n4_ := Aside0.mk (blk_grown (g := gb171) (o := .cells #[.int .i64 a1, .int .i64 a2, u172002, .slice (some ⟨go53, 0, none⟩) x172003_2.length co59, u172004] 52 (0, 0)) (by (with_reducible repeat (first | refine yN ?_ _ | refine yD ?_ | refine yA ?_ _)); exact BK171.out) hg (Kd.R_ne HO_172003.out BK171.out (by decide))); have n5_ := Aside0.mk (IsS72.grown (by repeat (first | (with_reducible first | exact HI0.out | apply IsS72.alloc | apply IsS72.drewN | apply IsS72.drew | apply IsS72.set_1 | refine IsS72.far ?_ NB0_161.out _ | refine IsS72.far ?_ NB0_171.out _) | exact HI0.out)) hg (IsS72.own_ne HI0.out HO_172003.out (by decide))); have n6_ := Aside0.mk ((by rw [hw]; exact zP (HB.out) (Nat.le_trans HL.out GB53.out) : Below w0.heap.size w0 w61)); have n7_ := Aside0.mk (KeepBut.trans (by repeat (first | (with_reducible first | exact HK.out | apply KeepBut.set_ | apply keep_drewN | apply keep_drew | apply keep_alloc | refine keep_far ?_ GW161.out _ | refine keep_far ?_ GW171.out _) | exact HK.out)) (KeepBut.of_grown hg g) (Kd.R_base2 HO_172003.out)); clear HO_172002; clear HO_172003; clear HO_172004; clear BK161; clear BK171; clear HI0; clear HB; clear HK; have HO_172002 := n0_; have HO_172003 := n1_; have HO_172004 := n2_; have BK161 := n3_; have BK171 := n4_; have HI0 := n5_; have HB := n6_; have HK := n7_; clear n0_ n1_ n2_ n3_ n4_ n5_ n6_ n7_; clear hg hw hp_; have hcz62_0 : w61.cell? ⟨gb171, 0, none⟩ = some (.int .i64 a1) := (blk_cell BK171.out 0).trans rfl; have hcz62_1 : w61.cell? ⟨gb171, 1, none⟩ = some (.int .i64 a2) := (blk_cell BK171.out 1).trans rfl; have hcz62_2 : w61.cell? ⟨gb171, 2, none⟩ = some (u172002) := (blk_cell BK171.out 2).trans rfl; have hcz62_3 : w61.cell? ⟨gb171, 3, none⟩ = some (.slice (some ⟨go53, 0, none⟩) x172003_2.length co59) := (blk_cell BK171.out 3).trans rfl; have hcz62_4 : w61.cell? ⟨gb171, 4, none⟩ = some (u172004) := (blk_cell BK171.out 4).trans rfl; have hfz62_0 := blk_frozen BK171.out 0; have hfz62_1 := blk_frozen BK171.out 1; have hfz62_2 := blk_frozen BK171.out 2; have hfz62_3 := blk_frozen BK171.out 3; have hfz62_4 := blk_frozen BK171.out 4; have p55 : 0 ≤ (x12_2 : Int) := of_decide_eq_true (by first | (with_reducible assumption) | assumption); have q55 : (x12_2 : Int) < ((x172004_2.length : Int) : Int) := of_decide_eq_true (by first | (with_reducible assumption) | assumption); obtain ⟨go55, co55, eo55, gb55, gl55, cl55, HG55⟩ := Kd.R_form HO_172004.out (by omega); (first | cases eo55 | (injection eo55 with ea_ en_ ec_; (first | subst ea_ | (injection ea_ with ea_; subst ea_)); subst ec_; clear en_)); have GB55 := Aside0.mk gb55; have GG55 := Aside0.mk HG55; clear gb55 gl55 HG55; obtain ⟨hx55_0, hf55_0⟩ := Kd.R_celln 0 HO_172004.out (x12_2 : Int) p55 q55; replace p55 := eq_true p55; replace q55 := eq_true q55; obtain ⟨hy63_, hz63_⟩ := Kd.R_celln 0 HO_172004.out (x12_2 : Int) (of_decide_eq_true (by first | (with_reducible assumption) | assumption)) (of_decide_eq_true (by first | (with_reducible assumption) | assumption)); have HP63 := Kd.R_putg HO_172004.out (x12_2 : Int) ((wrap64 ((wrap64 (128 - (wrap64 (Int.tdiv t172 4)))) + (wrap64 ((Int.tmod x12_2 5) * t174)))) % 256)) | ((with_reducible refine gate_store (t := 5) (p := 94) rfl ?_); refine store_event (t := 5) (p := 94) (v := ?vo_w64) (w1 := (w61.setCell ⟨go55, (x12_2 : Int).toNat, none⟩ (.int .u8 ((wrap64 ((wrap64 (128 - (wrap64 (Int.tdiv t172 4)))) + (wrap64 ((Int.tmod x12_2 5) * t174)))) % 256)))) ?hg ?ho ?hn ?hr ?_; (case ho => rfl); (case hg => rfl); (case hn => rfl); (case hr => first | (go_simp; done) | (go_simp; rfl)); intro w64 hw; have hg : w61.grownBy w64 (some go55) := (by rw [hw]; exact HP63.2); have hp_ : Kd.R (Kd.int .u8) 5 w64 w.heap.size (fun k_ => some k_ ≠ (u172002 : Value).ownBlock ∧ some k_ ≠ (.slice (some ⟨go53, 0, none⟩) x172003_2.length co59 : Value).ownBlock) (.slice (some ⟨go55, 0, none⟩) x172004_2.length co55) y180 := (by rw [hw, Ny180.out]; exact HP63.1); clear HP63; have n0_ := Aside0.mk (Kd.R_after (v := (.slice (some ⟨go55, 0, none⟩) x172004_2.length co55)) (v1 := (.slice (some ⟨go55, 0, none⟩) x172004_2.length co55)) (ok := (fun k_ => some k_ ≠ (.slice (some ⟨go53, 0, none⟩) x172003_2.length co59 : Value).ownBlock)) (by (with_reducible repeat (first | apply Kd.R_alloc | apply Kd.R_drewN | apply Kd.R_drew)); exact Kd.R_mono HO_172002.out (fun _ hk => ⟨hk.2, hk.1⟩)) hg (.inl rfl)); have n1_ := Aside0.mk (Kd.R_after (v := (.slice (some ⟨go55, 0, none⟩) x172004_2.length co55)) (v1 := (.slice (some ⟨go55, 0, none⟩) x172004_2.length co55)) (ok := (fun k_ => some k_ ≠ (u172002 : Value).ownBlock)) (by (with_reducible repeat (first | apply Kd.R_alloc | apply Kd.R_drewN | apply Kd.R_drew)); exact HO_172003.out) hg (.inl rfl)); have n2_ := Aside0.mk (hp_); have n3_ := Aside0.mk (blk_grown (g := gb161) (o := .cells #[.int .i64 0, .int .i64 0, .slice none 0 0, .slice none 0 0, .slice none 0 0] 52 (0, 0)) (by (with_reducible repeat (first | refine yN ?_ _ | refine yD ?_ | refine yA ?_ _)); exact BK161.out) hg (Kd.R_ne HO_172004.out BK161.out (by decide))); have n4_ := Aside0.mk (blk_grown (g := gb171) (o := .cells #[.int .i64 a1, .int .i64 a2, u172002, .slice (some ⟨go53, 0, none⟩) x172003_2.length co59, .slice (some ⟨go55, 0, none⟩) x172004_2.length co55] 52 (0, 0)) (by (with_reducible repeat (first | refine yN ?_ _ | refine yD ?_ | refine yA ?_ _)); exact BK171.out) hg (Kd.R_ne HO_172004.out BK171.out (by decide))); have n5_ := Aside0.mk (IsS72.grown (by repeat (first | (with_reducible first | exact HI0.out | apply IsS72.alloc | apply IsS72.drewN | apply IsS72.drew | apply IsS72.set_1 | refine IsS72.far ?_ NB0_161.out _ | refine IsS72.far ?_ NB0_171.out _) | exact HI0.out)) hg (IsS72.own_ne HI0.out HO_172004.out (by decide))); have n6_ := Aside0.mk ((by rw [hw]; exact zP (HB.out) (Nat.le_trans HL.out GB55.out) : Below w0.heap.size w0 w64)); have n7_ := Aside0.mk (KeepBut.trans (by repeat (first | (with_reducible first | exact HK.out | apply KeepBut.set_ | apply keep_drewN | apply keep_drew | apply keep_alloc | refine keep_far ?_ GW161.out _ | refine keep_far ?_ GW171.out _) | exact HK.out)) (KeepBut.of_grown hg g) (Kd.R_base2 HO_172004.out)); clear HO_172002; clear HO_172003; clear HO_172004; clear BK161; clear BK171; clear HI0; clear HB; clear HK; have HO_172002 := n0_; have HO_172003 := n1_; have HO_172004 := n2_; have BK161 := n3_; have BK171 := n4_; have HI0 := n5_; have HB := n6_; have HK := n7_; clear n0_ n1_ n2_ n3_ n4_ n5_ n6_ n7_; clear hg hw hp_))
             go_roundg k2
             case measure => have := HK1.out; have := HK2.out; omega
             case rel => exact ⟨(wrap64 (x12_2 + 1)), (x172002_2), (y179), (y180), (u172002), (.slice (some ⟨go53, 0, none⟩) x172003_2.length co59), (.slice (some ⟨go55, 0, none⟩) x172004_2.length co55), (by first | rfl | (simp; done) | (simp [*]; done)), H', ⟨by have := HK1.out; have := HK2.out; omega⟩, ⟨by (with_reducible repeat (first | apply Kd.R_alloc | apply Kd.R_drewN | apply Kd.R_drew)); exact HO_172002.out⟩, ⟨by (with_reducible repeat (first | apply Kd.R_alloc | apply Kd.R_drewN | apply Kd.R_drew)); exact HO_172003.out⟩, ⟨by (with_reducible repeat (first | apply Kd.R_alloc | apply Kd.R_drewN | apply Kd.R_drew)); exact HO_172004.out⟩, ⟨by (with_reducible repeat (first | refine yN ?_ _ | refine yD ?_ | refine yA ?_ _)); exact BK161.out⟩, ⟨by (with_reducible repeat (first | refine yN ?_ _ | refine yD ?_ | refine yA ?_ _)); exact BK171.out⟩, ⟨by repeat (first | (with_reducible first | exact HI0.out | apply IsS72.alloc | apply IsS72.drewN | apply IsS72.drew | apply IsS72.set_1 | refine IsS72.far ?_ NB0_161.out _ | refine IsS72.far ?_ NB0_171.out _) | exact HI0.out)⟩, ⟨by repeat (first | (with_reducible first | exact HK.out | apply KeepBut.set_ | apply keep_drewN | apply keep_drew | apply keep_alloc | refine keep_far ?_ GW161.out _ | refine keep_far ?_ GW171.out _) | exact HK.out)⟩, ⟨by repeat (first | (with_reducible first | exact HB.out | apply zA | apply zN | apply zD | refine zP ?_ (IsS72.ge HI0.out) | refine zP ?_ GE161.out | refine zP ?_ GE171.out) | exact HB.out)⟩⟩
            ·rw [if_neg c54] at H
             exact absurd H (by simp)
           ·rw [if_neg c52] at H
            exact absurd H (by simp)
          ·rw [if_neg c51] at H
           have c51b0 : decide (x12_2 < (x172003_2.length : Int)) = false := decide_eq_false c51
           clear c51
           replace H := Option.bind_eq_some_iff.mp H
           obtain ⟨⟨t181, t182⟩, A650, H⟩ := H
           replace H : (cutroomfilm_Tape_Image.l2 k2 t181 s0_0 t182 a1 a2 x172002_2 x172003_2 x172004_2) = some (r1, r2, r3, r4, r5, r6) := H
           have A65 := Aside0.mk A650
           clear A650
           have H' := Aside0.mk H
           clear H
           have hnb66 := NB171_161.out
           have hnc66 := NB161_171.out
           have hnb67 := NB171_0.out
           have hnc67 := NB0_171.out
           have hcz68_0 : wr.cell? ⟨gb171, 0, none⟩ = some (.int .i64 a1) := (blk_cell BK171.out 0).trans rfl
           have hcz68_1 : wr.cell? ⟨gb171, 1, none⟩ = some (.int .i64 a2) := (blk_cell BK171.out 1).trans rfl
           have hcz68_2 : wr.cell? ⟨gb171, 2, none⟩ = some (u172002) := (blk_cell BK171.out 2).trans rfl
           have hcz68_3 : wr.cell? ⟨gb171, 3, none⟩ = some (u172003) := (blk_cell BK171.out 3).trans rfl
           have hcz68_4 : wr.cell? ⟨gb171, 4, none⟩ = some (u172004) := (blk_cell BK171.out 4).trans rfl
           have hfz68_0 := blk_frozen BK171.out 0
           have hfz68_1 := blk_frozen BK171.out 1
           have hfz68_2 := blk_frozen BK171.out 2
           have hfz68_3 := blk_frozen BK171.out 3
           have hfz68_4 := blk_frozen BK171.out 4
           obtain ⟨Ao69, co69, eo69⟩ := Kd.R_slice HO_172003.out
           subst eo69
           go_wp2_with (first | ((with_reducible refine xC (f := 57) rfl ?_); refine goesL_ (some 96) rfl rfl Try.func57 (by kernel_rfl) rfl #[.pointer (some ⟨g, 0, none⟩), .int .i64 5] rfl (by (try simp only [List.map_toArray, List.map_cons, List.map_nil]); first | done | rfl | (simp only [List.length_drop, List.length_take]; rfl)) ?_; (with_reducible refine (cutroomfilm_Tape_Next.calls g s0_0 t177 5 t181 t182 w0 _ ?side1 ?side2 A65.out).mono ?_); (case side1 => repeat (first | (with_reducible first | exact HI0.out | apply IsS72.alloc | apply IsS72.drewN | apply IsS72.drew | apply IsS72.set_1 | refine IsS72.far ?_ NB0_161.out _ | refine IsS72.far ?_ NB0_171.out _) | exact HI0.out)); (case side2 => repeat (first | (with_reducible first | exact HB.out | apply zA | apply zN | apply zD | refine zP ?_ (IsS72.ge HI0.out) | refine zP ?_ GE161.out | refine zP ?_ GE171.out) | exact HB.out)); rintro e w70 ⟨rfl, hi, hb, hk⟩; refine ⟨_, rfl, ?_⟩; have n0_ := Aside0.mk (Kd.R_mono (Kd.R_keep (IsS72.apart (show IsS72 w0 _ g s0_0 t177 from by repeat (first | (with_reducible first | exact HI0.out | apply IsS72.alloc | apply IsS72.drewN | apply IsS72.drew | apply IsS72.set_1 | refine IsS72.far ?_ NB0_161.out _ | refine IsS72.far ?_ NB0_171.out _) | exact HI0.out)) (by (with_reducible repeat (first | apply Kd.R_alloc | apply Kd.R_drewN | apply Kd.R_drew)); exact HO_172002.out) (by decide)) hk (fun _ h => h.2)) (fun _ h => h.1)); have n1_ := Aside0.mk (Kd.R_mono (Kd.R_keep (IsS72.apart (show IsS72 w0 _ g s0_0 t177 from by repeat (first | (with_reducible first | exact HI0.out | apply IsS72.alloc | apply IsS72.drewN | apply IsS72.drew | apply IsS72.set_1 | refine IsS72.far ?_ NB0_161.out _ | refine IsS72.far ?_ NB0_171.out _) | exact HI0.out)) (by (with_reducible repeat (first | apply Kd.R_alloc | apply Kd.R_drewN | apply Kd.R_drew)); exact HO_172003.out) (by decide)) hk (fun _ h => h.2)) (fun _ h => h.1)); have n2_ := Aside0.mk (Kd.R_mono (Kd.R_keep (IsS72.apart (show IsS72 w0 _ g s0_0 t177 from by repeat (first | (with_reducible first | exact HI0.out | apply IsS72.alloc | apply IsS72.drewN | apply IsS72.drew | apply IsS72.set_1 | refine IsS72.far ?_ NB0_161.out _ | refine IsS72.far ?_ NB0_171.out _) | exact HI0.out)) (by (with_reducible repeat (first | apply Kd.R_alloc | apply Kd.R_drewN | apply Kd.R_drew)); exact HO_172004.out) (by decide)) hk (fun _ h => h.2)) (fun _ h => h.1)); have n3_ := Aside0.mk (KeepBut.blk hk (g' := gb161) (o := .cells #[.int .i64 0, .int .i64 0, .slice none 0 0, .slice none 0 0, .slice none 0 0] 52 (0, 0)) (by (with_reducible repeat (first | refine yN ?_ _ | refine yD ?_ | refine yA ?_ _)); exact BK161.out) NB161_0.out (by simp)); have n4_ := Aside0.mk (KeepBut.blk hk (g' := gb171) (o := .cells #[.int .i64 a1, .int .i64 a2, u172002, .slice Ao69 x172003_2.length co69, u172004] 52 (0, 0)) (by (with_reducible repeat (first | refine yN ?_ _ | refine yD ?_ | refine yA ?_ _)); exact BK171.out) NB171_0.out (by simp)); have n5_ := Aside0.mk (KeepBut.trans (by repeat (first | (with_reducible first | exact HK.out | apply KeepBut.set_ | apply keep_drewN | apply keep_drew | apply keep_alloc | refine keep_far ?_ GW161.out _ | refine keep_far ?_ GW171.out _) | exact HK.out)) hk (.inl rfl)); have n6_ := Aside0.mk (hb); have n7_ := Aside0.mk (hi); clear HO_172002; clear HO_172003; clear HO_172004; clear BK161; clear BK171; clear HK; clear HB; clear HI0; have HO_172002 := n0_; have HO_172003 := n1_; have HO_172004 := n2_; have BK161 := n3_; have BK171 := n4_; have HK := n5_; have HB := n6_; have HI0 := n7_; clear n0_ n1_ n2_ n3_ n4_ n5_ n6_ n7_; (try clear hb); (try clear hb2); (try clear hk); (try clear hi)))
           go_loopg [13] k2 (fun kq v13 w' => ∃ (x13_3 : Int) (x1001_3 : Int) (x172002_3 : List Int) (x172003_3 : List Int) (x172004_3 : List Int) (u172002 : Value) (u172003 : Value) (u172004 : Value), v13 = .int .i64 x13_3 ∧ Aside0 (cutroomfilm_Tape_Image.l2 kq x13_3 s0_0 x1001_3 a1 a2 x172002_3 x172003_3 x172004_3 = some (r1, r2, r3, r4, r5, r6)) ∧ Aside0 (kq ≤ k2) ∧ Aside0 (Kd.R (Kd.int .u8) 5 w' w.heap.size (fun k_ => some k_ ≠ (u172003 : Value).ownBlock ∧ some k_ ≠ (u172004 : Value).ownBlock) u172002 x172002_3) ∧ Aside0 (Kd.R (Kd.int .u8) 5 w' w.heap.size (fun k_ => some k_ ≠ (u172002 : Value).ownBlock ∧ some k_ ≠ (u172004 : Value).ownBlock) u172003 x172003_3) ∧ Aside0 (Kd.R (Kd.int .u8) 5 w' w.heap.size (fun k_ => some k_ ≠ (u172002 : Value).ownBlock ∧ some k_ ≠ (u172003 : Value).ownBlock) u172004 x172004_3) ∧ Aside0 (w'.heap[gb161]? = some (.cells #[.int .i64 0, .int .i64 0, (.slice none 0 0), (.slice none 0 0), (.slice none 0 0)] 52 (0, 0))) ∧ Aside0 (w'.heap[gb171]? = some (.cells #[.int .i64 a1, .int .i64 a2, u172002, u172003, u172004] 52 (0, 0))) ∧ Aside0 (IsS72 w0 w' g s0_0 x1001_3) ∧ Aside0 (KeepBut w w' g none) ∧ Aside0 (Below w0.heap.size w0 w'))
           case atStart => exact ⟨(t181), (t182), (x172002_2), (x172003_2), (x172004_2), (u172002), (.slice Ao69 x172003_2.length co69), (u172004), (by first | rfl | (simp; done) | (simp [*]; done)), H', ⟨Nat.le_refl _⟩, ⟨by (with_reducible repeat (first | apply Kd.R_alloc | apply Kd.R_drewN | apply Kd.R_drew)); exact HO_172002.out⟩, ⟨by (with_reducible repeat (first | apply Kd.R_alloc | apply Kd.R_drewN | apply Kd.R_drew)); exact HO_172003.out⟩, ⟨by (with_reducible repeat (first | apply Kd.R_alloc | apply Kd.R_drewN | apply Kd.R_drew)); exact HO_172004.out⟩, ⟨by (with_reducible repeat (first | refine yN ?_ _ | refine yD ?_ | refine yA ?_ _)); exact BK161.out⟩, ⟨by (with_reducible repeat (first | refine yN ?_ _ | refine yD ?_ | refine yA ?_ _)); exact BK171.out⟩, ⟨by repeat (first | (with_reducible first | exact HI0.out | apply IsS72.alloc | apply IsS72.drewN | apply IsS72.drew | apply IsS72.set_1 | refine IsS72.far ?_ NB0_161.out _ | refine IsS72.far ?_ NB0_171.out _) | exact HI0.out)⟩, ⟨by repeat (first | (with_reducible first | exact HK.out | apply KeepBut.set_ | apply keep_drewN | apply keep_drew | apply keep_alloc | refine keep_far ?_ GW161.out _ | refine keep_far ?_ GW171.out _) | exact HK.out)⟩, ⟨by repeat (first | (with_reducible first | exact HB.out | apply zA | apply zN | apply zD | refine zP ?_ (IsS72.ge HI0.out) | refine zP ?_ GE161.out | refine zP ?_ GE171.out) | exact HB.out)⟩⟩
           case round =>
            clear H'
            (try clear p2);(try clear c3);(try clear c4);(try clear p4);(try clear q4);(try clear hx4);(try clear hf4);(try clear c5);(try clear p5);(try clear q5);(try clear hx5);(try clear hf5);(try clear c6);(try clear p6);(try clear c37);(try clear c37b0);(try clear c38);(try clear c38b0);(try clear c38b1);(try clear c39);(try clear c39b0);(try clear p40);(try clear q40);(try clear hx40);(try clear hf40);(try clear c41);(try clear c42);(try clear c47);(try clear c48);(try clear c51);(try clear c51b0);(try clear c52);(try clear c52b0);(try clear p53);(try clear q53);(try clear hx53);(try clear hf53);(try clear c54);(try clear c54b0);(try clear p55);(try clear q55);(try clear hx55);(try clear hf55);(try clear c56);(try clear c57);(try clear p64);(try clear c66);(try clear c67);(try clear hcz43_0);(try clear hcz43_1);(try clear hcz43_2);(try clear hcz43_3);(try clear hcz43_4)
            (try clear hcz49_0);(try clear hcz49_1);(try clear hcz49_2);(try clear hcz49_3);(try clear hcz49_4);(try clear hcz58_0);(try clear hcz58_1);(try clear hcz58_2);(try clear hcz58_3);(try clear hcz58_4);(try clear hcz62_0);(try clear hcz62_1);(try clear hcz62_2);(try clear hcz62_3);(try clear hcz62_4);(try clear hcz68_0);(try clear hcz68_1);(try clear hcz68_2);(try clear hcz68_3);(try clear hcz68_4);(try clear hfz43_0);(try clear hfz43_1);(try clear hfz43_2);(try clear hfz43_3);(try clear hfz43_4);(try clear hfz49_0);(try clear hfz49_1);(try clear hfz49_2);(try clear hfz49_3);(try clear hfz49_4);(try clear hfz58_0);(try clear hfz58_1);(try clear hfz58_2);(try clear hfz58_3);(try clear hfz58_4);(try clear hfz62_0);(try clear hfz62_1);(try clear hfz62_2);(try clear hfz62_3);(try clear hfz62_4);(try clear hfz68_0);(try clear hfz68_1);(try clear hfz68_2);(try clear hfz68_3)
            (try clear hfz68_4);(try clear hx40_0);(try clear hx53_0);(try clear hx55_0);(try clear p2);(try clear p4);(try clear p40);(try clear p53);(try clear p55);(try clear p6);(try clear q4);(try clear q40);(try clear q53);(try clear q55)
            obtain ⟨x13_3, x1001_3, x172002_3, x172003_3, x172004_3, u172002, u172003, u172004, rfl, HA, HK3, HO_172002, HO_172003, HO_172004, BK161, BK171, HI0, HK, HB⟩ := hrel
            cases gk with
            | zero => exact absurd HA.out (by simp [cutroomfilm_Tape_Image.l2])
            | succ k3 =>
             have H := HA.out
             clear HA
             simp only [cutroomfilm_Tape_Image.l2] at H
             by_cases c71 : x13_3 > 0
             ·rw [if_pos c71] at H
              have c71b0 : decide (0 < x13_3) = true := decide_eq_true c71
              clear c71
              replace H := Option.bind_eq_some_iff.mp H
              obtain ⟨⟨t183, t184⟩, A720, H⟩ := H
              replace H : ((cutroomfilm_Tape_Next.f s0_0 t184 256).bind fun bt185 => (if 0 ≤ t183 then (if t183 < (x172002_3.length : Int) then (cutroomfilm_Tape_Image.l2 k3 (wrap64 (x13_3 - 1)) s0_0 bt185.2 a1 a2 (x172002_3.set (t183 : Int).toNat ((bt185.1) % 256)) x172003_3 x172004_3) else (none)) else (none))) = some (r1, r2, r3, r4, r5, r6) := H
              have A72 := Aside0.mk A720
              clear A720
              replace H := Option.bind_eq_some_iff.mp H
              obtain ⟨⟨t185, t186⟩, A730, H⟩ := H
              replace H : (if 0 ≤ t183 then (if t183 < (x172002_3.length : Int) then (cutroomfilm_Tape_Image.l2 k3 (wrap64 (x13_3 - 1)) s0_0 t186 a1 a2 (x172002_3.set (t183 : Int).toNat ((t185) % 256)) x172003_3 x172004_3) else (none)) else (none)) = some (r1, r2, r3, r4, r5, r6) := H
              have A73 := Aside0.mk A730
              clear A730
              by_cases c74 : 0 ≤ t183
              ·rw [if_pos c74] at H
               have c74b0 : decide (0 ≤ t183) = true := decide_eq_true c74
               clear c74
               by_cases c75 : t183 < (x172002_3.length : Int)
               ·rw [if_pos c75] at H
                have c75b0 : decide (t183 < (x172002_3.length : Int)) = true := decide_eq_true c75
                clear c75
                obtain ⟨y187, hy187⟩ : ∃ y_ : List Int, y_ = (x172002_3.set (t183 : Int).toNat ((t185) % 256)) := ⟨_, rfl⟩
                replace H : (cutroomfilm_Tape_Image.l2 k3 (wrap64 (x13_3 - 1)) s0_0 t186 a1 a2 y187 x172003_3 x172004_3) = some (r1, r2, r3, r4, r5, r6) := by first | (rw [hy187]; with_reducible exact H) | (have H2_ := (Option.bind_some _ _).symm.trans H; rw [hy187]; with_reducible exact H2_) | (have H2_ := (Option.bind_some _ _).symm.trans H; with_reducible exact H2_) | with_reducible exact H | (rw [hy187]; exact H) | exact H
                have Ny187 := Aside0.mk hy187
                clear hy187
                have H' := Aside0.mk H
                clear H
                try go_wp2
                have n0_ := Aside0.mk (Kd.R_drew HO_172002.out)
                have n1_ := Aside0.mk (Kd.R_drew HO_172003.out)
                have n2_ := Aside0.mk (Kd.R_drew HO_172004.out)
                have n3_ := Aside0.mk (yD BK161.out)
                have n4_ := Aside0.mk (yD BK171.out)
                have n5_ := Aside0.mk (IsS72.drew HI0.out)
                have n6_ := Aside0.mk (keep_drew HK.out)
                have n7_ := Aside0.mk (zD HB.out)
                clear HO_172002
                clear HO_172003
                clear HO_172004
                clear BK161
                clear BK171
                clear HI0
                clear HK
                clear HB
                have HO_172002 := n0_
                have HO_172003 := n1_
                have HO_172004 := n2_
                have BK161 := n3_
                have BK171 := n4_
                have HI0 := n5_
                have HK := n6_
                have HB := n7_
                clear n0_ n1_ n2_ n3_ n4_ n5_ n6_ n7_
                obtain ⟨Ao78, co78, eo78⟩ := Kd.R_slice HO_172002.out
                (first | subst eo78 | (injection eo78 with f1_ f2_ f3_; have f4_ := f1_.symm; have f5_ := f3_.symm; clear f1_ f2_ f3_; subst f4_; subst f5_))
                refine start_ (n := 12) (S := fun w' => w'.cell? ⟨gb171, 0, none⟩ = some (.int .i64 a1) ∧ w'.cell? ⟨gb171, 1, none⟩ = some (.int .i64 a2) ∧ w'.cell? ⟨gb171, 2, none⟩ = some (.slice Ao78 x172002_3.length co78) ∧ w'.cell? ⟨gb171, 3, none⟩ = some (u172003) ∧ w'.cell? ⟨gb171, 4, none⟩ = some (u172004)) (ds := [11]) #[false, false, false, false, false, false, false, false, false, false, false, false] (by kernel_rfl) rfl rfl ⟨(blk_cell BK171.out 0).trans rfl, (blk_cell BK171.out 1).trans rfl, (blk_cell BK171.out 2).trans rfl, (blk_cell BK171.out 3).trans rfl, (blk_cell BK171.out 4).trans rfl⟩ (fun hHeld => ?_); refine with_tabW cutroomfilm_Tape_Image.tab15 cutroomfilm_Tape_Image.bits15 (fun HT_ HW_ => ?_)
                generalize wr.drew = w77 at HO_172002 HO_172003 HO_172004 BK161 BK171 HI0 HK HB hHeld ⊢
                refine Abb.pS 0 101 #[T', F', F', F', F', F', F', F', F', F', F', F'] HT_ ?_
                refine Abb.pS 2 103 #[T', F', T', F', F', F', F', F', F', F', F', F'] HT_ ?_
                refine Abb.pS 3 104 #[T', F', T', T', F', F', F', F', F', F', F', F'] HT_ ?_
                refine Abb.pS 7 108 #[T', F', T', T', F', F', F', T', F', F', F', F'] HT_ ?_
                refine Abb.pT 1 102 #[T', T', T', T', F', F', F', T', F', F', F', F'] HT_ HW_ hHeld ?_
                refine Abb.pT 4 105 #[T', T', T', T', T', F', F', T', F', F', F', F'] HT_ HW_ hHeld ?_
                refine Abb.pS 5 106 #[T', T', T', T', T', T', F', T', F', F', F', F'] HT_ ?_
                refine one_ (i := 6) (N := some 107) #[T', T', T', T', T', T', T', T', F', F', F', F'] rfl rfl (one_of HT_.out (by kernel_rfl)) (by decide) (fun K hK => ?_)
                refine goes_ Try.func57 (by kernel_rfl) rfl #[.pointer (some ⟨g, 0, none⟩), .int .i64 (x172002_3.length : Int)] (by rfl) rfl rfl (by (try simp only [List.map_toArray, List.map_cons, List.map_nil]); first | done | rfl | (simp only [List.length_drop, List.length_take]; rfl)) ?_
                with_reducible refine (cutroomfilm_Tape_Next.calls g s0_0 x1001_3 (x172002_3.length : Int) t183 t184 w0 _ ?side1 ?side2 A72.out).mono ?_
                (case side1 => repeat (first | (with_reducible first | exact HI0.out | apply IsS72.alloc | apply IsS72.drewN | apply IsS72.drew | apply IsS72.set_1 | refine IsS72.far ?_ NB0_161.out _ | refine IsS72.far ?_ NB0_171.out _) | exact HI0.out))
                (case side2 => repeat (first | (with_reducible first | exact HB.out | apply zA | apply zN | apply zD | refine zP ?_ (IsS72.ge HI0.out) | refine zP ?_ GE161.out | refine zP ?_ GE171.out) | exact HB.out))
                rintro e w79 ⟨rfl, hi, hb, hk⟩
                refine ⟨_, rfl, ?_⟩
                have n0_ := Aside0.mk (Kd.R_mono (Kd.R_keep (IsS72.apart (show IsS72 w0 _ g s0_0 x1001_3 from by repeat (first | (with_reducible first | exact HI0.out | apply IsS72.alloc | apply IsS72.drewN | apply IsS72.drew | apply IsS72.set_1 | refine IsS72.far ?_ NB0_161.out _ | refine IsS72.far ?_ NB0_171.out _) | exact HI0.out)) (by (with_reducible repeat (first | apply Kd.R_alloc | apply Kd.R_drewN | apply Kd.R_drew)); exact HO_172002.out) (by decide)) hk (fun _ h => h.2)) (fun _ h => h.1))
                have n1_ := Aside0.mk (Kd.R_mono (Kd.R_keep (IsS72.apart (show IsS72 w0 _ g s0_0 x1001_3 from by repeat (first | (with_reducible first | exact HI0.out | apply IsS72.alloc | apply IsS72.drewN | apply IsS72.drew | apply IsS72.set_1 | refine IsS72.far ?_ NB0_161.out _ | refine IsS72.far ?_ NB0_171.out _) | exact HI0.out)) (by (with_reducible repeat (first | apply Kd.R_alloc | apply Kd.R_drewN | apply Kd.R_drew)); exact HO_172003.out) (by decide)) hk (fun _ h => h.2)) (fun _ h => h.1))
                have n2_ := Aside0.mk (Kd.R_mono (Kd.R_keep (IsS72.apart (show IsS72 w0 _ g s0_0 x1001_3 from by repeat (first | (with_reducible first | exact HI0.out | apply IsS72.alloc | apply IsS72.drewN | apply IsS72.drew | apply IsS72.set_1 | refine IsS72.far ?_ NB0_161.out _ | refine IsS72.far ?_ NB0_171.out _) | exact HI0.out)) (by (with_reducible repeat (first | apply Kd.R_alloc | apply Kd.R_drewN | apply Kd.R_drew)); exact HO_172004.out) (by decide)) hk (fun _ h => h.2)) (fun _ h => h.1))
                have n3_ := Aside0.mk (KeepBut.blk hk (g' := gb161) (o := .cells #[.int .i64 0, .int .i64 0, .slice none 0 0, .slice none 0 0, .slice none 0 0] 52 (0, 0)) (by (with_reducible repeat (first | refine yN ?_ _ | refine yD ?_ | refine yA ?_ _)); exact BK161.out) NB161_0.out (by simp))
                have n4_ := Aside0.mk (KeepBut.blk hk (g' := gb171) (o := .cells #[.int .i64 a1, .int .i64 a2, .slice Ao78 x172002_3.length co78, u172003, u172004] 52 (0, 0)) (by (with_reducible repeat (first | refine yN ?_ _ | refine yD ?_ | refine yA ?_ _)); exact BK171.out) NB171_0.out (by simp))
                have n5_ := Aside0.mk (KeepBut.trans (by repeat (first | (with_reducible first | exact HK.out | apply KeepBut.set_ | apply keep_drewN | apply keep_drew | apply keep_alloc | refine keep_far ?_ GW161.out _ | refine keep_far ?_ GW171.out _) | exact HK.out)) hk (.inl rfl))
                have n6_ := Aside0.mk (hb)
                have n7_ := Aside0.mk (hi)
                clear HO_172002
                clear HO_172003
                clear HO_172004
                clear BK161
                clear BK171
                clear HK
                clear HB
                clear HI0
                have HO_172002 := n0_
                have HO_172003 := n1_
                have HO_172004 := n2_
                have BK161 := n3_
                have BK171 := n4_
                have HK := n5_
                have HB := n6_
                have HI0 := n7_
                clear n0_ n1_ n2_ n3_ n4_ n5_ n6_ n7_
                (try clear hb)
                (try clear hb2)
                (try clear hk)
                (try clear hi)
                refine hK.out _ _ ⟨(blk_cell BK171.out 0).trans rfl, (blk_cell BK171.out 1).trans rfl, (blk_cell BK171.out 2).trans rfl, (blk_cell BK171.out 3).trans rfl, (blk_cell BK171.out 4).trans rfl⟩ (fun hHeld => ?_)
                clear hK K
                refine norm_ (a' := ?_) ?_ ?_
                rotate_left
                ·show Act.put _ (some 107) _ = _
                 simp only [Act.put, sA, sZ, sS, i64_w, i32_w]
                 rfl
                refine one_ (i := 8) (N := some 109) #[T', T', T', T', T', T', T', T', T', F', F', F'] rfl rfl (one_of HT_.out (by kernel_rfl)) (by decide) (fun K hK => ?_)
                refine goes_ Try.func57 (by kernel_rfl) rfl #[.pointer (some ⟨g, 0, none⟩), .int .i64 256] (by rfl) rfl rfl (by (try simp only [List.map_toArray, List.map_cons, List.map_nil]); first | done | rfl | (simp only [List.length_drop, List.length_take]; rfl)) ?_
                with_reducible refine (cutroomfilm_Tape_Next.calls g s0_0 t184 256 t185 t186 w0 _ ?side1 ?side2 A73.out).mono ?_
                (case side1 => repeat (first | (with_reducible first | exact HI0.out | apply IsS72.alloc | apply IsS72.drewN | apply IsS72.drew | apply IsS72.set_1 | refine IsS72.far ?_ NB0_161.out _ | refine IsS72.far ?_ NB0_171.out _) | exact HI0.out))
                (case side2 => repeat (first | (with_reducible first | exact HB.out | apply zA | apply zN | apply zD | refine zP ?_ (IsS72.ge HI0.out) | refine zP ?_ GE161.out | refine zP ?_ GE171.out) | exact HB.out))
                rintro e w80 ⟨rfl, hi, hb, hk⟩
                refine ⟨_, rfl, ?_⟩
                have n0_ := Aside0.mk (Kd.R_mono (Kd.R_keep (IsS72.apart (show IsS72 w0 _ g s0_0 t184 from by repeat (first | (with_reducible first | exact HI0.out | apply IsS72.alloc | apply IsS72.drewN | apply IsS72.drew | apply IsS72.set_1 | refine IsS72.far ?_ NB0_161.out _ | refine IsS72.far ?_ NB0_171.out _) | exact HI0.out)) (by (with_reducible repeat (first | apply Kd.R_alloc | apply Kd.R_drewN | apply Kd.R_drew)); exact HO_172002.out) (by decide)) hk (fun _ h => h.2)) (fun _ h => h.1))
                have n1_ := Aside0.mk (Kd.R_mono (Kd.R_keep (IsS72.apart (show IsS72 w0 _ g s0_0 t184 from by repeat (first | (with_reducible first | exact HI0.out | apply IsS72.alloc | apply IsS72.drewN | apply IsS72.drew | apply IsS72.set_1 | refine IsS72.far ?_ NB0_161.out _ | refine IsS72.far ?_ NB0_171.out _) | exact HI0.out)) (by (with_reducible repeat (first | apply Kd.R_alloc | apply Kd.R_drewN | apply Kd.R_drew)); exact HO_172003.out) (by decide)) hk (fun _ h => h.2)) (fun _ h => h.1))
                have n2_ := Aside0.mk (Kd.R_mono (Kd.R_keep (IsS72.apart (show IsS72 w0 _ g s0_0 t184 from by repeat (first | (with_reducible first | exact HI0.out | apply IsS72.alloc | apply IsS72.drewN | apply IsS72.drew | apply IsS72.set_1 | refine IsS72.far ?_ NB0_161.out _ | refine IsS72.far ?_ NB0_171.out _) | exact HI0.out)) (by (with_reducible repeat (first | apply Kd.R_alloc | apply Kd.R_drewN | apply Kd.R_drew)); exact HO_172004.out) (by decide)) hk (fun _ h => h.2)) (fun _ h => h.1))
                have n3_ := Aside0.mk (KeepBut.blk hk (g' := gb161) (o := .cells #[.int .i64 0, .int .i64 0, .slice none 0 0, .slice none 0 0, .slice none 0 0] 52 (0, 0)) (by (with_reducible repeat (first | refine yN ?_ _ | refine yD ?_ | refine yA ?_ _)); exact BK161.out) NB161_0.out (by simp))
                have n4_ := Aside0.mk (KeepBut.blk hk (g' := gb171) (o := .cells #[.int .i64 a1, .int .i64 a2, .slice Ao78 x172002_3.length co78, u172003, u172004] 52 (0, 0)) (by (with_reducible repeat (first | refine yN ?_ _ | refine yD ?_ | refine yA ?_ _)); exact BK171.out) NB171_0.out (by simp))
                have n5_ := Aside0.mk (KeepBut.trans (by repeat (first | (with_reducible first | exact HK.out | apply KeepBut.set_ | apply keep_drewN | apply keep_drew | apply keep_alloc | refine keep_far ?_ GW161.out _ | refine keep_far ?_ GW171.out _) | exact HK.out)) hk (.inl rfl))
                have n6_ := Aside0.mk (hb)
                have n7_ := Aside0.mk (hi)
                clear HO_172002
                clear HO_172003
                clear HO_172004
                clear BK161
                clear BK171
                clear HK
                clear HB
                clear HI0
                have HO_172002 := n0_
                have HO_172003 := n1_
                have HO_172004 := n2_
                have BK161 := n3_
                have BK171 := n4_
                have HK := n5_
                have HB := n6_
                have HI0 := n7_
                clear n0_ n1_ n2_ n3_ n4_ n5_ n6_ n7_
                (try clear hb)
                (try clear hb2)
                (try clear hk)
                (try clear hi)
                have p76 : 0 ≤ (t183 : Int) := of_decide_eq_true (by first | (with_reducible assumption) | assumption)
                have q76 : (t183 : Int) < ((x172002_3.length : Int) : Int) := of_decide_eq_true (by first | (with_reducible assumption) | assumption)
                obtain ⟨go76, co76, eo76, gb76, gl76, cl76, HG76⟩ := Kd.R_form HO_172002.out (by omega)
                (first | cases eo76 | (injection eo76 with ea_ en_ ec_; (first | subst ea_ | (injection ea_ with ea_; subst ea_)); subst ec_; clear en_))
                have GB76 := Aside0.mk gb76
                have GG76 := Aside0.mk HG76
                clear gb76 gl76 HG76
                obtain ⟨hx76_0, hf76_0⟩ := Kd.R_celln 0 HO_172002.out (t183 : Int) p76 q76
                replace p76 := eq_true p76
                replace q76 := eq_true q76
                have HN0_go76 := Aside0.mk (show g ≠ go76 from by have h_ := IsS72.own_ne HI0.out HO_172002.out (by decide); intro e_; exact h_ (by rw [e_]; rfl))
                have HP81 := Kd.R_putn HO_172002.out (t183 : Int) ((t185) % 256)
                rw [← Ny187.out] at HP81
                have HQ81 := Aside0.mk HP81
                clear HP81
                refine hK.out _ _ ⟨(blk_cell BK171.out 0).trans rfl, (blk_cell BK171.out 1).trans rfl, (blk_cell BK171.out 2).trans rfl, (blk_cell BK171.out 3).trans rfl, (blk_cell BK171.out 4).trans rfl⟩ (fun hHeld => ?_)
                clear hK K
                refine norm_ (a' := ?_) ?_ ?_
                rotate_left
                ·show Act.put _ (some 109) _ = _
                 simp only [Act.put, sA, sZ, sS, i64_w, i32_w]
                 rfl
                refine Abb.pS 9 110 #[T', T', T', T', T', T', T', T', T', T', F', F'] HT_ ?_
                refine Abb.pS 10 111 #[T', T', T', T', T', T', T', T', T', T', T', F'] HT_ ?_
                refine last_ (i := 11) (N := none) #[T', T', T', T', T', T', T', T', T', T', T', T'] rfl rfl (one_of HT_.out (by kernel_rfl)) (by decide) (fun K hK => ?_)
                refine skip_ (w1 := ?_) (by rfl) rfl ?_ ?_
                rotate_left
                ·go_simp
                 rfl
                refine hK.out _ _ ?_
                clear hK K
                refine done_ (done_of HT_.out (by kernel_rfl)) ?_
                try go_wp2
                go_roundg k3
                case measure => have := HK1.out; have := HK2.out; have := HK3.out; omega
                case rel => exact ⟨(wrap64 (x13_3 - 1)), (t186), (y187), (x172003_3), (x172004_3), (.slice (some ⟨go76, 0, none⟩) x172002_3.length co78), (u172003), (u172004), (by first | rfl | (simp; done) | (simp [*]; done)), H', ⟨by have := HK1.out; have := HK2.out; have := HK3.out; omega⟩, ⟨by (with_reducible repeat (first | apply Kd.R_alloc | apply Kd.R_drewN | apply Kd.R_drew)); exact HQ81.out⟩, ⟨by (with_reducible repeat (first | apply Kd.R_alloc | apply Kd.R_drewN | apply Kd.R_drew)); exact Kd.R_mono (Kd.R_far (p := ⟨go76, (t183 : Int).toNat, none⟩) (Kd.R_mono HO_172003.out (fun k_ hk => (⟨hk, fun e_ => hk.1 (by rw [e_]; rfl)⟩ : _ ∧ k_ ≠ go76))) (fun _ hk => hk.2) (.int .u8 ((t185) % 256))) (fun _ hk => ⟨hk.1.1, hk.1.2⟩)⟩, ⟨by (with_reducible repeat (first | apply Kd.R_alloc | apply Kd.R_drewN | apply Kd.R_drew)); exact Kd.R_mono (Kd.R_far (p := ⟨go76, (t183 : Int).toNat, none⟩) (Kd.R_mono HO_172004.out (fun k_ hk => (⟨hk, fun e_ => hk.1 (by rw [e_]; rfl)⟩ : _ ∧ k_ ≠ go76))) (fun _ hk => hk.2) (.int .u8 ((t185) % 256))) (fun _ hk => ⟨hk.1.1, hk.1.2⟩)⟩, ⟨by (with_reducible repeat (first | refine yN ?_ _ | refine yD ?_ | refine yA ?_ _)); refine blk_far ?_ (by have h_ := Kd.R_ne HO_172002.out BK161.out (by decide); intro e_; exact h_ (by rw [e_]; rfl)) _; (with_reducible repeat (first | refine yN ?_ _ | refine yD ?_ | refine yA ?_ _)); exact BK161.out⟩, ⟨by (with_reducible repeat (first | refine yN ?_ _ | refine yD ?_ | refine yA ?_ _)); refine blk_far ?_ (by have h_ := Kd.R_ne HO_172002.out BK171.out (by decide); intro e_; exact h_ (by rw [e_]; rfl)) _; (with_reducible repeat (first | refine yN ?_ _ | refine yD ?_ | refine yA ?_ _)); exact BK171.out⟩, ⟨by repeat (first | (with_reducible first | exact HI0.out | apply IsS72.alloc | apply IsS72.drewN | apply IsS72.drew | apply IsS72.set_1 | refine IsS72.far ?_ HN0_go76.out _ | refine IsS72.far ?_ NB0_161.out _ | refine IsS72.far ?_ NB0_171.out _) | exact HI0.out)⟩, ⟨by repeat (first | (with_reducible first | exact HK.out | apply KeepBut.set_ | apply keep_drewN | apply keep_drew | apply keep_alloc | refine keep_far ?_ GB76.out _ | refine keep_far ?_ GW161.out _ | refine keep_far ?_ GW171.out _) | exact HK.out)⟩, ⟨by repeat (first | (with_reducible first | exact HB.out | apply zA | apply zN | apply zD | refine zP ?_ (Nat.le_trans HL.out GB76.out) | refine zP ?_ (IsS72.ge HI0.out) | refine zP ?_ GE161.out | refine zP ?_ GE171.out) | exact HB.out)⟩⟩
               ·rw [if_neg c75] at H
                exact absurd H (by simp)
              ·rw [if_neg c74] at H
               exact absurd H (by simp)
             ·rw [if_neg c71] at H
              have c71b0 : decide (0 < x13_3) = false := decide_eq_false c71
              clear c71
              simp only [Option.some.injEq, Prod.mk.injEq] at H
              obtain ⟨rfl, rfl, rfl, rfl, rfl, rfl⟩ := H
              have hnb82 := NB171_161.out
              have hnc82 := NB161_171.out
              have hnb83 := NB171_0.out
              have hnc83 := NB0_171.out
              have hcz84_0 : wr.cell? ⟨gb171, 0, none⟩ = some (.int .i64 a1) := (blk_cell BK171.out 0).trans rfl
              have hcz84_1 : wr.cell? ⟨gb171, 1, none⟩ = some (.int .i64 a2) := (blk_cell BK171.out 1).trans rfl
              have hcz84_2 : wr.cell? ⟨gb171, 2, none⟩ = some (u172002) := (blk_cell BK171.out 2).trans rfl
              have hcz84_3 : wr.cell? ⟨gb171, 3, none⟩ = some (u172003) := (blk_cell BK171.out 3).trans rfl
              have hcz84_4 : wr.cell? ⟨gb171, 4, none⟩ = some (u172004) := (blk_cell BK171.out 4).trans rfl
              have hfz84_0 := blk_frozen BK171.out 0
              have hfz84_1 := blk_frozen BK171.out 1
              have hfz84_2 := blk_frozen BK171.out 2
              have hfz84_3 := blk_frozen BK171.out 3
              have hfz84_4 := blk_frozen BK171.out 4
              have hnb85 := NB161_0.out
              have hnc85 := NB0_161.out
              have hcz86_0 : wr.cell? ⟨gb161, 0, none⟩ = some (.int .i64 0) := (blk_cell BK161.out 0).trans rfl
              have hcz86_1 : wr.cell? ⟨gb161, 1, none⟩ = some (.int .i64 0) := (blk_cell BK161.out 1).trans rfl
              have hcz86_2 : wr.cell? ⟨gb161, 2, none⟩ = some (.slice none 0 0) := (blk_cell BK161.out 2).trans rfl
              have hcz86_3 : wr.cell? ⟨gb161, 3, none⟩ = some (.slice none 0 0) := (blk_cell BK161.out 3).trans rfl
              have hcz86_4 : wr.cell? ⟨gb161, 4, none⟩ = some (.slice none 0 0) := (blk_cell BK161.out 4).trans rfl
              have hfz86_0 := blk_frozen BK161.out 0
              have hfz86_1 := blk_frozen BK161.out 1
              have hfz86_2 := blk_frozen BK161.out 2
              have hfz86_3 := blk_frozen BK161.out 3
              have hfz86_4 := blk_frozen BK161.out 4
              obtain ⟨Ao87, co87, eo87⟩ := Kd.R_slice HO_172002.out
              subst eo87
              obtain ⟨Ao88, co88, eo88⟩ := Kd.R_slice HO_172003.out
              subst eo88
              obtain ⟨Ao89, co89, eo89⟩ := Kd.R_slice HO_172004.out
              subst eo89
              go_wp2
              refine bodyPost_ret (results_cell_row rfl _ _ gb161 52 #[.int .i64 a1, .int .i64 a2, .slice Ao87 x172002_3.length co87, .slice Ao88 x172003_3.length co88, .slice Ao89 x172004_3.length co89] (0, 0) _ rfl (by (with_reducible repeat (first | refine yN ?_ _ | refine yD ?_ | refine yA ?_ _)); refine blk_put (cs := #[.int .i64 a1, .int .i64 a2, .slice Ao87 x172002_3.length co87, .slice Ao88 x172003_3.length co88, .slice none 0 0]) ?_ 4 _ rfl; (with_reducible repeat (first | refine yN ?_ _ | refine yD ?_ | refine yA ?_ _)); refine blk_put (cs := #[.int .i64 a1, .int .i64 a2, .slice Ao87 x172002_3.length co87, .slice none 0 0, .slice none 0 0]) ?_ 3 _ rfl; (with_reducible repeat (first | refine yN ?_ _ | refine yD ?_ | refine yA ?_ _)); refine blk_put (cs := #[.int .i64 a1, .int .i64 a2, .slice none 0 0, .slice none 0 0, .slice none 0 0]) ?_ 2 _ rfl; (with_reducible repeat (first | refine yN ?_ _ | refine yD ?_ | refine yA ?_ _)); refine blk_put (cs := #[.int .i64 a1, .int .i64 0, .slice none 0 0, .slice none 0 0, .slice none 0 0]) ?_ 1 _ rfl; (with_reducible repeat (first | refine yN ?_ _ | refine yD ?_ | refine yA ?_ _)); refine blk_put (cs := #[.int .i64 0, .int .i64 0, .slice none 0 0, .slice none 0 0, .slice none 0 0]) ?_ 0 _ rfl; (with_reducible repeat (first | refine yN ?_ _ | refine yD ?_ | refine yA ?_ _)); exact BK161.out) Try.underlying52 rfl (by kernel_rfl)) rfl ?_
              exact ⟨_, _, _, by first | rfl | (simp [errW_none, errW_some] <;> rfl) | (simp only [← hji4, ← hji7]; first | rfl | (simp [errW_none, errW_some] <;> rfl)) | (simp [*, errW_none, errW_some] <;> rfl), by (with_reducible repeat (first | apply Kd.R_alloc | apply Kd.R_drewN | apply Kd.R_drew)); exact Kd.R_mono (Kd.R_far (p := ⟨gb161, 4, none⟩) (Kd.R_far (p := ⟨gb161, 3, none⟩) (Kd.R_far (p := ⟨gb161, 2, none⟩) (Kd.R_far (p := ⟨gb161, 1, none⟩) (Kd.R_far (p := ⟨gb161, 0, none⟩) (Kd.R_types HO_172002.out BK161.out (by decide)) (fun _ hk => hk.2) (.int .i64 a1)) (fun _ hk => hk.2) (.int .i64 a2)) (fun _ hk => hk.2) (.slice Ao87 x172002_3.length co87)) (fun _ hk => hk.2) (.slice Ao88 x172003_3.length co88)) (fun _ hk => hk.2) (.slice Ao89 x172004_3.length co89)) (fun _ hk => ⟨hk.1.1, hk.1.2⟩), by (with_reducible repeat (first | apply Kd.R_alloc | apply Kd.R_drewN | apply Kd.R_drew)); exact Kd.R_mono (Kd.R_far (p := ⟨gb161, 4, none⟩) (Kd.R_far (p := ⟨gb161, 3, none⟩) (Kd.R_far (p := ⟨gb161, 2, none⟩) (Kd.R_far (p := ⟨gb161, 1, none⟩) (Kd.R_far (p := ⟨gb161, 0, none⟩) (Kd.R_types HO_172003.out BK161.out (by decide)) (fun _ hk => hk.2) (.int .i64 a1)) (fun _ hk => hk.2) (.int .i64 a2)) (fun _ hk => hk.2) (.slice Ao87 x172002_3.length co87)) (fun _ hk => hk.2) (.slice Ao88 x172003_3.length co88)) (fun _ hk => hk.2) (.slice Ao89 x172004_3.length co89)) (fun _ hk => ⟨hk.1.1, hk.1.2⟩), by (with_reducible repeat (first | apply Kd.R_alloc | apply Kd.R_drewN | apply Kd.R_drew)); exact Kd.R_mono (Kd.R_far (p := ⟨gb161, 4, none⟩) (Kd.R_far (p := ⟨gb161, 3, none⟩) (Kd.R_far (p := ⟨gb161, 2, none⟩) (Kd.R_far (p := ⟨gb161, 1, none⟩) (Kd.R_far (p := ⟨gb161, 0, none⟩) (Kd.R_types HO_172004.out BK161.out (by decide)) (fun _ hk => hk.2) (.int .i64 a1)) (fun _ hk => hk.2) (.int .i64 a2)) (fun _ hk => hk.2) (.slice Ao87 x172002_3.length co87)) (fun _ hk => hk.2) (.slice Ao88 x172003_3.length co88)) (fun _ hk => hk.2) (.slice Ao89 x172004_3.length co89)) (fun _ hk => ⟨hk.1.1, hk.1.2⟩), by repeat (first | (with_reducible first | exact HI0.out | apply IsS72.alloc | apply IsS72.drewN | apply IsS72.drew | apply IsS72.set_1 | refine IsS72.far ?_ NB0_161.out _ | refine IsS72.far ?_ NB0_171.out _) | exact HI0.out), by repeat (first | (with_reducible first | exact HB.out | apply zA | apply zN | apply zD | refine zP ?_ (IsS72.ge HI0.out) | refine zP ?_ GE161.out | refine zP ?_ GE171.out) | exact HB.out), by repeat (first | (with_reducible first | exact HK.out | apply KeepBut.set_ | apply keep_drewN | apply keep_drew | apply keep_alloc | refine keep_far ?_ GW161.out _ | refine keep_far ?_ GW171.out _) | exact HK.out)⟩
    ·rw [if_neg c9] at H
     exact absurd H (by simp)
   ·rw [if_neg c8] at H
    exact absurd H (by simp)
  ·rw [if_neg c6] at H
   exact absurd H (by simp)
 ·rw [if_neg c5] at H
  exact absurd H (by simp)

end Go.Proofs.Ytcofjbbflcnaaaa.P
